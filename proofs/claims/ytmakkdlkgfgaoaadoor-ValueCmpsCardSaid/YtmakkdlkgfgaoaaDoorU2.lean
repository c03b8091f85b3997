/-
The reference's values, more: as numbers, as texts, as truths; the operations of one: the same as the program's.
-/
import Derived.Test.YtmakkdlkgfgaoaaDoorF108
import Derived.Test.YtmakkdlkgfgaoaaDoorU1
import Derived.Test.YtmakkdlkgfgaoaaDoorV2
namespace Go.Proofs.YtmakkdlkgfgaoaaDoor.F
open Go.RowKit Go.Proofs.YtmakkdlkgfgaoaaDoorW.PrintWords NumM
set_option linter.unusedVariables false
set_option linter.unusedSimpArgs false

theorem rasnum_ev (v : V) (h : BV v) : Ev (fun k => whittleref2_AsNumber.f k v.1 v.2.1 v.2.2.1 v.2.2.2.1 v.2.2.2.2.1 v.2.2.2.2.2) (numV (asQ (tk v))) := by
  unfold whittleref2_AsNumber.f
  refine Ev.bind (rof_ev v h) ?_
  have ok := ok_tk v
  generalize tk v = w at ok ⊢
  cases w with
  | blank => exact Ev.ite_neg (by decide) (Ev.ite_neg (by decide) (Ev.ite_neg (by decide) (Ev.ite_neg (by decide) (Ev.const rfl))))
  | num q => exact Ev.ite_pos rfl (Ev.const rfl)
  | text l =>
    refine Ev.ite_neg (show ¬ ((2 : Int) = 1) by decide) (Ev.ite_pos rfl ?_)
    refine Ev.bind (readR_ev l (by have := ok.1; omega)) ?_
    rcases readS_cases l with hr | ⟨r, hr, he⟩
    · refine Ev.ite_neg (by rw [hr]; decide) (Ev.const ?_)
      simp only [asQ, hr]; rfl
    · refine Ev.ite_pos (by rw [he]) (Ev.const ?_)
      simp only [asQ, he, if_true, rat_of_fits hr]; rfl
  | truth b =>
    refine Ev.ite_neg (show ¬ ((3 : Int) = 1) by decide) (Ev.ite_neg (show ¬ ((3 : Int) = 2) by decide) (Ev.ite_pos rfl ?_))
    cases b
    · exact Ev.ite_neg (by decide) (Ev.const rfl)
    · exact Ev.ite_pos rfl (Ev.const rfl)
  | fault c => exact Ev.ite_neg (show ¬ ((4 : Int) = 1) by decide) (Ev.ite_neg (show ¬ ((4 : Int) = 2) by decide) (Ev.ite_neg (show ¬ ((4 : Int) = 3) by decide) (Ev.ite_pos rfl (Ev.const rfl))))
theorem reasnum_ev {w : W} (h : w.Ok) : Ev (fun k => whittleref2_AsNumber.f k (enc w).1 (enc w).2.1 (enc w).2.2.1 (enc w).2.2.2.1 (enc w).2.2.2.2.1 (enc w).2.2.2.2.2) (numV (asQ w)) := by
  have := rasnum_ev (enc w) (bv_enc h)
  rw [tk_enc h] at this
  exact this
theorem rastext_ev (v : V) (h : BV v) : Ev (fun k => whittleref2_AsText.f k v.1 v.2.1 v.2.2.1 v.2.2.2.1 v.2.2.2.2.1 v.2.2.2.2.2) (by' (asTxt (tk v)), enc (asErr (tk v))) := by
  unfold whittleref2_AsText.f
  refine Ev.bind (rof_ev v h) ?_
  have ok := ok_tk v
  generalize tk v = w at ok ⊢
  cases w with
  | blank => exact Ev.ite_neg (by decide) (Ev.ite_neg (by decide) (Ev.ite_neg (by decide) (Ev.ite_neg (by decide) (Ev.const rfl))))
  | num q =>
    refine Ev.ite_pos rfl ?_
    have ht := textR_ev (i64_num ok) (i64_den ok)
    rw [rat_of_fits ok] at ht
    exact Ev.bind ht (Ev.const rfl)
  | text l => exact Ev.ite_neg (show ¬ ((2 : Int) = 1) by decide) (Ev.ite_pos rfl (Ev.const rfl))
  | truth b =>
    refine Ev.ite_neg (show ¬ ((3 : Int) = 1) by decide) (Ev.ite_neg (show ¬ ((3 : Int) = 2) by decide) (Ev.ite_pos rfl (Ev.const ?_)))
    cases b <;> rfl
  | fault c => exact Ev.ite_neg (show ¬ ((4 : Int) = 1) by decide) (Ev.ite_neg (show ¬ ((4 : Int) = 2) by decide) (Ev.ite_neg (show ¬ ((4 : Int) = 3) by decide) (Ev.ite_pos rfl (Ev.const rfl))))
theorem rastruth_ev (v : V) (h : BV v) : Ev (fun k => whittleref2_AsTruth.f k v.1 v.2.1 v.2.2.1 v.2.2.2.1 v.2.2.2.2.1 v.2.2.2.2.2) ((asB (tk v)).1, enc (asB (tk v)).2) := by
  unfold whittleref2_AsTruth.f
  refine Ev.bind (rof_ev v h) ?_
  have ok := ok_tk v
  generalize tk v = w at ok ⊢
  cases w with
  | blank => exact Ev.ite_neg (by decide) (Ev.ite_neg (by decide) (Ev.ite_neg (by decide) (Ev.ite_neg (by decide) (Ev.const rfl))))
  | num q => exact Ev.ite_pos rfl (Ev.const rfl)
  | text l =>
    refine Ev.ite_neg (show ¬ ((2 : Int) = 1) by decide) (Ev.ite_pos rfl ?_)
    simp only [enc, by_toList, asB]
    by_cases h1 : l = [84, 82, 85, 69]
    · subst h1
      exact Ev.ite_pos rfl (Ev.const rfl)
    · refine Ev.ite_neg h1 ?_
      simp only [if_neg h1]
      by_cases h2 : l = [70, 65, 76, 83, 69]
      · subst h2
        exact Ev.ite_pos rfl (Ev.const rfl)
      · simp only [if_neg h2]
        exact Ev.const rfl
  | truth b => exact Ev.ite_neg (show ¬ ((3 : Int) = 1) by decide) (Ev.ite_neg (show ¬ ((3 : Int) = 2) by decide) (Ev.ite_pos rfl (Ev.const rfl)))
  | fault c => exact Ev.ite_neg (show ¬ ((4 : Int) = 1) by decide) (Ev.ite_neg (show ¬ ((4 : Int) = 2) by decide) (Ev.ite_neg (show ¬ ((4 : Int) = 3) by decide) (Ev.ite_pos rfl (Ev.const rfl))))
theorem rtold_ev (q : Rat) : Ev (fun k => whittleref2_fitting.f k (res q).1 (res q).2.1 (res q).2.2) (enc (toldQ q)) := by
  unfold res toldQ whittleref2_fitting.f
  by_cases h : Fits q
  · rw [if_pos h, if_pos h]
    have := rnumber_ev (i64_num h) (i64_den h)
    rw [rat_of_fits h] at this
    exact Ev.ite_pos rfl (Ev.bind this (Ev.now _))
  · rw [if_neg h, if_neg h]
    exact Ev.ite_neg (by decide) (Ev.const rfl)
theorem run_j1 (op : Int) (w : W) (ok : w.Ok) (hf : ¬ ∃ c, w = .fault c) : Ev (fun k => whittleref2_Un.j1 k op (op == 2) (enc w).1 (enc w).2.1 (enc w).2.2.1 (enc w).2.2.2.1 (enc w).2.2.2.2.1 (enc w).2.2.2.2.2) (enc (unQ op w)) := by
  refine Ev.step (fun k => by simp only [whittleref2_Un.j1]; rfl) ?_
  unfold unQ
  by_cases h2 : op = 2
  · rw [if_pos h2]; exact Ev.ite_pos (by simp [h2]) (Ev.now _)
  · rw [if_neg h2]
    refine Ev.ite_neg (by simp [h2]) (Ev.bind (reasnum_ev ok) ?_)
    cases ha : asQ w with
    | error c => exact Ev.ite_pos rfl (Ev.now _)
    | ok q =>
      have hq := asQ_fits ok ha
      refine Ev.ite_neg (show ¬ ((0 : Int) = 4) by decide) ?_
      simp only [numV]
      by_cases h1 : op = 1
      · rw [if_pos h1]
        refine Ev.ite_pos h1 ?_
        have hn := negR_ev (i64_num hq) (i64_den hq)
        rw [rat_of_fits hq] at hn
        refine Ev.bind hn ?_
        have := rnumber_ev (i64_num (fits_neg hq)) (i64_den (fits_neg hq))
        rw [rat_of_fits (fits_neg hq)] at this
        exact Ev.bind this (Ev.now _)
      · rw [if_neg h1]
        refine Ev.ite_neg h1 ?_
        have hd := divR_ev (i64_num hq) (i64_den hq) (m := 100) (e := 1) (by unfold I64; omega) (by unfold I64; omega)
        rw [rat_of_fits hq, show rat 100 1 = 100 from by decide +kernel, if_neg (by decide +kernel)] at hd
        exact Ev.bind hd (Ev.bind (rtold_ev _) (Ev.now _))
theorem run_j0 (op : Int) (w : W) (ok : w.Ok) : Ev (fun k => whittleref2_Un.j0 k op false (enc w).1 (enc w).2.1 (enc w).2.2.1 (enc w).2.2.2.1 (enc w).2.2.2.2.1 (enc w).2.2.2.2.2) (enc (orFault w (unQ op w))) := by
  refine Ev.step (fun k => by simp only [whittleref2_Un.j0]; exact if_neg (by decide)) ?_
  by_cases hf : ∃ c, w = .fault c
  · obtain ⟨c, rfl⟩ := hf
    refine Ev.ite_pos rfl (Ev.step (f := fun _ => some (enc (.fault c))) (fun k => by simp only [whittleref2_Un.j1, if_true] <;> rfl) (Ev.now _))
  · refine Ev.ite_neg (kind_ne hf) ?_
    rw [orFault_ne hf]
    exact run_j1 op w ok hf
theorem run_ev (op : Int) (v : V) (h : BV v) : Ev (fun k => whittleref2_Un.f k op v.1 v.2.1 v.2.2.1 v.2.2.2.1 v.2.2.2.2.1 v.2.2.2.2.2) (enc (unW op (tk v))) := by
  unfold whittleref2_Un.f unW
  refine Ev.bind (rof_ev v h) ?_
  have ok := ok_tk v
  generalize tk v = w at ok ⊢
  by_cases h1 : op = 1
  · rw [if_pos (Or.inl h1)]
    exact Ev.ite_pos h1 (run_j0 op w ok)
  refine Ev.ite_neg h1 ?_
  by_cases h2 : op = 2
  · rw [if_pos (Or.inr (Or.inl h2))]
    exact Ev.ite_pos h2 (run_j0 op w ok)
  refine Ev.ite_neg h2 ?_
  by_cases h3 : op = 3
  · rw [if_pos (Or.inr (Or.inr h3)), show (op != 3) = false from by simp [h3]]
    exact run_j0 op w ok
  · rw [if_neg (by rintro (h | h | h) <;> contradiction), show (op != 3) = true from by simp [h3]]
    exact Ev.step (f := fun _ => some (enc (.fault 2))) (fun k => by simp only [whittleref2_Un.j0, if_true] <;> rfl) (Ev.now _)
end Go.Proofs.YtmakkdlkgfgaoaaDoor.F
