/-
The reference's values, more: as numbers, as texts, as truths; the operations of one: the same as the program's.
-/
import Derived.Test.YtmakkdlkgfgaoaaGreatDoorF108
import Derived.Test.YtmakkdlkgfgaoaaGreatDoorU1
import Derived.Test.YtmakkdlkgfgaoaaGreatDoorV2
namespace Go.Proofs.YtmakkdlkgfgaoaaGreatDoor.F
open Go.RowKit Go.Proofs.YtmakkdlkgfgaoaaGreatDoorW.PrintWords NumM
set_option linter.unusedVariables false
set_option linter.unusedSimpArgs false

theorem rasnum_ev (v : V) (h : BV v) : Ev (fun k => whittleref2_AsNumber.f k v.1 v.2.1 v.2.2.1 v.2.2.2.1 v.2.2.2.2.1 v.2.2.2.2.2) (numV (asQ (tk v))) := by
  unfold whittleref2_AsNumber.f
  refine Ev.bind (rof_ev v h) ?_
  have ok := ok_tk v
  generalize tk v = w at ok ⊢
  cases w with
  | blank => exact Ev.ite_neg (by decide) (Ev.ite_neg (by decide) (Ev.ite_neg (by decide) (Ev.ite_neg (by decide) (Ev.const rfl))))
  | num q => exact Ev.ite_pos rfl (Ev.const rfl)
  | text l =>
    refine Ev.ite_neg (show ¬ ((2 : Int) = 1) by decide) (Ev.ite_pos rfl ?_)
    refine Ev.bind (readR_ev l (by have := ok.1; omega)) ?_
    rcases readS_cases l with hr | ⟨r, hr, he⟩
    · refine Ev.ite_neg (by rw [hr]; decide) (Ev.const ?_)
      simp only [asQ, hr]; rfl
    · refine Ev.ite_pos (by rw [he]) (Ev.const ?_)
      simp only [asQ, he, if_true, rat_of_fits hr]; rfl
  | truth b =>
    refine Ev.ite_neg (show ¬ ((3 : Int) = 1) by decide) (Ev.ite_neg (show ¬ ((3 : Int) = 2) by decide) (Ev.ite_pos rfl ?_))
    cases b
    · exact Ev.ite_neg (by decide) (Ev.const rfl)
    · exact Ev.ite_pos rfl (Ev.const rfl)
  | fault c => exact Ev.ite_neg (show ¬ ((4 : Int) = 1) by decide) (Ev.ite_neg (show ¬ ((4 : Int) = 2) by decide) (Ev.ite_neg (show ¬ ((4 : Int) = 3) by decide) (Ev.ite_pos rfl (Ev.const rfl))))
theorem reasnum_ev {w : W} (h : w.Ok) : Ev (fun k => whittleref2_AsNumber.f k (enc w).1 (enc w).2.1 (enc w).2.2.1 (enc w).2.2.2.1 (enc w).2.2.2.2.1 (enc w).2.2.2.2.2) (numV (asQ w)) := by
  have := rasnum_ev (enc w) (bv_enc h)
  rw [tk_enc h] at this
  exact this
theorem rastext_ev (v : V) (h : BV v) : Ev (fun k => whittleref2_AsText.f k v.1 v.2.1 v.2.2.1 v.2.2.2.1 v.2.2.2.2.1 v.2.2.2.2.2) (by' (asTxt (tk v)), enc (asErr (tk v))) := by
  unfold whittleref2_AsText.f
  refine Ev.bind (rof_ev v h) ?_
  have ok := ok_tk v
  generalize tk v = w at ok ⊢
  cases w with
  | blank => exact Ev.ite_neg (by decide) (Ev.ite_neg (by decide) (Ev.ite_neg (by decide) (Ev.ite_neg (by decide) (Ev.const rfl))))
  | num q =>
    refine Ev.ite_pos rfl ?_
    have ht := textR_ev (i64_num ok) (i64_den ok)
    rw [rat_of_fits ok] at ht
    exact Ev.bind ht (Ev.const rfl)
  | text l => exact Ev.ite_neg (show ¬ ((2 : Int) = 1) by decide) (Ev.ite_pos rfl (Ev.const rfl))
  | truth b =>
    refine Ev.ite_neg (show ¬ ((3 : Int) = 1) by decide) (Ev.ite_neg (show ¬ ((3 : Int) = 2) by decide) (Ev.ite_pos rfl (Ev.const ?_)))
    cases b <;> rfl
  | fault c => exact Ev.ite_neg (show ¬ ((4 : Int) = 1) by decide) (Ev.ite_neg (show ¬ ((4 : Int) = 2) by decide) (Ev.ite_neg (show ¬ ((4 : Int) = 3) by decide) (Ev.ite_pos rfl (Ev.const rfl))))
theorem rtold_ev (q : Rat) : Ev (fun k => whittleref2_fitting.f k (res q).1 (res q).2.1 (res q).2.2) (enc (toldQ q)) := by
  unfold res toldQ whittleref2_fitting.f
  by_cases h : Fits q
  · rw [if_pos h, if_pos h]
    have := rnumber_ev (i64_num h) (i64_den h)
    rw [rat_of_fits h] at this
    exact Ev.ite_pos rfl (Ev.bind this (Ev.now _))
  · rw [if_neg h, if_neg h]
    exact Ev.ite_neg (by decide) (Ev.const rfl)
end Go.Proofs.YtmakkdlkgfgaoaaGreatDoor.F
