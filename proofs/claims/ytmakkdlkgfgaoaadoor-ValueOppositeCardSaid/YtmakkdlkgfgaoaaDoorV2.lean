/-
Values, plainly, more: as numbers, as texts, as truths; the operations of one; orders.
-/
import Derived.Test.YtmakkdlkgfgaoaaDoorF103
import Derived.Test.YtmakkdlkgfgaoaaDoorF104
import Derived.Test.YtmakkdlkgfgaoaaDoorV1
namespace Go.Proofs.YtmakkdlkgfgaoaaDoor.F
open Go.RowKit Go.Proofs.YtmakkdlkgfgaoaaDoorW.PrintWords NumM
set_option linter.unusedVariables false
set_option linter.unusedSimpArgs false

/-- as a number, or the fault -/
def asQ : W → Except Int Rat
  | .blank => .ok 0
  | .num q => .ok q
  | .text l => if (readS l).2.2 = true then .ok (rat (readS l).1 (readS l).2.1) else .error 2
  | .truth b => .ok (if b = true then 1 else 0)
  | .fault c => .error c
def numV : Except Int Rat → Int × Int × V
  | .ok q => (q.num, (q.den : Int), enc .blank)
  | .error c => (0, 0, enc (.fault c))
theorem asQ_fits {w : W} (h : w.Ok) {q : Rat} (e : asQ w = .ok q) : Fits q := by
  cases w with
  | blank => cases e; decide
  | num p => cases e; exact h
  | text l =>
    simp only [asQ] at e
    split at e
    · cases e; exact fits_rat _ _
    · cases e
  | truth b => cases b <;> cases e <;> decide
  | fault c => cases e
theorem asQ_fault {w : W} (h : w.Ok) {c : Int} (e : asQ w = .error c) : 1 ≤ c ∧ c ≤ 8 := by
  cases w with
  | blank => cases e
  | num p => cases e
  | text l =>
    simp only [asQ] at e
    split at e
    · cases e
    · cases e; omega
  | truth b => cases e
  | fault c => cases e; exact h
theorem asnum_ev (v : V) (h : BV v) : Ev (fun k => value_AsNumber.f k v.1 v.2.1 v.2.2.1 v.2.2.2.1 v.2.2.2.2.1 v.2.2.2.2.2) (numV (asQ (tk v))) := by
  unfold value_AsNumber.f
  refine Ev.bind (wtaken_ev v h) ?_
  have ok := ok_tk v
  generalize tk v = w at ok ⊢
  cases w with
  | blank => exact Ev.ite_neg (by decide) (Ev.ite_neg (by decide) (Ev.ite_pos rfl (Ev.const rfl)))
  | num q => exact Ev.ite_pos rfl (Ev.const rfl)
  | text l =>
    refine Ev.ite_neg (show ¬ ((2 : Int) = 1) by decide) (Ev.ite_neg (show ¬ ((2 : Int) = 3) by decide) (Ev.ite_neg (show ¬ ((2 : Int) = 0) by decide) (Ev.ite_pos rfl ?_)))
    refine Ev.bind (read_ev l (by have := ok.1; omega)) ?_
    rcases readS_cases l with hr | ⟨r, hr, he⟩
    · refine Ev.ite_neg (by rw [hr]; decide) (Ev.const ?_)
      simp only [asQ, hr]; rfl
    · refine Ev.ite_pos (by rw [he]) (Ev.const ?_)
      simp only [asQ, he, if_true, rat_of_fits hr]; rfl
  | truth b =>
    refine Ev.ite_neg (show ¬ ((3 : Int) = 1) by decide) (Ev.ite_pos rfl ?_)
    cases b
    · exact Ev.ite_neg (by decide) (Ev.const rfl)
    · exact Ev.ite_pos rfl (Ev.const rfl)
  | fault c => exact Ev.ite_neg (show ¬ ((4 : Int) = 1) by decide) (Ev.ite_neg (show ¬ ((4 : Int) = 3) by decide) (Ev.ite_neg (show ¬ ((4 : Int) = 0) by decide) (Ev.ite_neg (show ¬ ((4 : Int) = 2) by decide) (Ev.const rfl))))
theorem easnum_ev {w : W} (h : w.Ok) : Ev (fun k => value_AsNumber.f k (enc w).1 (enc w).2.1 (enc w).2.2.1 (enc w).2.2.2.1 (enc w).2.2.2.2.1 (enc w).2.2.2.2.2) (numV (asQ w)) := by
  have := asnum_ev (enc w) (bv_enc h)
  rw [tk_enc h] at this
  exact this

def wordL (b : Bool) : List UInt8 := if b = true then [84, 82, 85, 69] else [70, 65, 76, 83, 69]
/-- as a text -/
def asTxt : W → List UInt8
  | .blank => []
  | .num q => textS q
  | .text l => l
  | .truth b => wordL b
  | .fault _ => []
/-- the fault that comes of it -/
def asErr : W → W
  | .fault c => .fault c
  | _ => .blank
theorem astext_ev (v : V) (h : BV v) : Ev (fun k => value_AsText.f k v.1 v.2.1 v.2.2.1 v.2.2.2.1 v.2.2.2.2.1 v.2.2.2.2.2) (by' (asTxt (tk v)), enc (asErr (tk v))) := by
  unfold value_AsText.f
  refine Ev.bind (wtaken_ev v h) ?_
  have ok := ok_tk v
  generalize tk v = w at ok ⊢
  cases w with
  | blank => exact Ev.ite_neg (by decide) (Ev.ite_neg (by decide) (Ev.ite_neg (by decide) (Ev.const rfl)))
  | num q =>
    refine Ev.ite_neg (show ¬ ((1 : Int) = 4) by decide) (Ev.ite_pos rfl ?_)
    have ht := text_ev (i64_num ok) (i64_den ok)
    rw [rat_of_fits ok] at ht
    exact Ev.bind ht (Ev.const rfl)
  | text l => exact Ev.ite_neg (show ¬ ((2 : Int) = 4) by decide) (Ev.ite_neg (show ¬ ((2 : Int) = 1) by decide) (Ev.ite_neg (show ¬ ((2 : Int) = 3) by decide) (Ev.const rfl)))
  | truth b =>
    refine Ev.ite_neg (show ¬ ((3 : Int) = 4) by decide) (Ev.ite_neg (show ¬ ((3 : Int) = 1) by decide) (Ev.ite_pos rfl (Ev.const ?_)))
    cases b <;> rfl
  | fault c => exact Ev.ite_pos rfl (Ev.const rfl)
theorem eastext_ev {w : W} (h : w.Ok) : Ev (fun k => value_AsText.f k (enc w).1 (enc w).2.1 (enc w).2.2.1 (enc w).2.2.2.1 (enc w).2.2.2.2.1 (enc w).2.2.2.2.2) (by' (asTxt w), enc (asErr w)) := by
  have := astext_ev (enc w) (bv_enc h)
  rw [tk_enc h] at this
  exact this
theorem asTxt_len {w : W} (h : w.Ok) : (asTxt w).length ≤ 256 := by
  cases w with
  | blank => simp [asTxt]
  | num q => have := textS_len h; simp only [asTxt]; omega
  | text l => exact h.1
  | truth b => cases b <;> simp [asTxt, wordL]
  | fault c => simp [asTxt]

/-- as a truth, or the fault -/
def asB : W → Bool × W
  | .blank => (false, .blank)
  | .num q => (q.num != 0, .blank)
  | .text l => if l = [84, 82, 85, 69] then (true, .blank) else if l = [70, 65, 76, 83, 69] then (false, .blank) else (false, .fault 2)
  | .truth b => (b, .blank)
  | .fault c => (false, .fault c)
theorem word_t : (⟨#[84, 82, 85, 69]⟩ : ByteArray).toList = [84, 82, 85, 69] := by_toList [84, 82, 85, 69]
theorem word_f : (⟨#[70, 65, 76, 83, 69]⟩ : ByteArray).toList = [70, 65, 76, 83, 69] := by_toList [70, 65, 76, 83, 69]
theorem astruth_ev (v : V) (h : BV v) : Ev (fun k => value_AsTruth.f k v.1 v.2.1 v.2.2.1 v.2.2.2.1 v.2.2.2.2.1 v.2.2.2.2.2) ((asB (tk v)).1, enc (asB (tk v)).2) := by
  unfold value_AsTruth.f
  refine Ev.bind (wtaken_ev v h) ?_
  have ok := ok_tk v
  generalize tk v = w at ok ⊢
  cases w with
  | blank => exact Ev.ite_neg (by decide) (Ev.ite_neg (by decide) (Ev.ite_neg (by decide) (Ev.const rfl)))
  | num q => exact Ev.ite_neg (show ¬ ((1 : Int) = 4) by decide) (Ev.ite_pos rfl (Ev.const rfl))
  | text l =>
    refine Ev.ite_neg (show ¬ ((2 : Int) = 4) by decide) (Ev.ite_neg (show ¬ ((2 : Int) = 1) by decide) (Ev.ite_pos rfl ?_))
    refine Ev.bind (Ev.const rfl) ?_
    simp only [enc, by_toList, word_t, asB]
    by_cases h1 : l = [84, 82, 85, 69]
    · subst h1
      refine Ev.ite_pos rfl (Ev.step (fun k => by simp only [value_AsTruth.j0]; exact if_neg (by decide)) (Ev.const ?_))
      simp [value_word.f, value_Blank.f, word_t, by_toList, enc]
    · refine Ev.ite_neg h1 (Ev.bind (Ev.const rfl) ?_)
      simp only [word_f, if_neg h1]
      by_cases h2 : l = [70, 65, 76, 83, 69]
      · subst h2
        refine Ev.step (fun k => by simp only [value_AsTruth.j0]; exact if_neg (by decide)) (Ev.const ?_)
        simp [value_word.f, value_Blank.f, word_t, by_toList, enc]
      · rw [if_neg h2]
        exact Ev.step (fun k => by simp only [value_AsTruth.j0]; exact if_pos (bne_iff_ne.2 h2)) (Ev.const rfl)
  | truth b => exact Ev.ite_neg (show ¬ ((3 : Int) = 4) by decide) (Ev.ite_neg (show ¬ ((3 : Int) = 1) by decide) (Ev.ite_neg (show ¬ ((3 : Int) = 2) by decide) (Ev.const rfl)))
  | fault c => exact Ev.ite_pos rfl (Ev.const rfl)

/-- a number that an operation came to -/
def toldQ (q : Rat) : W := if Fits q then .num q else .fault 4
theorem told_pos {q : Rat} (h : Fits q) : Ev (fun k => value_told.f k q.num q.den true) (enc (.num q)) := by
  unfold value_told.f
  have := number_ev (i64_num h) (i64_den h)
  rw [rat_of_fits h] at this
  exact Ev.ite_pos rfl (Ev.bind this (Ev.now _))
theorem told_neg : Ev (fun k => value_told.f k 0 0 false) (enc (.fault 4)) := by
  unfold value_told.f
  exact Ev.ite_neg (by decide) (Ev.const rfl)
theorem told_ev (q : Rat) : Ev (fun k => value_told.f k (res q).1 (res q).2.1 (res q).2.2) (enc (toldQ q)) := by
  unfold res toldQ
  by_cases h : Fits q
  · rw [if_pos h, if_pos h]; exact told_pos h
  · rw [if_neg h, if_neg h]; exact told_neg
/-- a fault stays; else -/
def orFault : W → W → W
  | .fault c, _ => .fault c
  | _, f => f
theorem orFault_ne {w f : W} (h : ¬ ∃ c, w = .fault c) : orFault w f = f := by
  cases w with
  | fault c => exact absurd ⟨c, rfl⟩ h
  | _ => rfl
theorem kind_ne {w : W} (h : ¬ ∃ c, w = .fault c) : ¬ (enc w).1 = 4 := by
  cases w with
  | fault c => exact absurd ⟨c, rfl⟩ h
  | _ => simp [enc]
def unQ (op : Int) (w : W) : W := if op = 2 then w else
  match asQ w with
  | .error c => .fault c
  | .ok q => if op = 1 then .num (-q) else toldQ (q / 100)
/-- the operations of one -/
def unW (op : Int) (w : W) : W :=
  if op = 1 ∨ op = 2 ∨ op = 3 then
    orFault w (unQ op w)
  else .fault 2
theorem un_j0 (op : Int) (w : W) (ok : w.Ok) : Ev (fun k => value_Un.j0 k op false (enc w).1 (enc w).2.1 (enc w).2.2.1 (enc w).2.2.2.1 (enc w).2.2.2.2.1 (enc w).2.2.2.2.2)
    (enc (orFault w (unQ op w))) := by
  refine Ev.step (fun k => by simp only [value_Un.j0]; exact if_neg (by decide)) ?_
  by_cases hf : ∃ c, w = .fault c
  · obtain ⟨c, rfl⟩ := hf
    exact Ev.ite_pos rfl (Ev.now _)
  · refine Ev.ite_neg (kind_ne hf) ?_
    rw [orFault_ne hf]
    unfold unQ
    by_cases h2 : op = 2
    · rw [if_pos h2]; exact Ev.ite_pos h2 (Ev.now _)
    · rw [if_neg h2]
      refine Ev.ite_neg h2 (Ev.bind (easnum_ev ok) ?_)
      cases ha : asQ w with
      | error c => exact Ev.ite_pos rfl (Ev.now _)
      | ok q =>
        have hq := asQ_fits ok ha
        refine Ev.ite_neg (show ¬ ((0 : Int) = 4) by decide) ?_
        simp only [numV]
        by_cases h1 : op = 1
        · rw [if_pos h1]
          refine Ev.ite_pos h1 ?_
          have hn := neg_ev (i64_num hq) (i64_den hq)
          rw [rat_of_fits hq] at hn
          refine Ev.bind hn ?_
          have := number_ev (i64_num (fits_neg hq)) (i64_den (fits_neg hq))
          rw [rat_of_fits (fits_neg hq)] at this
          exact Ev.bind this (Ev.now _)
        · rw [if_neg h1]
          refine Ev.ite_neg h1 (Ev.bind (Ev.const rfl) ?_)
          have hd := div_ev (i64_num hq) (i64_den hq) (m := 100) (e := 1) (by unfold I64; omega) (by unfold I64; omega)
          rw [rat_of_fits hq, show rat 100 1 = 100 from by decide +kernel, if_neg (by decide +kernel)] at hd
          exact Ev.bind hd (Ev.bind (told_ev _) (Ev.now _))
theorem un_ev (op : Int) (v : V) (h : BV v) : Ev (fun k => value_Un.f k op v.1 v.2.1 v.2.2.1 v.2.2.2.1 v.2.2.2.2.1 v.2.2.2.2.2) (enc (unW op (tk v))) := by
  unfold value_Un.f unW
  refine Ev.bind (wtaken_ev v h) ?_
  have ok := ok_tk v
  generalize tk v = w at ok ⊢
  by_cases h1 : op = 1
  · rw [if_pos (Or.inl h1)]
    exact Ev.ite_pos h1 (un_j0 op w ok)
  refine Ev.ite_neg h1 ?_
  by_cases h2 : op = 2
  · rw [if_pos (Or.inr (Or.inl h2))]
    exact Ev.ite_pos h2 (un_j0 op w ok)
  refine Ev.ite_neg h2 ?_
  by_cases h3 : op = 3
  · rw [if_pos (Or.inr (Or.inr h3)), show (op != 3) = false from by simp [h3]]
    exact un_j0 op w ok
  · rw [if_neg (by rintro (h | h | h) <;> contradiction), show (op != 3) = true from by simp [h3]]
    exact Ev.step (f := fun _ => some (enc (.fault 2))) (fun k => by simp only [value_Un.j0, if_true]; rfl) (Ev.now _)
end Go.Proofs.YtmakkdlkgfgaoaaDoor.F
