/-
Values, plainly: what is shown of a value is read as it.
-/
import Derived.Test.YtmakkdlkgfgaoaaDoorV4
namespace Go.Proofs.YtmakkdlkgfgaoaaDoor.F
open Go.RowKit Go.Proofs.YtmakkdlkgfgaoaaDoorW.PrintWords NumM
set_option linter.unusedVariables false
set_option linter.unusedSimpArgs false

/-- what starts with neither a digit nor a minus is no number -/
theorem no_number (c : UInt8) (l : List UInt8) (h : ¬ c = 45) (h' : ¬ (48 ≤ c.toNat ∧ c.toNat ≤ 57)) : readS (c :: l) = (0, 0, false) := by
  show (if c = 45 then bodyS true l else bodyS false (c :: l)) = _
  rw [if_neg h]
  unfold bodyS
  simp only [rd10, if_neg h']
  rw [if_neg (Nat.lt_irrefl _)]
theorem text_head {q : Rat} (hq : Fits q) (c : UInt8) (l : List UInt8) (h : ¬ c = 45) (h' : ¬ (48 ≤ c.toNat ∧ c.toNat ≤ 57)) : textS q ≠ c :: l := by
  intro e
  have := read_text hq
  rw [e, no_number c l h h'] at this
  simp at this
theorem names_ok (l : List UInt8) : (nameW l).Ok := by
  unfold nameW
  repeat' split
  all_goals first | exact text_ok _ | exact ⟨by omega, by omega⟩
theorem readW_ok (l : List UInt8) : (readW l).Ok := by
  have plain : ∀ l, (plainReadW l).Ok := by
    intro l
    unfold plainReadW wordW
    split
    · exact fits_rat _ _
    split
    · trivial
    split
    · trivial
    split
    · trivial
    exact names_ok l
  cases l with
  | nil => exact plain []
  | cons c t =>
    show W.Ok (if c = 39 then textW t else plainReadW (c :: t))
    split
    · exact text_ok t
    · exact plain _
theorem textW_of {l : List UInt8} (h : (W.text l).Ok) : textW l = .text l := by
  unfold textW
  rw [if_pos h.2, if_neg (by have := h.1; omega)]
theorem read_quote {l : List UInt8} (h : (W.text l).Ok) : readW (39 :: l) = .text l := by
  show (if (39 : UInt8) = 39 then textW l else plainReadW (39 :: l)) = .text l
  rw [if_pos rfl, textW_of h]
theorem names_list {c : Int} (h : 1 ≤ c ∧ c ≤ 8) : readW (nmA (c - 1)).toList = .fault c ∧ (nmA (c - 1)).toList.head? = some 35 := by
  have hc : c = 1 ∨ c = 2 ∨ c = 3 ∨ c = 4 ∨ c = 5 ∨ c = 6 ∨ c = 7 ∨ c = 8 := by omega
  rcases hc with rfl | rfl | rfl | rfl | rfl | rfl | rfl | rfl
  · rw [show (nmA (1 - 1)).toList = [35, 68, 73, 86, 47, 48, 33] from by_toList [35, 68, 73, 86, 47, 48, 33]]; exact ⟨rfl, rfl⟩
  · rw [show (nmA (2 - 1)).toList = [35, 86, 65, 76, 85, 69, 33] from by_toList [35, 86, 65, 76, 85, 69, 33]]; exact ⟨rfl, rfl⟩
  · rw [show (nmA (3 - 1)).toList = [35, 82, 69, 70, 33] from by_toList [35, 82, 69, 70, 33]]; exact ⟨rfl, rfl⟩
  · rw [show (nmA (4 - 1)).toList = [35, 78, 85, 77, 33] from by_toList [35, 78, 85, 77, 33]]; exact ⟨rfl, rfl⟩
  · rw [show (nmA (5 - 1)).toList = [35, 78, 47, 65] from by_toList [35, 78, 47, 65]]; exact ⟨rfl, rfl⟩
  · rw [show (nmA (6 - 1)).toList = [35, 67, 73, 82, 67, 76, 69, 33] from by_toList [35, 67, 73, 82, 67, 76, 69, 33]]; exact ⟨rfl, rfl⟩
  · rw [show (nmA (7 - 1)).toList = [35, 76, 79, 78, 71, 33] from by_toList [35, 76, 79, 78, 71, 33]]; exact ⟨rfl, rfl⟩
  · rw [show (nmA (8 - 1)).toList = [35, 65, 82, 71, 33] from by_toList [35, 65, 82, 71, 33]]; exact ⟨rfl, rfl⟩
theorem enc_inj {a b : W} (ha : a.Ok) (hb : b.Ok) (h : enc a = enc b) : a = b := by
  rw [← tk_enc ha, h, tk_enc hb]
theorem read_show {w : W} (ok : w.Ok) : readW (showW w) = w := by
  cases w with
  | blank => rfl
  | num q =>
    have hr := read_text ok
    have plain : plainReadW (textS q) = .num q := by
      unfold plainReadW
      rw [hr]
      simp only [if_true]
      rw [rat_of_fits ok]
    show readW (textS q) = .num q
    generalize ht : textS q = l at *
    cases l with
    | nil => exact plain
    | cons c t =>
      show (if c = 39 then textW t else plainReadW (c :: t)) = _
      rw [if_neg (by rintro rfl; exact text_head ok 39 t (by decide) (by decide) ht)]
      exact plain
  | text l =>
    unfold showW
    simp only
    split
    · rename_i h0
      subst h0
      exact read_quote ok
    split
    · exact read_quote ok
    split
    · rename_i he
      exact enc_inj (readW_ok l) ok ((eqB_iff _ _).1 he)
    · exact read_quote ok
  | truth b => cases b <;> rfl
  | fault c => exact (names_list ok).1
theorem show_head {w : W} (ok : w.Ok) : (showW w).head? ≠ some 61 := by
  cases w with
  | blank => simp [showW]
  | num q =>
    show (textS q).head? ≠ some 61
    generalize ht : textS q = l at *
    cases l with
    | nil => simp
    | cons c t =>
      rw [List.head?_cons]
      intro e
      cases e
      exact text_head ok 61 t (by decide) (by decide) ht
  | text l =>
    unfold showW
    simp only
    split
    · simp
    split
    · simp
    split
    · assumption
    · simp
  | truth b => cases b <;> simp [showW, wordL]
  | fault c =>
    show (nmA (c - 1)).toList.head? ≠ some 61
    rw [(names_list ok).2]
    simp
theorem show_len {w : W} (ok : w.Ok) : (showW w).length ≤ 300 := by
  cases w with
  | blank => simp [showW]
  | num q => have := textS_len ok; show (textS q).length ≤ 300; omega
  | text l =>
    have := ok.1
    unfold showW
    simp only
    split
    · simp
    split
    · simp; omega
    split
    · omega
    · simp; omega
  | truth b => cases b <;> simp [showW, wordL]
  | fault c =>
    show (nmA (c - 1)).toList.length ≤ 300
    have hc : c = 1 ∨ c = 2 ∨ c = 3 ∨ c = 4 ∨ c = 5 ∨ c = 6 ∨ c = 7 ∨ c = 8 := by have := ok.1; have := ok.2; omega
    rcases hc with rfl | rfl | rfl | rfl | rfl | rfl | rfl | rfl
    all_goals rw [size_toList]; decide
end Go.Proofs.YtmakkdlkgfgaoaaDoor.F
