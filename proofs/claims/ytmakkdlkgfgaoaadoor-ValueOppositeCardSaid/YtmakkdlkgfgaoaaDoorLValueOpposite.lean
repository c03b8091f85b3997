/-
ValueOpposite: the comparisons tell opposites, and what Cmp tells.
-/
import Derived.Test.YtmakkdlkgfgaoaaDoorF132
import Derived.Test.YtmakkdlkgfgaoaaDoorA0
import Derived.Test.YtmakkdlkgfgaoaaDoorV4
namespace Go.Proofs.YtmakkdlkgfgaoaaDoor.F
open Go.RowKit Go.Proofs.YtmakkdlkgfgaoaaDoorW.PrintWords NumM
set_option linter.unusedVariables false
set_option linter.unusedSimpArgs false
theorem cmpQ_range (p q : Rat) : cmpQ p q = -1 ∨ cmpQ p q = 0 ∨ cmpQ p q = 1 := by unfold cmpQ; split; exact Or.inl rfl; split; exact Or.inr (Or.inr rfl); exact Or.inr (Or.inl rfl)
theorem cb_cons (a b : UInt8) (l m : List UInt8) : Lib.compareBytes (a :: l) (b :: m) = if a < b then -1 else if b < a then 1 else Lib.compareBytes l m := rfl
theorem cb_range (l : List UInt8) : ∀ m, Lib.compareBytes l m = -1 ∨ Lib.compareBytes l m = 0 ∨ Lib.compareBytes l m = 1 := by
  induction l with
  | nil => intro m; cases m <;> simp [Lib.compareBytes]
  | cons a l ih =>
    intro m
    cases m with
    | nil => simp [Lib.compareBytes]
    | cons b m =>
      rw [cb_cons]
      split
      · exact Or.inl rfl
      split
      · exact Or.inr (Or.inr rfl)
      · exact ih m
theorem ord_lt {x y : W} (h : kindW x < kindW y) : ordW x y = -1 := by
  cases x <;> cases y <;> first | rfl | (simp [kindW] at h)
theorem ord_gt {x y : W} (h : kindW y < kindW x) : ordW x y = 1 := by
  cases x <;> cases y <;> first | rfl | (simp [kindW] at h)
theorem ord_range (x y : W) : ordW x y = -1 ∨ ordW x y = 0 ∨ ordW x y = 1 := by
  rcases Int.lt_trichotomy (kindW x) (kindW y) with h | h | h
  · exact Or.inl (ord_lt h)
  · cases x with
    | blank => cases y <;> simp [kindW] at h; exact Or.inr (Or.inl rfl)
    | num p => cases y <;> simp [kindW] at h; exact cmpQ_range _ _
    | text l => cases y <;> simp [kindW] at h; exact cb_range _ _
    | truth s =>
      cases y <;> simp [kindW] at h
      rename_i t
      cases s <;> cases t <;> simp [ordW]
    | fault c =>
      cases y <;> simp [kindW] at h
      simp only [ordW]
      split
      · exact Or.inl rfl
      split
      · exact Or.inr (Or.inr rfl)
      · exact Or.inr (Or.inl rfl)
  · exact Or.inr (Or.inr (ord_gt h))
theorem ValueOpposite_calls (a1 a2 a3 : Int) (a4 : ByteArray) (a5 : Bool) (a6 b1 b2 b3 : Int) (b4 : ByteArray) (b5 : Bool) (b6 : Int) (h : BV (a1, a2, a3, a4, a5, a6)) (h' : BV (b1, b2, b3, b4, b5, b6)) (w : World) (HT0 : TabAt w) :
    Calls Tryd.prog 7 #[.agg #[.int .i64 a1, .int .i64 a2, .int .i64 a3, .string a4, .bool a5, .int .i64 a6], .agg #[.int .i64 b1, .int .i64 b2, .int .i64 b3, .string b4, .bool b5, .int .i64 b6]] w fun e w' => e = .returned (.bool true) ∧ Below w.heap.size w w' := by
  have q1 := bin_ev 21 _ _ h h'
  have q2 := bin_ev 22 _ _ h h'
  have q3 := bin_ev 23 _ _ h h'
  have q4 := bin_ev 26 _ _ h h'
  have q5 := bin_ev 25 _ _ h h'
  have q6 := bin_ev 24 _ _ h h'
  have qc := vcmp_ev _ _ h h'
  generalize tk (a1, a2, a3, a4, a5, a6) = x at *
  generalize tk (b1, b2, b3, b4, b5, b6) = y at *
  have kn : ∀ op : Int, 21 ≤ op → op ≤ 26 → binW op x y = orFault x (orFault y (.truth (holdsB op (cmpW x y)))) := fun op h1 h2 => by
    rw [ebin_known op x y (Or.inr ⟨h1, h2⟩), show opW op x y = .truth (holdsB op (cmpW x y)) from if_pos h1]
  rw [kn 21 (by decide) (by decide)] at q1
  rw [kn 22 (by decide) (by decide)] at q2
  rw [kn 23 (by decide) (by decide)] at q3
  rw [kn 26 (by decide) (by decide)] at q4
  rw [kn 25 (by decide) (by decide)] at q5
  rw [kn 24 (by decide) (by decide)] at q6
  have ft : (∃ d, ∀ w : W, orFault x (orFault y w) = .fault d) ∨ ∀ w : W, orFault x (orFault y w) = w := by
    cases x with
    | fault d => exact Or.inl ⟨d, fun _ => rfl⟩
    | _ =>
      cases y with
      | fault d => exact Or.inl ⟨d, fun _ => rfl⟩
      | _ => exact Or.inr fun _ => rfl
  have rng : cmpW x y = -1 ∨ cmpW x y = 0 ∨ cmpW x y = 1 := ord_range _ _
  generalize cmpW x y = o at *
  obtain ⟨k0, f0⟩ := vable_ev
  obtain ⟨k1, f1⟩ := q1
  obtain ⟨k2, f2⟩ := q2
  obtain ⟨k3, f3⟩ := q3
  obtain ⟨k4, f4⟩ := q4
  obtain ⟨k5, f5⟩ := q5
  obtain ⟨k6, f6⟩ := q6
  obtain ⟨k7, f7⟩ := qc
  obtain ⟨k, m0, m1, m2, m3, m4, m5, m6, m7⟩ : ∃ k, k0 ≤ k ∧ k1 ≤ k ∧ k2 ≤ k ∧ k3 ≤ k ∧ k4 ≤ k ∧ k5 ≤ k ∧ k6 ≤ k ∧ k7 ≤ k := ⟨k0 + k1 + k2 + k3 + k4 + k5 + k6 + k7, by omega, by omega, by omega, by omega, by omega, by omega, by omega, by omega⟩
  have g0 := f0 k m0
  have g1 := f1 k m1
  have g2 := f2 k m2
  have g3 := f3 k m3
  have g4 := f4 k m4
  have g5 := f5 k m5
  have g6 := f6 k m6
  have g7 := f7 k m7
  clear f0 f1 f2 f3 f4 f5 f6 f7
  rcases ft with ⟨d, hd⟩ | hw
  · rw [hd] at g1 g2 g3 g4 g5 g6
    exact ValueOpposite_walk k a1 a2 a3 a4 a5 a6 b1 b2 b3 b4 b5 b6 _ _ _ _ _ _ _ _ _ _ _ _ _ _ _ _ _ _ _ _ _ _ _ _ _ _ _ _ _ _ _ _ _ _ _ _ o d w HT0 g0 g1 g2 g3 g4 g5 g6 g7 (Or.inl ⟨rfl, rfl, rfl, rfl, rfl, rfl⟩)
  · rw [hw] at g1 g2 g3 g4 g5 g6
    refine ValueOpposite_walk k a1 a2 a3 a4 a5 a6 b1 b2 b3 b4 b5 b6 _ _ _ _ _ _ _ _ _ _ _ _ _ _ _ _ _ _ _ _ _ _ _ _ _ _ _ _ _ _ _ _ _ _ _ _ o 0 w HT0 g0 g1 g2 g3 g4 g5 g6 g7 (Or.inr ⟨⟨rfl, rfl, rfl, rfl, rfl⟩, ⟨rfl, rfl, rfl, rfl, rfl⟩, ⟨rfl, rfl, rfl, rfl, rfl⟩, ⟨rfl, rfl, rfl, rfl, rfl⟩, ⟨rfl, rfl, rfl, rfl, rfl⟩, ⟨rfl, rfl, rfl, rfl, rfl⟩, ⟨?_⟩⟩)
    rcases rng with rfl | rfl | rfl
    · exact Or.inl ⟨rfl, by decide, by decide, by decide, by decide, by decide, by decide⟩
    · exact Or.inr (Or.inl ⟨rfl, by decide, by decide, by decide, by decide, by decide, by decide⟩)
    · exact Or.inr (Or.inr ⟨rfl, by decide, by decide, by decide, by decide, by decide, by decide⟩)
end Go.Proofs.YtmakkdlkgfgaoaaDoor.F
