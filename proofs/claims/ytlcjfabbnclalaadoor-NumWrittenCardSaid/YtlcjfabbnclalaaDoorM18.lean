/-
Orders of rationals, what a call answers of a fraction that fits, and the statements' own look at a number.
-/
import Derived.Test.YtlcjfabbnclalaaDoorF15
import Derived.Test.YtlcjfabbnclalaaDoorM6
namespace Go.Proofs.YtlcjfabbnclalaaDoor.F
open Go.RowKit Go.Proofs.YtlcjfabbnclalaaDoorW.PrintWords NumM
set_option linter.unusedVariables false
set_option linter.unusedSimpArgs false

theorem i64_num {q : Rat} (h : Fits q) : I64 q.num := by have := fits_bounds h; unfold I64; omega
theorem i64_den {q : Rat} (h : Fits q) : I64 (q.den : Int) := by have := fits_bounds h; unfold I64; omega

theorem rightL_loop (x y : Nat) : Ev (fun k => whittlelaw1_right.l0 k x y) (decide (Nat.gcd x y = 1)) := by
  induction x using Nat.strongRecOn generalizing y with
  | ind x ih =>
    by_cases hx : x = 0
    · subst hx
      refine Ev.step (f := fun _ => some ((y : Int) == 1)) (fun k => ?_) (Ev.const ?_)
      · simp only [whittlelaw1_right.l0]; exact if_pos rfl
      · congr 1
        rw [Bool.eq_iff_iff, beq_iff_eq, decide_eq_true_iff]
        have e := Nat.gcd_zero_left y
        constructor
        · intro h; rw [e]; omega
        · intro h; rw [e] at h; omega
    · refine Ev.step (fun k => by simp only [whittlelaw1_right.l0]; exact if_neg (by omega)) ?_
      rw [← Int.ofNat_tmod]
      refine cast (congrArg (Ev _) ?_) (ih (y % x) (Nat.mod_lt _ (by omega)) x)
      rw [Bool.eq_iff_iff, decide_eq_true_iff, decide_eq_true_iff]
      have e := Nat.gcd_rec x y
      constructor
      · intro h; rw [e]; exact h
      · intro h; rw [e] at h; exact h

theorem rightL_ev {n d : Int} (hn : I64 n) (hd : I64 d) : Ev (fun k => whittlelaw1_right.f k n d) (decide (RightP n d)) := by
  have key : ∀ x : Bool, (x = true → ¬ RightP n d) → (x = false → 1 ≤ d ∧ d ≤ 1000000 ∧ -1000000000000 ≤ n ∧ n ≤ 1000000000000) → Ev (fun k => whittlelaw1_right.j0 k x n d) (decide (RightP n d)) := by
    intro x h1 h2
    cases x with
    | true =>
      refine Ev.step (f := fun _ => some false) (fun k => by simp only [whittlelaw1_right.j0, if_true]) ?_
      rw [decide_eq_false (h1 rfl)]; exact Ev.now _
    | false =>
      obtain ⟨b1, b2, b3, b4⟩ := h2 rfl
      refine Ev.step (fun k => by simp only [whittlelaw1_right.j0]; exact if_neg (by simp)) ?_
      have fin : ∀ x : Int, x = (n.natAbs : Int) → Ev (fun k => whittlelaw1_right.j1 k x n d) (decide (RightP n d)) := by
        intro x hx
        refine Ev.step (fun k => by simp only [whittlelaw1_right.j1]; rfl) ?_
        have := rightL_loop n.natAbs d.toNat
        rw [hx, show d = ((d.toNat : Nat) : Int) by omega]
        refine cast (congrArg (Ev _) ?_) this
        rw [Bool.eq_iff_iff, decide_eq_true_iff, decide_eq_true_iff]
        unfold RightP
        rw [Int.toNat_natCast]
        omega
      by_cases hneg : n < 0
      · exact Ev.ite_pos hneg (fin _ (by rw [w64 (x := -n) (by unfold I64; omega)]; omega))
      · exact Ev.ite_neg hneg (fin _ (by omega))
  unfold whittlelaw1_right.f
  by_cases c1 : d < 1
  · exact Ev.ite_pos c1 (key true (fun _ h => by unfold RightP at h; omega) (fun h => by cases h))
  · refine Ev.ite_neg c1 ?_
    by_cases c2 : d > 1000000
    · exact Ev.ite_pos c2 (key true (fun _ h => by unfold RightP at h; omega) (fun h => by cases h))
    · refine Ev.ite_neg c2 ?_
      by_cases c3 : n < -1000000000000
      · exact Ev.ite_pos c3 (key true (fun _ h => by unfold RightP at h; omega) (fun h => by cases h))
      · refine Ev.ite_neg c3 (key _ (fun h0 h => ?_) (fun h => ?_))
        · rw [decide_eq_true_iff] at h0; unfold RightP at h; omega
        · have := of_decide_eq_false h; omega

/-- a right number is a rational that fits, and no other pair is -/
theorem right_nd {n d : Int} (h : RightP n d) : n = (rat n d).num ∧ d = ((rat n d).den : Int) := by
  have := rat_right h
  rw [this.1, this.2]
  obtain ⟨_, _, h3, _⟩ := h
  omega

theorem res_pos {q : Rat} (h : Fits q) : res q = (q.num, (q.den : Int), true) := by unfold res; rw [if_pos h]
theorem res_neg {q : Rat} (h : ¬ Fits q) : res q = (0, 0, false) := by unfold res; rw [if_neg h]

theorem lt_or_ge (p q : Rat) : p < q ∨ q ≤ p := by
  rcases Decidable.em (p < q) with h | h
  · exact Or.inl h
  · exact Or.inr (Rat.not_lt.1 h)

theorem cmpQ_range (p q : Rat) : cmpQ p q = -1 ∨ cmpQ p q = 0 ∨ cmpQ p q = 1 := by unfold cmpQ; split; exact Or.inl rfl; split; exact Or.inr (Or.inr rfl); exact Or.inr (Or.inl rfl)
theorem cmpQ_lt {p q : Rat} : cmpQ p q = -1 ↔ p < q := by
  unfold cmpQ
  constructor
  · intro h
    split at h
    · assumption
    · split at h <;> omega
  · intro h; rw [if_pos h]
theorem cmpQ_gt {p q : Rat} : cmpQ p q = 1 ↔ q < p := by
  unfold cmpQ
  constructor
  · intro h
    split at h
    · omega
    · split at h
      · assumption
      · omega
  · intro h; rw [if_neg (Rat.not_lt.2 (Rat.le_of_lt h)), if_pos h]
theorem cmpQ_eq {p q : Rat} : cmpQ p q = 0 ↔ p = q := by
  constructor
  · intro h
    have h1 : ¬ p < q := fun h' => by have := cmpQ_lt.2 h'; omega
    have h2 : ¬ q < p := fun h' => by have := cmpQ_gt.2 h'; omega
    exact Rat.le_antisymm (Rat.not_lt.1 h2) (Rat.not_lt.1 h1)
  · rintro rfl
    unfold cmpQ
    rw [if_neg Rat.lt_irrefl, if_neg Rat.lt_irrefl]
theorem cmpQ_swap (p q : Rat) : cmpQ q p = -cmpQ p q := by
  rcases cmpQ_range p q with h | h | h
  · have := cmpQ_lt.1 h; rw [h, cmpQ_gt.2 this]; rfl
  · have := cmpQ_eq.1 h; rw [h, this, cmpQ_eq.2 rfl]; rfl
  · have := cmpQ_gt.1 h; rw [h, cmpQ_lt.2 this]
theorem cmpQ_le {p q : Rat} : cmpQ p q ≤ 0 ↔ p ≤ q := by
  rcases cmpQ_range p q with h | h | h
  · have := cmpQ_lt.1 h; exact ⟨fun _ => Rat.le_of_lt this, fun _ => by omega⟩
  · have := cmpQ_eq.1 h; exact ⟨fun _ => by rw [this]; exact Rat.le_refl, fun _ => by omega⟩
  · have := cmpQ_gt.1 h; exact ⟨fun _ => by omega, fun h' => absurd this (Rat.not_lt.2 h')⟩
theorem cmpQ_add (p q r : Rat) : cmpQ (p + r) (q + r) = cmpQ p q := by
  rcases cmpQ_range p q with h | h | h
  · rw [h]; exact cmpQ_lt.2 (Rat.add_lt_add_right.2 (cmpQ_lt.1 h))
  · rw [h]; exact cmpQ_eq.2 (by rw [cmpQ_eq.1 h])
  · rw [h]; exact cmpQ_gt.2 (Rat.add_lt_add_right.2 (cmpQ_gt.1 h))
theorem cmpQ_mul (p q r : Rat) : cmpQ (p * r) (q * r) = cmpQ p q * cmpQ r 0 := by
  rcases cmpQ_range r 0 with hr | hr | hr
  · have hr' := cmpQ_lt.1 hr
    have hn : 0 < -r := by grind
    rcases cmpQ_range p q with h | h | h
    · rw [h, hr]
      have := Rat.mul_lt_mul_of_pos_right (cmpQ_lt.1 h) hn
      exact cmpQ_gt.2 (by grind)
    · rw [h, cmpQ_eq.1 h, Int.zero_mul]; exact cmpQ_eq.2 rfl
    · rw [h, hr]
      have := Rat.mul_lt_mul_of_pos_right (cmpQ_gt.1 h) hn
      exact cmpQ_lt.2 (by grind)
  · rw [hr, cmpQ_eq.1 hr, Int.mul_zero, Rat.mul_zero, Rat.mul_zero]; exact cmpQ_eq.2 rfl
  · have hr' := cmpQ_gt.1 hr
    rw [hr, Int.mul_one]
    rcases cmpQ_range p q with h | h | h
    · rw [h]; exact cmpQ_lt.2 (Rat.mul_lt_mul_of_pos_right (cmpQ_lt.1 h) hr')
    · rw [h, cmpQ_eq.1 h]; exact cmpQ_eq.2 rfl
    · rw [h]; exact cmpQ_gt.2 (Rat.mul_lt_mul_of_pos_right (cmpQ_gt.1 h) hr')

theorem nd_eq (p q : Rat) : (p.num == q.num && ((p.den : Int) == (q.den : Int))) = decide (p = q) := by
  rw [Bool.eq_iff_iff, Bool.and_eq_true, beq_iff_eq, beq_iff_eq, decide_eq_true_iff]
  constructor
  · rintro ⟨h1, h2⟩; exact Rat.ext h1 (by omega)
  · rintro rfl; exact ⟨rfl, rfl⟩

/-- a right pair is a rational's -/
theorem of_right {n d : Int} (h : RightP n d) : ∃ q : Rat, Fits q ∧ n = q.num ∧ d = (q.den : Int) := ⟨rat n d, fits_rat n d, right_nd h⟩

/-- cmp of two that fit -/
theorem cmpF_ev {p q : Rat} (hp : Fits p) (hq : Fits q) : Ev (fun k => num_Cmp.f k p.num p.den q.num q.den) (cmpQ p q) := by
  have := cmp_ev (i64_num hp) (i64_den hp) (i64_num hq) (i64_den hq)
  rwa [rat_of_fits hp, rat_of_fits hq] at this
theorem addF_ev {p q : Rat} (hp : Fits p) (hq : Fits q) : Ev (fun k => num_Add.f k p.num p.den q.num q.den) (res (p + q)) := by
  have := add_ev (i64_num hp) (i64_den hp) (i64_num hq) (i64_den hq)
  rwa [rat_of_fits hp, rat_of_fits hq] at this
theorem mulF_ev {p q : Rat} (hp : Fits p) (hq : Fits q) : Ev (fun k => num_Mul.f k p.num p.den q.num q.den) (res (p * q)) := by
  have := mul_ev (i64_num hp) (i64_den hp) (i64_num hq) (i64_den hq)
  rwa [rat_of_fits hp, rat_of_fits hq] at this
theorem rightF_ev {q : Rat} (h : Fits q) : Ev (fun k => whittlelaw1_right.f k q.num q.den) true := by
  have := rightL_ev (i64_num h) (i64_den h)
  rwa [decide_eq_true (right_of_fits h)] at this
theorem fits_zero : Fits 0 := by decide
theorem fits_one : Fits 1 := by decide
end Go.Proofs.YtlcjfabbnclalaaDoor.F
