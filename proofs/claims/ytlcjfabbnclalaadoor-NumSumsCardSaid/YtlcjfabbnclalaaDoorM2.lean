/-
What the program's and the reference's fractions come to, as rationals: sizes, greatest common divisors, Make, Right, what a number counts as.
-/
import Derived.Test.YtlcjfabbnclalaaDoorF2
import Derived.Test.YtlcjfabbnclalaaDoorM1
namespace Go.Proofs.YtlcjfabbnclalaaDoor.F
open Go.RowKit Go.Proofs.YtlcjfabbnclalaaDoorW.PrintWords NumM
set_option linter.unusedVariables false
set_option linter.unusedSimpArgs false

/-- an int of Go's -/
def I64 (a : Int) : Prop := -9223372036854775808 ≤ a ∧ a ≤ 9223372036854775807

theorem w64 {x : Int} (h : I64 x) : wrap64 x = x := by unfold I64 at h; unfold wrap64; omega
theorem u64 {x : Int} (h0 : 0 ≤ x) (h1 : x ≤ 18446744073709551615) : IntKind.u64.wrap x = x := by rw [IntKind.wrap_u64]; omega

theorem u64n {x : Nat} (h : x ≤ 18446744073709551615) : IntKind.u64.wrap (x : Int) = x := u64 (Int.natCast_nonneg _) (by omega)

theorem Ev.const {α : Type} {o : Option α} {r : α} (h : o = some r) : Ev (fun _ => o) r := ⟨0, fun _ _ => h⟩
theorem Ev.ite_pos {α : Type} {c : Prop} [Decidable c] {g f : Nat → Option α} {r : α} (h : c) (k : Ev g r) : Ev (fun n => if c then g n else f n) r := by
  obtain ⟨K, k⟩ := k
  exact ⟨K, fun n hn => (if_pos h).trans (k n hn)⟩
theorem Ev.ite_neg {α : Type} {c : Prop} [Decidable c] {g f : Nat → Option α} {r : α} (h : ¬ c) (k : Ev f r) : Ev (fun n => if c then g n else f n) r := by
  obtain ⟨K, k⟩ := k
  exact ⟨K, fun n hn => (if_neg h).trans (k n hn)⟩
/-- a call that takes no rounds -/
theorem Ev.bind0 {α β : Type} {o : Option α} {f : Nat → α → Option β} {a : α} {r : β} (h : o = some a) (k : Ev (fun n => f n a) r) : Ev (fun n => o.bind (f n)) r := by
  obtain ⟨K, k⟩ := k
  exact ⟨K, fun n hn => by rw [h]; exact k n hn⟩

theorem size_eq {a : Int} (h : I64 a) : num_size.f a = some (a.natAbs : Int) := by
  unfold num_size.f I64 at *
  simp only [IntKind.wrap_u64]
  split
  · congr 1; omega
  · congr 1; omega

theorem far_eq {a : Int} (h : I64 a) : whittleref1_far.f a = some (a.natAbs : Int) := by
  unfold whittleref1_far.f I64 at *
  simp only [IntKind.wrap_u64]
  unfold wrap64
  split
  · congr 1; omega
  · congr 1; omega

theorem gcd_ev (a b : Nat) : Ev (fun k => num_gcd.f k a b) (Nat.gcd a b : Int) := by
  show Ev (fun k => num_gcd.l0 k a b) _
  induction b using Nat.strongRecOn generalizing a with
  | ind b ih =>
    by_cases hb : b = 0
    · subst hb
      refine Ev.step (f := fun _ => some (a : Int)) (fun k => ?_) (by rw [Nat.gcd_zero_right]; exact Ev.now _)
      simp only [num_gcd.l0]
      rw [if_neg (by simp)]
    · refine Ev.step (f := fun k => num_gcd.l0 k b ((a % b : Nat) : Int)) (fun k => ?_) ?_
      · simp only [num_gcd.l0]
        rw [if_pos (by omega), if_neg (by omega), Int.ofNat_tmod]
      · have := ih (a % b) (Nat.mod_lt _ (by omega)) b
        rw [show Nat.gcd a b = Nat.gcd b (a % b) by rw [Nat.gcd_comm a b, Nat.gcd_rec b a, Nat.gcd_comm]]
        exact this

theorem gcdR_ev (a b : Nat) : Ev (fun k => whittleref1_gcd.f k a b) (Nat.gcd a b : Int) := by
  show Ev (fun k => whittleref1_gcd.l0 k a b) _
  induction b using Nat.strongRecOn generalizing a with
  | ind b ih =>
    by_cases hb : b = 0
    · subst hb
      refine Ev.step (f := fun _ => some (a : Int)) (fun k => ?_) (by rw [Nat.gcd_zero_right]; exact Ev.now _)
      simp only [whittleref1_gcd.l0]
      rw [if_pos (by simp)]
    · refine Ev.step (f := fun k => whittleref1_gcd.l0 k b ((a % b : Nat) : Int)) (fun k => ?_) ?_
      · simp only [whittleref1_gcd.l0]
        rw [if_neg (by omega), Int.ofNat_tmod]
      · have := ih (a % b) (Nat.mod_lt _ (by omega)) b
        rw [show Nat.gcd a b = Nat.gcd b (a % b) by rw [Nat.gcd_comm a b, Nat.gcd_rec b a, Nat.gcd_comm]]
        exact this

/-- what a call answers of a fraction: it, if it fits -/
def res (q : Rat) : Int × Int × Bool := if Fits q then (q.num, (q.den : Int), true) else (0, 0, false)
/-- what Make answers -/
def mk (n d : Int) : Int × Int × Bool := if d = 0 then (0, 0, false) else res (Rat.divInt n d)

/-- a quotient of the two, put together -/
theorem res_divInt {n d : Int} (hd : d ≠ 0) : res (Rat.divInt n d) = (if n.natAbs / Nat.gcd n.natAbs d.natAbs ≤ 1000000000000 ∧ d.natAbs / Nat.gcd n.natAbs d.natAbs ≤ 1000000 then ((if decide (n < 0) ≠ decide (d < 0) then -((n.natAbs / Nat.gcd n.natAbs d.natAbs : Nat) : Int) else ((n.natAbs / Nat.gcd n.natAbs d.natAbs : Nat) : Int)), ((d.natAbs / Nat.gcd n.natAbs d.natAbs : Nat) : Int), true) else (0, 0, false)) := by
  obtain ⟨h1, h2⟩ := divInt_num n d hd
  generalize n.natAbs / Nat.gcd n.natAbs d.natAbs = x at *
  generalize d.natAbs / Nat.gcd n.natAbs d.natAbs = y at *
  have h3 : (Rat.divInt n d).num.natAbs = x := by
    rw [h1]; split <;> omega
  have hf : Fits (Rat.divInt n d) ↔ (x ≤ 1000000000000 ∧ y ≤ 1000000) := by
    unfold Fits
    rw [h3, h2]
  unfold res
  by_cases hc : x ≤ 1000000000000 ∧ y ≤ 1000000
  · rw [if_pos (hf.2 hc), if_pos hc, h1, h2]
  · rw [if_neg (fun h => hc (hf.1 h)), if_neg hc]

theorem made_ev (minus : Bool) (n d : Nat) (hd : 0 < d) (hn : n ≤ 18446744073709551615) (hd' : d ≤ 18446744073709551615) :
    Ev (fun k => whittleref1_made.f k minus n d) (if n / Nat.gcd n d ≤ 1000000000000 ∧ d / Nat.gcd n d ≤ 1000000 then ((if minus then -((n / Nat.gcd n d : Nat) : Int) else ((n / Nat.gcd n d : Nat) : Int)), ((d / Nat.gcd n d : Nat) : Int), true) else (0, 0, false)) := by
  unfold whittleref1_made.f
  refine Ev.bind (gcdR_ev n d) ?_
  have hg : 0 < Nat.gcd n d := Nat.gcd_pos_of_pos_right _ hd
  generalize hgg : Nat.gcd n d = g at *
  have q1 : n / g ≤ n := Nat.div_le_self _ _
  have q2 : d / g ≤ d := Nat.div_le_self _ _
  have e1 : IntKind.u64.wrap (Int.tdiv (n : Int) (g : Int)) = ((n / g : Nat) : Int) := by
    rw [← Int.ofNat_tdiv]; exact u64n (Nat.le_trans (Nat.div_le_self _ _) (by omega))
  have e2 : IntKind.u64.wrap (Int.tdiv (d : Int) (g : Int)) = ((d / g : Nat) : Int) := by
    rw [← Int.ofNat_tdiv]; exact u64n (Nat.le_trans (Nat.div_le_self _ _) (by omega))
  simp only [e1, e2]
  generalize n / g = x at *
  generalize d / g = y at *
  refine Ev.ite_neg (by omega) ?_
  by_cases hx : x > 1000000000000
  · refine Ev.ite_pos (by omega) (Ev.step (f := fun _ => some (0, 0, false)) (fun k => ?_) ?_)
    · simp only [whittleref1_made.j0, if_true]
    · rw [if_neg (by omega)]; exact Ev.now _
  · refine Ev.ite_neg (by omega) ?_
    by_cases hy : y > 1000000
    · refine Ev.step (f := fun _ => some (0, 0, false)) (fun k => ?_) ?_
      · simp only [whittleref1_made.j0]; rw [if_pos (by rw [decide_eq_true_iff]; omega)]
      · rw [if_neg (by omega)]; exact Ev.now _
    · rw [if_pos (by omega)]
      refine Ev.step (f := fun _ => some ((if minus then -(x : Int) else (x : Int)), (y : Int), true)) (fun k => ?_) (Ev.now _)
      simp only [whittleref1_made.j0]
      rw [if_neg (by rw [decide_eq_true_iff]; omega)]
      cases minus
      · rw [if_neg (by simp), w64 (by unfold I64; omega), w64 (by unfold I64; omega)]; simp
      · rw [if_pos rfl, w64 (x := (x : Int)) (by unfold I64; omega), w64 (by unfold I64; omega), w64 (by unfold I64; omega)]; simp

theorem makeR_ev {n d : Int} (hn : I64 n) (hd : I64 d) : Ev (fun k => whittleref1_Make.f k n d) (mk n d) := by
  unfold whittleref1_Make.f mk
  by_cases h0 : d = 0
  · rw [if_pos h0]
    exact Ev.ite_pos h0 (Ev.now _)
  · rw [if_neg h0]
    refine Ev.ite_neg h0 ?_
    refine Ev.bind0 (far_eq hn) (Ev.bind0 (far_eq hd) ?_)
    unfold I64 at *
    refine Ev.bind (made_ev _ n.natAbs d.natAbs (by omega) (by omega) (by omega)) ?_
    rw [res_divInt h0]
    refine Ev.const ?_
    simp only [bne_iff_ne, ne_eq]

theorem make_ev {n d : Int} (hn : I64 n) (hd : I64 d) : Ev (fun k => num_Make.f k n d) (mk n d) := by
  unfold num_Make.f mk
  by_cases h0 : d = 0
  · rw [if_pos h0]
    exact Ev.ite_pos h0 (Ev.now _)
  · rw [if_neg h0]
    refine Ev.ite_neg h0 ?_
    refine Ev.bind0 (size_eq hn) (Ev.bind0 (size_eq hd) ?_)
    rw [res_divInt h0]
    unfold I64 at *
    refine Ev.bind (gcd_ev n.natAbs d.natAbs) ?_
    have hg : 0 < Nat.gcd n.natAbs d.natAbs := Nat.gcd_pos_of_pos_right _ (by omega)
    generalize hgg : Nat.gcd n.natAbs d.natAbs = g at *
    have q1 : n.natAbs / g ≤ n.natAbs := Nat.div_le_self _ _
    have q2 : d.natAbs / g ≤ d.natAbs := Nat.div_le_self _ _
    have e1 : IntKind.u64.wrap (Int.tdiv (n.natAbs : Int) (g : Int)) = ((n.natAbs / g : Nat) : Int) := by
      rw [← Int.ofNat_tdiv]; exact u64n (Nat.le_trans (Nat.div_le_self _ _) (by omega))
    have e2 : IntKind.u64.wrap (Int.tdiv (d.natAbs : Int) (g : Int)) = ((d.natAbs / g : Nat) : Int) := by
      rw [← Int.ofNat_tdiv]; exact u64n (Nat.le_trans (Nat.div_le_self _ _) (by omega))
    simp only [e1, e2]
    generalize n.natAbs / g = x at *
    generalize d.natAbs / g = y at *
    refine Ev.ite_neg (by omega) ?_
    by_cases hx : x > 1000000000000
    · refine Ev.ite_pos (by omega) (Ev.step (f := fun _ => some (0, 0, false)) (fun k => ?_) ?_)
      · simp only [num_Make.j0, if_true]
      · rw [if_neg (by omega)]; exact Ev.now _
    · refine Ev.ite_neg (by omega) ?_
      by_cases hy : y > 1000000
      · refine Ev.step (f := fun _ => some (0, 0, false)) (fun k => ?_) ?_
        · simp only [num_Make.j0]; rw [if_pos (by rw [decide_eq_true_iff]; omega)]
        · rw [if_neg (by omega)]; exact Ev.now _
      · rw [if_pos (by omega)]
        refine Ev.step (f := fun _ => some ((if decide (n < 0) ≠ decide (d < 0) then -(x : Int) else (x : Int)), (y : Int), true)) (fun k => ?_) (Ev.now _)
        simp only [num_Make.j0]
        rw [if_neg (by rw [decide_eq_true_iff]; omega), w64 (x := (x : Int)) (by unfold I64; omega), w64 (x := (y : Int)) (by unfold I64; omega), w64 (x := -(x : Int)) (by unfold I64; omega)]
        by_cases hs : decide (n < 0) = decide (d < 0) <;> simp [hs]

/-- Right tells whether it is right -/
theorem right_ev {n d : Int} (hn : I64 n) (hd : I64 d) : Ev (fun k => num_Right.f k n d) (decide (RightP n d)) := by
  have key : ∀ x : Bool, (x = true → ¬ RightP n d) → (x = false → 1 ≤ d ∧ d ≤ 1000000 ∧ -1000000000000 ≤ n ∧ n ≤ 1000000000000) → Ev (fun k => num_Right.j0 k x n d) (decide (RightP n d)) := by
    intro x h1 h2
    cases x with
    | true =>
      refine Ev.step (f := fun _ => some false) (fun k => by simp only [num_Right.j0, if_true]) ?_
      rw [decide_eq_false (h1 rfl)]; exact Ev.now _
    | false =>
      obtain ⟨b1, b2, b3, b4⟩ := h2 rfl
      refine Ev.step (fun k => by simp only [num_Right.j0]; exact if_neg (by simp)) ?_
      refine Ev.bind0 (size_eq hn) ?_
      have e : IntKind.u64.wrap d = ((d.toNat : Nat) : Int) := by rw [u64 (by omega) (by omega)]; omega
      rw [e]
      refine Ev.bind (gcd_ev n.natAbs d.toNat) (Ev.const ?_)
      congr 1
      rw [Bool.eq_iff_iff, beq_iff_eq, decide_eq_true_iff]
      unfold RightP
      omega
  unfold num_Right.f
  by_cases c1 : n < -1000000000000
  · exact Ev.ite_pos c1 (key true (fun _ h => by unfold RightP at h; omega) (fun h => by cases h))
  · refine Ev.ite_neg c1 ?_
    by_cases c2 : n > 1000000000000
    · exact Ev.ite_pos c2 (key true (fun _ h => by unfold RightP at h; omega) (fun h => by cases h))
    · refine Ev.ite_neg c2 ?_
      by_cases c3 : d < 1
      · exact Ev.ite_pos c3 (key true (fun _ h => by unfold RightP at h; omega) (fun h => by cases h))
      · refine Ev.ite_neg c3 (key _ (fun h0 h => ?_) (fun h => ?_))
        · rw [decide_eq_true_iff] at h0; unfold RightP at h; omega
        · have := of_decide_eq_false h; omega

theorem taken_ev {n d : Int} (hn : I64 n) (hd : I64 d) : Ev (fun k => num_taken.f k n d) ((rat n d).num, ((rat n d).den : Int)) := by
  unfold num_taken.f
  refine Ev.bind (right_ev hn hd) ?_
  by_cases h : RightP n d
  · rw [decide_eq_true h]
    refine Ev.ite_pos rfl (Ev.const ?_)
    have := rat_right h
    rw [this.1, this.2]
    obtain ⟨_, _, h3, _⟩ := h
    rw [show ((d.toNat : Nat) : Int) = d by omega]
  · rw [decide_eq_false h]
    refine Ev.ite_neg (by simp) (Ev.const ?_)
    rw [rat_wrong h]; rfl

/-- bounds of what counts -/
theorem fits_bounds {q : Rat} (h : Fits q) : -1000000000000 ≤ q.num ∧ q.num ≤ 1000000000000 ∧ 1 ≤ (q.den : Int) ∧ (q.den : Int) ≤ 1000000 := by
  unfold Fits at h
  have := q.den_pos
  omega

/-- products of parts -/
theorem mul_bounds {n d : Int} (hn : -1000000000000 ≤ n ∧ n ≤ 1000000000000) (hd : 0 ≤ d ∧ d ≤ 1000000) : -1000000000000000000 ≤ n * d ∧ n * d ≤ 1000000000000000000 := by
  have h1 : n * d ≤ 1000000000000 * d := Int.mul_le_mul_of_nonneg_right hn.2 hd.1
  have h2 : -1000000000000 * d ≤ n * d := Int.mul_le_mul_of_nonneg_right hn.1 hd.1
  omega
theorem den_bounds {d e : Int} (hd : 1 ≤ d ∧ d ≤ 1000000) (he : 1 ≤ e ∧ e ≤ 1000000) : 1 ≤ d * e ∧ d * e ≤ 1000000000000 := by
  have h1 : d * e ≤ 1000000 * e := Int.mul_le_mul_of_nonneg_right hd.2 (by omega)
  have h2 : 1 * e ≤ d * e := Int.mul_le_mul_of_nonneg_right hd.1 (by omega)
  omega
end Go.Proofs.YtlcjfabbnclalaaDoor.F
