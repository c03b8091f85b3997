/-
The plain lemmas that NumRounds leans on, out of what this repo keeps in wip.
-/
import Derived.Test.YtlcjfabbnclalaaDoorF2
import Derived.Test.YtlcjfabbnclalaaDoorF3
import Derived.Test.YtlcjfabbnclalaaDoorF5
import Derived.Test.YtlcjfabbnclalaaDoorF6
import Derived.Test.YtlcjfabbnclalaaDoorF15
import Derived.Test.YtlcjfabbnclalaaDoorF17
import Derived.Test.YtlcjfabbnclalaaDoorF29
import Derived.Test.YtlcjfabbnclalaaDoorM2
namespace Go.Proofs.YtlcjfabbnclalaaDoor.F
set_option linter.unusedVariables false
set_option linter.unusedSimpArgs false
section
open Go.RowKit Go.Proofs.YtlcjfabbnclalaaDoorW.PrintWords NumM
/-- how two lie -/
def cmpQ (p q : Rat) : Int := if p < q then -1 else if q < p then 1 else 0
theorem cmp_parts (p q : Rat) (hp : Fits p) (hq : Fits q) : I64 (p.num * q.den) ∧ I64 (q.num * p.den) := by
  have b1 := fits_bounds hp
  have b2 := fits_bounds hq
  have m1 := mul_bounds ⟨b1.1, b1.2.1⟩ (d := (q.den : Int)) ⟨by omega, by omega⟩
  have m2 := mul_bounds ⟨b2.1, b2.2.1⟩ (d := (p.den : Int)) ⟨by omega, by omega⟩
  unfold I64
  omega
theorem cmp_ev {n d m e : Int} (hn : I64 n) (hd : I64 d) (hm : I64 m) (he : I64 e) : Ev (fun k => num_Cmp.f k n d m e) (cmpQ (rat n d) (rat m e)) := by
  unfold num_Cmp.f
  refine Ev.bind (taken_ev hn hd) (Ev.bind (taken_ev hm he) ?_)
  have hp := fits_rat n d
  have hq := fits_rat m e
  generalize rat n d = p at *
  generalize rat m e = q at *
  obtain ⟨h1, h2⟩ := cmp_parts p q hp hq
  simp only [w64 h1, w64 h2, cmp_lt, gt_iff_lt]
  refine Ev.const ?_
  unfold cmpQ
  split
  · rfl
  · split <;> rfl
theorem res_eta (x : Int × Int × Bool) : (x.1, x.2.1, x.2.2) = x := rfl
/-- the parts of a sum lie within an int -/
theorem add_parts (p q : Rat) (hp : Fits p) (hq : Fits q) : I64 (p.num * q.den) ∧ I64 (q.num * p.den) ∧ I64 (p.num * q.den + q.num * p.den) ∧ I64 ((p.den : Int) * q.den) ∧ (p.den : Int) * q.den ≠ 0 := by
  have b1 := fits_bounds hp
  have b2 := fits_bounds hq
  have m1 := mul_bounds ⟨b1.1, b1.2.1⟩ (d := (q.den : Int)) ⟨by omega, by omega⟩
  have m2 := mul_bounds ⟨b2.1, b2.2.1⟩ (d := (p.den : Int)) ⟨by omega, by omega⟩
  have m3 := den_bounds b1.2.2 b2.2.2
  unfold I64
  omega
theorem add_ev {n d m e : Int} (hn : I64 n) (hd : I64 d) (hm : I64 m) (he : I64 e) : Ev (fun k => num_Add.f k n d m e) (res (rat n d + rat m e)) := by
  unfold num_Add.f
  refine Ev.bind (taken_ev hn hd) (Ev.bind (taken_ev hm he) ?_)
  have hp := fits_rat n d
  have hq := fits_rat m e
  generalize rat n d = p at *
  generalize rat m e = q at *
  obtain ⟨h1, h2, h3, h4, h5⟩ := add_parts p q hp hq
  simp only [w64 h1, w64 h2, w64 h3, w64 h4]
  refine Ev.bind (make_ev h3 h4) (Ev.const ?_)
  rw [res_eta, add_formula]
  unfold mk
  rw [if_neg h5]
theorem able_now : whittlelaw1_able.f 60 = some true := by decide +kernel
theorem able_ev : Ev (fun k => whittlelaw1_able.f k) true := Ev.of (fun k => whittlelaw1_able.mono k) able_now
end
section
open Go.RowKit Go.Proofs.YtlcjfabbnclalaaDoorW.PrintWords NumM
/-- a rational as a pair of ints -/
def nd (q : Rat) : Int × Int := (q.num, (q.den : Int))
theorem fits_neg {q : Rat} (h : Fits q) : Fits (-q) := by
  unfold Fits at *
  rw [Rat.neg_num, Rat.neg_den, Int.natAbs_neg]
  exact h
theorem i64_num {q : Rat} (h : Fits q) : I64 q.num := by have := fits_bounds h; unfold I64; omega
theorem i64_den {q : Rat} (h : Fits q) : I64 (q.den : Int) := by have := fits_bounds h; unfold I64; omega
theorem neg_ev {n d : Int} (hn : I64 n) (hd : I64 d) : Ev (fun k => num_Neg.f k n d) (nd (-(rat n d))) := by
  unfold num_Neg.f
  refine Ev.bind (taken_ev hn hd) (Ev.const ?_)
  have h := fits_bounds (fits_rat n d)
  rw [w64 (x := -(rat n d).num) (by unfold I64; omega)]
  rfl
end
section
open Go.RowKit Go.Proofs.YtlcjfabbnclalaaDoorW.PrintWords NumM
theorem power_ev (p : Nat) (hp : p ≤ 18) : Ev (fun k => num_power.f k (p : Int)) ((10 ^ p : Nat) : Int) := by
  have key : ∀ (j i : Nat), p - i = j → i ≤ p → Ev (fun k => num_power.l0 k ((10 ^ i : Nat) : Int) (p : Int) (i : Int)) ((10 ^ p : Nat) : Int) := by
    intro j
    induction j with
    | zero =>
      intro i hj hi
      have : i = p := by omega
      subst this
      exact Ev.step (f := fun _ => some ((10 ^ i : Nat) : Int)) (fun k => by simp only [num_power.l0]; rw [if_neg (by omega)]) (Ev.now _)
    | succ j ih =>
      intro i hj hi
      have hle : (10 : Nat) ^ (i + 1) ≤ 10 ^ 18 := Nat.pow_le_pow_right (by omega) (by omega)
      refine Ev.step (fun k => by simp only [num_power.l0]; exact if_pos (by omega)) ?_
      rw [show ((10 ^ i : Nat) : Int) * 10 = ((10 ^ (i + 1) : Nat) : Int) by rw [Nat.pow_succ]; rfl, w64 (x := ((10 ^ (i + 1) : Nat) : Int)) (by unfold I64; generalize 10 ^ (i + 1) = z at *; omega), w64 (x := (i : Int) + 1) (by unfold I64; omega)]
      exact ih (i + 1) (by omega) (by omega)
  exact key p 0 (by omega) (by omega)
/-- rounded down, the way the program does it -/
theorem floor_eq' {a b : Int} (hb : 0 < b) (ha : I64 a) : num_floor.f a b = some (a / b) := by
  unfold num_floor.f I64 at *
  have h1 := Int.tdiv_eq_ediv (a := a) (b := b)
  rw [Int.sign_eq_one_of_pos hb] at h1
  have hle : a / b ≤ 9223372036854775807 ∧ -9223372036854775808 ≤ a / b := by
    have := Int.natAbs_ediv_le_natAbs a b
    rcases Int.lt_or_le a 0 with h | h
    · have := Int.ediv_neg_of_neg_of_pos h hb; omega
    · have := Int.ediv_nonneg h (Int.le_of_lt hb); omega
  have hd := Int.dvd_iff_tmod_eq_zero (a := b) (b := a)
  rw [if_neg (by omega)]
  have hw : ∀ x : Int, -9223372036854775808 ≤ x → x ≤ 9223372036854775807 → wrap64 x = x := fun x h1 h2 => w64 ⟨h1, h2⟩
  have hadd : a < 0 → a / b < 0 := fun h => Int.ediv_neg_of_neg_of_pos h hb
  by_cases hz : Int.tmod a b = 0
  · rw [if_pos hz]
    rw [if_pos (Or.inr (hd.2 hz)), Int.add_zero] at h1
    rw [h1, hw _ hle.2 hle.1]
  · rw [if_neg hz]
    have hnd : ¬ b ∣ a := fun h => hz (hd.1 h)
    by_cases hs : a < 0
    · rw [if_neg (by intro h; rcases h with h | h; omega; exact hnd h)] at h1
      have := hadd hs
      rw [if_pos (by simp [hs]; omega), h1, hw (a / b + 1) (by omega) (by omega), show a / b + 1 - 1 = a / b by omega, hw _ hle.2 hle.1]
    · rw [if_pos (Or.inl (by omega)), Int.add_zero] at h1
      rw [if_neg (by simp [hs]; omega), h1, hw _ hle.2 hle.1]
theorem floor_fits {q : Rat} (h : Fits q) : Fits ((q.floor : Int) : Rat) ∧ -1000000000000 ≤ q.floor ∧ q.floor ≤ 1000000000000 := by
  have hb := fits_bounds h
  have : (q.floor).natAbs ≤ q.num.natAbs := by rw [Rat.floor_def]; exact Int.natAbs_ediv_le_natAbs _ _
  unfold Fits at *
  rw [Rat.num_intCast, Rat.den_intCast]
  omega
theorem floorF_ev {n d : Int} (hn : I64 n) (hd : I64 d) : Ev (fun k => num_Floor.f k n d) (nd ((rat n d).floor : Rat)) := by
  unfold num_Floor.f
  refine Ev.bind (taken_ev hn hd) ?_
  have h := fits_rat n d
  generalize rat n d = q at *
  have hb := fits_bounds h
  refine Ev.bind0 (floor_eq' (by omega) (i64_num h)) (Ev.const ?_)
  unfold nd
  rw [Rat.num_intCast, Rat.den_intCast, Rat.floor_def]
  rfl
/-- the nearest one with so many places -/
def upOf (p : Int) : Nat := 10 ^ p.toNat
def downOf (p : Int) : Nat := 10 ^ (-p).toNat
def roundR (q : Rat) (p : Int) : Rat := Rat.divInt (near q ((upOf p : Rat) / (downOf p : Rat)) * (downOf p : Int)) (upOf p : Int)
def roundQ (q : Rat) (p : Int) : Int × Int × Bool := if p < -12 ∨ p > 6 then (0, 0, false) else res (roundR q p)
theorem near_num (q : Rat) (up down : Nat) (hdn : 0 < down) : (if q.num < 0 then -(((2 * (q.num.natAbs * up) + q.den * down) / (2 * (q.den * down)) : Nat) : Int) else (((2 * (q.num.natAbs * up) + q.den * down) / (2 * (q.den * down)) : Nat) : Int)) = near q ((up : Rat) / (down : Rat)) := by
  rw [near_floor q.num.natAbs q.den up down q.den_pos hdn]
  have hq : q = (q.num : Rat) / (q.den : Rat) := by
    have := Rat.num_divInt_den q
    rw [Rat.divInt_eq_div] at this
    rw [← Rat.intCast_natCast]; exact this.symm
  have hneg : q < 0 ↔ q.num < 0 := by
    have := @Rat.num_nonneg q
    constructor
    · intro h
      rcases Int.lt_or_le q.num 0 with h' | h'
      · exact h'
      · have := this.1 h'; exact absurd h (Rat.not_lt.2 this)
    · intro h
      rcases Rat.lt_trichotomy' q with h' | h'
      · exact h'
      · have := this.2 h'; omega
  unfold near
  by_cases hn : q.num < 0
  · rw [if_pos hn, if_pos (hneg.2 hn)]
    have e : -q = (q.num.natAbs : Rat) / (q.den : Rat) := by
      have : (q.num : Rat) = -((q.num.natAbs : Nat) : Rat) := by
        rw [← Rat.intCast_natCast, ← Rat.intCast_neg]; congr 1; omega
      rw [this] at hq
      generalize (q.num.natAbs : Rat) = a at *
      generalize (q.den : Rat) = b at *
      grind
    rw [e]
  · rw [if_neg hn, if_neg (fun h => hn (hneg.1 h))]
    have e : q = (q.num.natAbs : Rat) / (q.den : Rat) := by
      have : (q.num : Rat) = ((q.num.natAbs : Nat) : Rat) := by
        rw [← Rat.intCast_natCast]; congr 1; omega
      rw [this] at hq
      exact hq
    rw [← e]
where
  Rat.lt_trichotomy' (q : Rat) : q < 0 ∨ 0 ≤ q := by
    rcases Decidable.em (q < 0) with h | h
    · exact Or.inl h
    · exact Or.inr (Rat.not_lt.1 h)
theorem mx_toNat (p : Int) : mx p 0 = ((p.toNat : Nat) : Int) := by unfold mx; omega
/-- the parts of a rounding lie within an int -/
theorem round_parts {q : Rat} (hq : Fits q) {p : Int} (h1 : -12 ≤ p) (h2 : p ≤ 6) :
    0 < upOf p ∧ 0 < downOf p ∧ upOf p ≤ 1000000 ∧ downOf p ≤ 1000000000000 ∧ q.num.natAbs * upOf p ≤ 1000000000000000000 ∧ q.den * downOf p ≤ 1000000000000000000 ∧ 1 ≤ q.den * downOf p ∧ (2 * (q.num.natAbs * upOf p) + q.den * downOf p) / (2 * (q.den * downOf p)) * downOf p ≤ 3000000000000000000 := by
  unfold Fits at hq
  have a1 : upOf p ≤ 10 ^ 6 := Nat.pow_le_pow_right (by omega) (by omega)
  have a2 : downOf p ≤ 10 ^ 12 := Nat.pow_le_pow_right (by omega) (by omega)
  have a3 : 0 < upOf p := Nat.pow_pos (by omega)
  have a4 : 0 < downOf p := Nat.pow_pos (by omega)
  have b1 : q.num.natAbs * upOf p ≤ 1000000000000 * 10 ^ 6 := Nat.mul_le_mul hq.1 a1
  have b2 : q.den * downOf p ≤ 1000000 * 10 ^ 12 := Nat.mul_le_mul hq.2 a2
  have b3 : 1 * 1 ≤ q.den * downOf p := Nat.mul_le_mul q.den_pos a4
  have b4 := Nat.div_mul_le_self (2 * (q.num.natAbs * upOf p) + q.den * downOf p) (2 * (q.den * downOf p))
  have b5 : downOf p ≤ 2 * (q.den * downOf p) := by
    have : 1 * downOf p ≤ q.den * downOf p := Nat.mul_le_mul_right _ q.den_pos
    omega
  have b6 := Nat.mul_le_mul_left ((2 * (q.num.natAbs * upOf p) + q.den * downOf p) / (2 * (q.den * downOf p))) b5
  refine ⟨a3, a4, by omega, by omega, by omega, by omega, by omega, by omega⟩
theorem round_ev {n d p : Int} (hn : I64 n) (hd : I64 d) (hp : I64 p) : Ev (fun k => num_Round.f k n d p) (roundQ (rat n d) p) := by
  have bad : p < -12 ∨ p > 6 → Ev (fun k => num_Round.j0 k p true n d) (roundQ (rat n d) p) := by
    intro h
    unfold roundQ
    rw [if_pos h]
    exact Ev.step (f := fun _ => some (0, 0, false)) (fun k => by simp only [num_Round.j0, if_true]) (Ev.now _)
  unfold num_Round.f
  by_cases h1 : p < -12
  · exact Ev.ite_pos h1 (bad (Or.inl h1))
  · refine Ev.ite_neg h1 ?_
    by_cases h2 : p > 6
    · rw [decide_eq_true h2]; exact bad (Or.inr h2)
    · rw [decide_eq_false h2]
      refine Ev.step (fun k => by simp only [num_Round.j0]; exact if_neg (by simp)) ?_
      refine Ev.bind (taken_ev hn hd) ?_
      have hq := fits_rat n d
      generalize rat n d = q at *
      obtain ⟨u0, d0, u1, d1, c1, c2, c3, c4⟩ := round_parts hq (p := p) (by omega) (by omega)
      unfold roundQ
      rw [if_neg (by omega), mx_toNat, w64 (x := -p) (by unfold I64; omega), mx_toNat]
      refine Ev.bind (power_ev p.toNat (by omega)) (Ev.bind (power_ev (-p).toNat (by omega)) ?_)
      rw [show (10 ^ p.toNat : Nat) = upOf p from rfl, show (10 ^ (-p).toNat : Nat) = downOf p from rfl]
      refine Ev.bind0 (size_eq (i64_num hq)) ?_
      have hnn := near_num q (upOf p) (downOf p) d0
      unfold roundR
      rw [← hnn]
      have hb := fits_bounds hq
      rw [w64 (x := ((q.num.natAbs : Nat) : Int)) (by unfold I64; omega), ← Int.natCast_mul, ← Int.natCast_mul, w64 (x := ((q.num.natAbs * upOf p : Nat) : Int)) (by unfold I64; omega), w64 (x := ((q.den * downOf p : Nat) : Int)) (by unfold I64; omega)]
      generalize q.num.natAbs * upOf p = x at *
      generalize q.den * downOf p = y at *
      rw [show (2 : Int) * (x : Int) = ((2 * x : Nat) : Int) from rfl, show (2 : Int) * (y : Int) = ((2 * y : Nat) : Int) from rfl, w64 (x := ((2 * x : Nat) : Int)) (by unfold I64; omega), w64 (x := ((2 * y : Nat) : Int)) (by unfold I64; omega), ← Int.natCast_add, w64 (x := ((2 * x + y : Nat) : Int)) (by unfold I64; omega)]
      have hz : (2 * x + y) / (2 * y) ≤ 2 * x + y := Nat.div_le_self _ _
      rw [← Int.ofNat_tdiv, w64 (x := (((2 * x + y) / (2 * y) : Nat) : Int)) (by unfold I64; generalize (2 * x + y) / (2 * y) = z at *; omega), ← Int.natCast_mul]
      generalize (2 * x + y) / (2 * y) = z at *
      generalize downOf p = dn at *
      generalize upOf p = u at *
      rw [w64 (x := ((z * dn : Nat) : Int)) (by unfold I64; omega), w64 (x := -((z * dn : Nat) : Int)) (by unfold I64; omega)]
      refine Ev.ite_neg (by omega) ?_
      have fin : ∀ r : Int, I64 r → Ev (fun k => (num_Make.f k r (u : Int)).bind fun b => some (b.1, b.2.1, b.2.2)) (res (Rat.divInt r (u : Int))) := by
        intro r hr
        refine Ev.bind (make_ev hr (by unfold I64; omega)) (Ev.const ?_)
        unfold mk
        rw [if_neg (by omega)]
      by_cases hneg : q.num < 0
      · rw [if_pos hneg, Int.neg_mul, ← Int.natCast_mul]
        exact Ev.ite_pos hneg (fin _ (by unfold I64; omega))
      · rw [if_neg hneg, ← Int.natCast_mul]
        exact Ev.ite_neg hneg (fin _ (by unfold I64; omega))
end
section
open Go.RowKit Go.Proofs.YtlcjfabbnclalaaDoorW.PrintWords NumM
theorem rightL_loop (x y : Nat) : Ev (fun k => whittlelaw1_right.l0 k x y) (decide (Nat.gcd x y = 1)) := by
  induction x using Nat.strongRecOn generalizing y with
  | ind x ih =>
    by_cases hx : x = 0
    · subst hx
      refine Ev.step (f := fun _ => some ((y : Int) == 1)) (fun k => ?_) (Ev.const ?_)
      · simp only [whittlelaw1_right.l0]; exact if_pos rfl
      · congr 1
        rw [Bool.eq_iff_iff, beq_iff_eq, decide_eq_true_iff]
        have e := Nat.gcd_zero_left y
        constructor
        · intro h; rw [e]; omega
        · intro h; rw [e] at h; omega
    · refine Ev.step (fun k => by simp only [whittlelaw1_right.l0]; exact if_neg (by omega)) ?_
      rw [← Int.ofNat_tmod]
      refine cast (congrArg (Ev _) ?_) (ih (y % x) (Nat.mod_lt _ (by omega)) x)
      rw [Bool.eq_iff_iff, decide_eq_true_iff, decide_eq_true_iff]
      have e := Nat.gcd_rec x y
      constructor
      · intro h; rw [e]; exact h
      · intro h; rw [e] at h; exact h
theorem rightL_ev {n d : Int} (hn : I64 n) (hd : I64 d) : Ev (fun k => whittlelaw1_right.f k n d) (decide (RightP n d)) := by
  have key : ∀ x : Bool, (x = true → ¬ RightP n d) → (x = false → 1 ≤ d ∧ d ≤ 1000000 ∧ -1000000000000 ≤ n ∧ n ≤ 1000000000000) → Ev (fun k => whittlelaw1_right.j0 k x n d) (decide (RightP n d)) := by
    intro x h1 h2
    cases x with
    | true =>
      refine Ev.step (f := fun _ => some false) (fun k => by simp only [whittlelaw1_right.j0, if_true]) ?_
      rw [decide_eq_false (h1 rfl)]; exact Ev.now _
    | false =>
      obtain ⟨b1, b2, b3, b4⟩ := h2 rfl
      refine Ev.step (fun k => by simp only [whittlelaw1_right.j0]; exact if_neg (by simp)) ?_
      have fin : ∀ x : Int, x = (n.natAbs : Int) → Ev (fun k => whittlelaw1_right.j1 k x n d) (decide (RightP n d)) := by
        intro x hx
        refine Ev.step (fun k => by simp only [whittlelaw1_right.j1]; rfl) ?_
        have := rightL_loop n.natAbs d.toNat
        rw [hx, show d = ((d.toNat : Nat) : Int) by omega]
        refine cast (congrArg (Ev _) ?_) this
        rw [Bool.eq_iff_iff, decide_eq_true_iff, decide_eq_true_iff]
        unfold RightP
        rw [Int.toNat_natCast]
        omega
      by_cases hneg : n < 0
      · exact Ev.ite_pos hneg (fin _ (by rw [w64 (x := -n) (by unfold I64; omega)]; omega))
      · exact Ev.ite_neg hneg (fin _ (by omega))
  unfold whittlelaw1_right.f
  by_cases c1 : d < 1
  · exact Ev.ite_pos c1 (key true (fun _ h => by unfold RightP at h; omega) (fun h => by cases h))
  · refine Ev.ite_neg c1 ?_
    by_cases c2 : d > 1000000
    · exact Ev.ite_pos c2 (key true (fun _ h => by unfold RightP at h; omega) (fun h => by cases h))
    · refine Ev.ite_neg c2 ?_
      by_cases c3 : n < -1000000000000
      · exact Ev.ite_pos c3 (key true (fun _ h => by unfold RightP at h; omega) (fun h => by cases h))
      · refine Ev.ite_neg c3 (key _ (fun h0 h => ?_) (fun h => ?_))
        · rw [decide_eq_true_iff] at h0; unfold RightP at h; omega
        · have := of_decide_eq_false h; omega
/-- a right number is a rational that fits, and no other pair is -/
theorem right_nd {n d : Int} (h : RightP n d) : n = (rat n d).num ∧ d = ((rat n d).den : Int) := by
  have := rat_right h
  rw [this.1, this.2]
  obtain ⟨_, _, h3, _⟩ := h
  omega
end
section
open Go.RowKit Go.Proofs.YtlcjfabbnclalaaDoorW.PrintWords NumM
theorem res_pos {q : Rat} (h : Fits q) : res q = (q.num, (q.den : Int), true) := by unfold res; rw [if_pos h]
theorem res_neg {q : Rat} (h : ¬ Fits q) : res q = (0, 0, false) := by unfold res; rw [if_neg h]
theorem cmpQ_range (p q : Rat) : cmpQ p q = -1 ∨ cmpQ p q = 0 ∨ cmpQ p q = 1 := by unfold cmpQ; split; exact Or.inl rfl; split; exact Or.inr (Or.inr rfl); exact Or.inr (Or.inl rfl)
theorem cmpQ_lt {p q : Rat} : cmpQ p q = -1 ↔ p < q := by
  unfold cmpQ
  constructor
  · intro h
    split at h
    · assumption
    · split at h <;> omega
  · intro h; rw [if_pos h]
theorem cmpQ_gt {p q : Rat} : cmpQ p q = 1 ↔ q < p := by
  unfold cmpQ
  constructor
  · intro h
    split at h
    · omega
    · split at h
      · assumption
      · omega
  · intro h; rw [if_neg (Rat.not_lt.2 (Rat.le_of_lt h)), if_pos h]
theorem cmpQ_eq {p q : Rat} : cmpQ p q = 0 ↔ p = q := by
  constructor
  · intro h
    have h1 : ¬ p < q := fun h' => by have := cmpQ_lt.2 h'; omega
    have h2 : ¬ q < p := fun h' => by have := cmpQ_gt.2 h'; omega
    exact Rat.le_antisymm (Rat.not_lt.1 h2) (Rat.not_lt.1 h1)
  · rintro rfl
    unfold cmpQ
    rw [if_neg Rat.lt_irrefl, if_neg Rat.lt_irrefl]
theorem cmpQ_le {p q : Rat} : cmpQ p q ≤ 0 ↔ p ≤ q := by
  rcases cmpQ_range p q with h | h | h
  · have := cmpQ_lt.1 h; exact ⟨fun _ => Rat.le_of_lt this, fun _ => by omega⟩
  · have := cmpQ_eq.1 h; exact ⟨fun _ => by rw [this]; exact Rat.le_refl, fun _ => by omega⟩
  · have := cmpQ_gt.1 h; exact ⟨fun _ => by omega, fun h' => absurd this (Rat.not_lt.2 h')⟩
/-- a right pair is a rational's -/
theorem of_right {n d : Int} (h : RightP n d) : ∃ q : Rat, Fits q ∧ n = q.num ∧ d = (q.den : Int) := ⟨rat n d, fits_rat n d, right_nd h⟩
/-- cmp of two that fit -/
theorem cmpF_ev {p q : Rat} (hp : Fits p) (hq : Fits q) : Ev (fun k => num_Cmp.f k p.num p.den q.num q.den) (cmpQ p q) := by
  have := cmp_ev (i64_num hp) (i64_den hp) (i64_num hq) (i64_den hq)
  rwa [rat_of_fits hp, rat_of_fits hq] at this
theorem addF_ev {p q : Rat} (hp : Fits p) (hq : Fits q) : Ev (fun k => num_Add.f k p.num p.den q.num q.den) (res (p + q)) := by
  have := add_ev (i64_num hp) (i64_den hp) (i64_num hq) (i64_den hq)
  rwa [rat_of_fits hp, rat_of_fits hq] at this
theorem rightF_ev {q : Rat} (h : Fits q) : Ev (fun k => whittlelaw1_right.f k q.num q.den) true := by
  have := rightL_ev (i64_num h) (i64_den h)
  rwa [decide_eq_true (right_of_fits h)] at this
theorem fits_one : Fits 1 := by decide
end
section
open Go.RowKit Go.Proofs.YtlcjfabbnclalaaDoorW.PrintWords NumM
theorem res_ok (q : Rat) : (res q).2.2 = true ↔ Fits q := by
  unfold res
  by_cases h : Fits q
  · rw [if_pos h]; exact ⟨fun _ => h, fun _ => rfl⟩
  · rw [if_neg h]; exact ⟨fun h' => (by cases h'), fun h' => absurd h' h⟩
end
end Go.Proofs.YtlcjfabbnclalaaDoor.F
