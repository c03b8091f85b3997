/-
The plain lemmas that NumMods leans on, out of what this repo keeps in wip.
-/
import Derived.Test.YtlcjfabbnclalaaDoorF2
import Derived.Test.YtlcjfabbnclalaaDoorF5
import Derived.Test.YtlcjfabbnclalaaDoorF6
import Derived.Test.YtlcjfabbnclalaaDoorF8
import Derived.Test.YtlcjfabbnclalaaDoorF12
import Derived.Test.YtlcjfabbnclalaaDoorF17
import Derived.Test.YtlcjfabbnclalaaDoorF29
import Derived.Test.YtlcjfabbnclalaaDoorF31
import Derived.Test.YtlcjfabbnclalaaDoorF32
import Derived.Test.YtlcjfabbnclalaaDoorF33
import Derived.Test.YtlcjfabbnclalaaDoorF34
import Derived.Test.YtlcjfabbnclalaaDoorM2
namespace Go.Proofs.YtlcjfabbnclalaaDoor.F
set_option linter.unusedVariables false
set_option linter.unusedSimpArgs false
section
open Go.RowKit Go.Proofs.YtlcjfabbnclalaaDoorW.PrintWords NumM
theorem res_eta (x : Int × Int × Bool) : (x.1, x.2.1, x.2.2) = x := rfl
/-- the parts of a sum lie within an int -/
theorem add_parts (p q : Rat) (hp : Fits p) (hq : Fits q) : I64 (p.num * q.den) ∧ I64 (q.num * p.den) ∧ I64 (p.num * q.den + q.num * p.den) ∧ I64 ((p.den : Int) * q.den) ∧ (p.den : Int) * q.den ≠ 0 := by
  have b1 := fits_bounds hp
  have b2 := fits_bounds hq
  have m1 := mul_bounds ⟨b1.1, b1.2.1⟩ (d := (q.den : Int)) ⟨by omega, by omega⟩
  have m2 := mul_bounds ⟨b2.1, b2.2.1⟩ (d := (p.den : Int)) ⟨by omega, by omega⟩
  have m3 := den_bounds b1.2.2 b2.2.2
  unfold I64
  omega
theorem able_now : whittlelaw1_able.f 60 = some true := by decide +kernel
theorem able_ev : Ev (fun k => whittlelaw1_able.f k) true := Ev.of (fun k => whittlelaw1_able.mono k) able_now
end
section
open Go.RowKit Go.Proofs.YtlcjfabbnclalaaDoorW.PrintWords NumM
theorem rightR_ev {n d : Int} (hn : I64 n) (hd : I64 d) : Ev (fun k => whittleref1_Right.f k n d) (decide (RightP n d)) := by
  have key : ∀ x : Bool, (x = true → ¬ RightP n d) → (x = false → 1 ≤ d ∧ d ≤ 1000000 ∧ -1000000000000 ≤ n ∧ n ≤ 1000000000000) → Ev (fun k => whittleref1_Right.j0 k x n d) (decide (RightP n d)) := by
    intro x h1 h2
    cases x with
    | true =>
      refine Ev.step (f := fun _ => some false) (fun k => by simp only [whittleref1_Right.j0, if_true]) ?_
      rw [decide_eq_false (h1 rfl)]; exact Ev.now _
    | false =>
      obtain ⟨b1, b2, b3, b4⟩ := h2 rfl
      refine Ev.step (fun k => by simp only [whittleref1_Right.j0]; exact if_neg (by simp)) ?_
      refine Ev.bind0 (far_eq hn) ?_
      have e : IntKind.u64.wrap d = ((d.toNat : Nat) : Int) := by rw [u64 (by omega) (by omega)]; omega
      rw [e]
      refine Ev.bind (gcdR_ev n.natAbs d.toNat) (Ev.const ?_)
      congr 1
      rw [Bool.eq_iff_iff, beq_iff_eq, decide_eq_true_iff]
      unfold RightP
      omega
  unfold whittleref1_Right.f
  by_cases c1 : d < 1
  · exact Ev.ite_pos c1 (key true (fun _ h => by unfold RightP at h; omega) (fun h => by cases h))
  · refine Ev.ite_neg c1 ?_
    by_cases c2 : d > 1000000
    · exact Ev.ite_pos c2 (key true (fun _ h => by unfold RightP at h; omega) (fun h => by cases h))
    · refine Ev.ite_neg c2 ?_
      by_cases c3 : n < -1000000000000
      · exact Ev.ite_pos c3 (key true (fun _ h => by unfold RightP at h; omega) (fun h => by cases h))
      · refine Ev.ite_neg c3 (key _ (fun h0 h => ?_) (fun h => ?_))
        · rw [decide_eq_true_iff] at h0; unfold RightP at h; omega
        · have := of_decide_eq_false h; omega
theorem ofR_ev {n d : Int} (hn : I64 n) (hd : I64 d) : Ev (fun k => whittleref1_Of.f k n d) ((rat n d).num, ((rat n d).den : Int)) := by
  unfold whittleref1_Of.f
  refine Ev.bind (rightR_ev hn hd) ?_
  by_cases h : RightP n d
  · rw [decide_eq_true h]
    refine Ev.ite_pos rfl (Ev.const ?_)
    have := rat_right h
    rw [this.1, this.2]
    obtain ⟨_, _, h3, _⟩ := h
    rw [show ((d.toNat : Nat) : Int) = d by omega]
  · rw [decide_eq_false h]
    refine Ev.ite_neg (by simp) (Ev.const ?_)
    rw [rat_wrong h]; rfl
end
section
open Go.RowKit Go.Proofs.YtlcjfabbnclalaaDoorW.PrintWords NumM
/-- a rational as a pair of ints -/
def nd (q : Rat) : Int × Int := (q.num, (q.den : Int))
theorem i64_num {q : Rat} (h : Fits q) : I64 q.num := by have := fits_bounds h; unfold I64; omega
theorem neg_ev {n d : Int} (hn : I64 n) (hd : I64 d) : Ev (fun k => num_Neg.f k n d) (nd (-(rat n d))) := by
  unfold num_Neg.f
  refine Ev.bind (taken_ev hn hd) (Ev.const ?_)
  have h := fits_bounds (fits_rat n d)
  rw [w64 (x := -(rat n d).num) (by unfold I64; omega)]
  rfl
theorem negR_ev {n d : Int} (hn : I64 n) (hd : I64 d) : Ev (fun k => whittleref1_Neg.f k n d) (nd (-(rat n d))) := by
  unfold whittleref1_Neg.f
  refine Ev.bind (ofR_ev hn hd) (Ev.const ?_)
  have h := fits_bounds (fits_rat n d)
  rw [w64 (x := -(rat n d).num) (by unfold I64; omega)]
  rfl
end
section
open Go.RowKit Go.Proofs.YtlcjfabbnclalaaDoorW.PrintWords NumM
theorem power_ev (p : Nat) (hp : p ≤ 18) : Ev (fun k => num_power.f k (p : Int)) ((10 ^ p : Nat) : Int) := by
  have key : ∀ (j i : Nat), p - i = j → i ≤ p → Ev (fun k => num_power.l0 k ((10 ^ i : Nat) : Int) (p : Int) (i : Int)) ((10 ^ p : Nat) : Int) := by
    intro j
    induction j with
    | zero =>
      intro i hj hi
      have : i = p := by omega
      subst this
      exact Ev.step (f := fun _ => some ((10 ^ i : Nat) : Int)) (fun k => by simp only [num_power.l0]; rw [if_neg (by omega)]) (Ev.now _)
    | succ j ih =>
      intro i hj hi
      have hle : (10 : Nat) ^ (i + 1) ≤ 10 ^ 18 := Nat.pow_le_pow_right (by omega) (by omega)
      refine Ev.step (fun k => by simp only [num_power.l0]; exact if_pos (by omega)) ?_
      rw [show ((10 ^ i : Nat) : Int) * 10 = ((10 ^ (i + 1) : Nat) : Int) by rw [Nat.pow_succ]; rfl, w64 (x := ((10 ^ (i + 1) : Nat) : Int)) (by unfold I64; generalize 10 ^ (i + 1) = z at *; omega), w64 (x := (i : Int) + 1) (by unfold I64; omega)]
      exact ih (i + 1) (by omega) (by omega)
  exact key p 0 (by omega) (by omega)
/-- rounded down, the way the program does it -/
theorem floor_eq' {a b : Int} (hb : 0 < b) (ha : I64 a) : num_floor.f a b = some (a / b) := by
  unfold num_floor.f I64 at *
  have h1 := Int.tdiv_eq_ediv (a := a) (b := b)
  rw [Int.sign_eq_one_of_pos hb] at h1
  have hle : a / b ≤ 9223372036854775807 ∧ -9223372036854775808 ≤ a / b := by
    have := Int.natAbs_ediv_le_natAbs a b
    rcases Int.lt_or_le a 0 with h | h
    · have := Int.ediv_neg_of_neg_of_pos h hb; omega
    · have := Int.ediv_nonneg h (Int.le_of_lt hb); omega
  have hd := Int.dvd_iff_tmod_eq_zero (a := b) (b := a)
  rw [if_neg (by omega)]
  have hw : ∀ x : Int, -9223372036854775808 ≤ x → x ≤ 9223372036854775807 → wrap64 x = x := fun x h1 h2 => w64 ⟨h1, h2⟩
  have hadd : a < 0 → a / b < 0 := fun h => Int.ediv_neg_of_neg_of_pos h hb
  by_cases hz : Int.tmod a b = 0
  · rw [if_pos hz]
    rw [if_pos (Or.inr (hd.2 hz)), Int.add_zero] at h1
    rw [h1, hw _ hle.2 hle.1]
  · rw [if_neg hz]
    have hnd : ¬ b ∣ a := fun h => hz (hd.1 h)
    by_cases hs : a < 0
    · rw [if_neg (by intro h; rcases h with h | h; omega; exact hnd h)] at h1
      have := hadd hs
      rw [if_pos (by simp [hs]; omega), h1, hw (a / b + 1) (by omega) (by omega), show a / b + 1 - 1 = a / b by omega, hw _ hle.2 hle.1]
    · rw [if_pos (Or.inl (by omega)), Int.add_zero] at h1
      rw [if_neg (by simp [hs]; omega), h1, hw _ hle.2 hle.1]
theorem floorF_ev {n d : Int} (hn : I64 n) (hd : I64 d) : Ev (fun k => num_Floor.f k n d) (nd ((rat n d).floor : Rat)) := by
  unfold num_Floor.f
  refine Ev.bind (taken_ev hn hd) ?_
  have h := fits_rat n d
  generalize rat n d = q at *
  have hb := fits_bounds h
  refine Ev.bind0 (floor_eq' (by omega) (i64_num h)) (Ev.const ?_)
  unfold nd
  rw [Rat.num_intCast, Rat.den_intCast, Rat.floor_def]
  rfl
/-- the rest of a quotient that is rounded down -/
theorem fmod_eq' (x y : Int) (hy : y ≠ 0) : (if Int.tmod x y = 0 then Int.tmod x y else if ((decide (Int.tmod x y < 0)) != (decide (y < 0))) = true then Int.tmod x y + y else Int.tmod x y) = x.fmod y := by
  rw [Int.fmod_eq_tmod]
  have hd := Int.dvd_iff_tmod_eq_zero (a := y) (b := x)
  by_cases hz : Int.tmod x y = 0
  · rw [if_pos hz, if_pos (hd.2 hz)]; omega
  · rw [if_neg hz, if_neg (fun h => hz (hd.1 h))]
    have hs : Int.tmod x y < 0 ↔ x < 0 := by
      rcases Int.lt_or_le x 0 with h | h
      · have := Int.tmod_nonneg y (a := -x) (by omega)
        rw [Int.neg_tmod] at this
        omega
      · have := Int.tmod_nonneg y h
        omega
    by_cases hx : x < 0 <;> by_cases hy' : y < 0 <;> simp [hs, hx, hy'] <;> omega
/-- what Mod answers -/
def modQ' (p q : Rat) : Int × Int × Bool := if q = 0 then (0, 0, false) else res (p - q * ((p / q).floor : Rat))
theorem mod_ev {n d m e : Int} (hn : I64 n) (hd : I64 d) (hm : I64 m) (he : I64 e) : Ev (fun k => num_Mod.f k n d m e) (modQ' (rat n d) (rat m e)) := by
  unfold num_Mod.f modQ'
  refine Ev.bind (taken_ev hn hd) (Ev.bind (taken_ev hm he) ?_)
  have hp := fits_rat n d
  have hq := fits_rat m e
  generalize rat n d = p at *
  generalize rat m e = q at *
  obtain ⟨h1, h2, h3, h4, h5⟩ := add_parts p q hp hq
  by_cases q0 : q.num = 0
  · rw [if_pos (Rat.num_eq_zero.1 q0)]
    exact Ev.ite_pos q0 (Ev.now _)
  · rw [if_neg (fun h => q0 (Rat.num_eq_zero.2 h)), modQ p q q0]
    refine Ev.ite_neg q0 ?_
    simp only [w64 h1, w64 h2, w64 h4]
    have y0 : q.num * (p.den : Int) ≠ 0 := Int.mul_ne_zero q0 (by have := p.den_pos; omega)
    refine Ev.ite_neg y0 ?_
    rw [← Int.fmod_def, ← fmod_eq' _ _ y0]
    have hr : (Int.tmod (p.num * (q.den : Int)) (q.num * (p.den : Int))).natAbs ≤ (p.num * (q.den : Int)).natAbs := by
      rw [Int.natAbs_tmod]; exact Nat.mod_le _ _
    have hsign : ∀ a b : Int, Int.tmod a b < 0 → a < 0 := by
      intro a b h
      rcases Int.lt_or_le a 0 with h' | h'
      · exact h'
      · have := Int.tmod_nonneg b h'; omega
    have hb1 := fits_bounds hp
    have hb2 := fits_bounds hq
    have m1 := mul_bounds ⟨hb1.1, hb1.2.1⟩ (d := (q.den : Int)) ⟨by omega, by omega⟩
    have m2 := mul_bounds ⟨hb2.1, hb2.2.1⟩ (d := (p.den : Int)) ⟨by omega, by omega⟩
    generalize Int.tmod (p.num * (q.den : Int)) (q.num * (p.den : Int)) = r at *
    generalize q.num * (p.den : Int) = y at *
    generalize p.num * (q.den : Int) = x at *
    have fin : ∀ r' : Int, I64 r' → Ev (fun k => (num_Make.f k r' ((p.den : Int) * (q.den : Int))).bind fun b => some (b.1, b.2.1, b.2.2)) (res (Rat.divInt r' ((p.den : Int) * (q.den : Int)))) := by
      intro r' hr'
      refine Ev.bind (make_ev hr' h4) (Ev.const ?_)
      unfold mk
      rw [if_neg h5]
    by_cases r0 : r = 0
    · rw [if_pos r0]
      exact Ev.ite_pos r0 (fin r (by unfold I64; omega))
    · rw [if_neg r0]
      refine Ev.ite_neg r0 ?_
      by_cases hc : ((decide (r < 0)) != (decide (y < 0))) = true
      · rw [if_pos hc]
        refine Ev.ite_pos hc ?_
        rw [w64 (x := r + y) (by unfold I64; omega)]
        exact fin _ (by unfold I64; omega)
      · rw [if_neg hc]
        exact Ev.ite_neg hc (fin r (by unfold I64; omega))
/-- the nearest one with so many places -/
def upOf (p : Int) : Nat := 10 ^ p.toNat
def downOf (p : Int) : Nat := 10 ^ (-p).toNat
def roundR (q : Rat) (p : Int) : Rat := Rat.divInt (near q ((upOf p : Rat) / (downOf p : Rat)) * (downOf p : Int)) (upOf p : Int)
def roundQ (q : Rat) (p : Int) : Int × Int × Bool := if p < -12 ∨ p > 6 then (0, 0, false) else res (roundR q p)
theorem near_num (q : Rat) (up down : Nat) (hdn : 0 < down) : (if q.num < 0 then -(((2 * (q.num.natAbs * up) + q.den * down) / (2 * (q.den * down)) : Nat) : Int) else (((2 * (q.num.natAbs * up) + q.den * down) / (2 * (q.den * down)) : Nat) : Int)) = near q ((up : Rat) / (down : Rat)) := by
  rw [near_floor q.num.natAbs q.den up down q.den_pos hdn]
  have hq : q = (q.num : Rat) / (q.den : Rat) := by
    have := Rat.num_divInt_den q
    rw [Rat.divInt_eq_div] at this
    rw [← Rat.intCast_natCast]; exact this.symm
  have hneg : q < 0 ↔ q.num < 0 := by
    have := @Rat.num_nonneg q
    constructor
    · intro h
      rcases Int.lt_or_le q.num 0 with h' | h'
      · exact h'
      · have := this.1 h'; exact absurd h (Rat.not_lt.2 this)
    · intro h
      rcases Rat.lt_trichotomy' q with h' | h'
      · exact h'
      · have := this.2 h'; omega
  unfold near
  by_cases hn : q.num < 0
  · rw [if_pos hn, if_pos (hneg.2 hn)]
    have e : -q = (q.num.natAbs : Rat) / (q.den : Rat) := by
      have : (q.num : Rat) = -((q.num.natAbs : Nat) : Rat) := by
        rw [← Rat.intCast_natCast, ← Rat.intCast_neg]; congr 1; omega
      rw [this] at hq
      generalize (q.num.natAbs : Rat) = a at *
      generalize (q.den : Rat) = b at *
      grind
    rw [e]
  · rw [if_neg hn, if_neg (fun h => hn (hneg.1 h))]
    have e : q = (q.num.natAbs : Rat) / (q.den : Rat) := by
      have : (q.num : Rat) = ((q.num.natAbs : Nat) : Rat) := by
        rw [← Rat.intCast_natCast]; congr 1; omega
      rw [this] at hq
      exact hq
    rw [← e]
where
  Rat.lt_trichotomy' (q : Rat) : q < 0 ∨ 0 ≤ q := by
    rcases Decidable.em (q < 0) with h | h
    · exact Or.inl h
    · exact Or.inr (Rat.not_lt.1 h)
theorem mx_toNat (p : Int) : mx p 0 = ((p.toNat : Nat) : Int) := by unfold mx; omega
/-- the parts of a rounding lie within an int -/
theorem round_parts {q : Rat} (hq : Fits q) {p : Int} (h1 : -12 ≤ p) (h2 : p ≤ 6) :
    0 < upOf p ∧ 0 < downOf p ∧ upOf p ≤ 1000000 ∧ downOf p ≤ 1000000000000 ∧ q.num.natAbs * upOf p ≤ 1000000000000000000 ∧ q.den * downOf p ≤ 1000000000000000000 ∧ 1 ≤ q.den * downOf p ∧ (2 * (q.num.natAbs * upOf p) + q.den * downOf p) / (2 * (q.den * downOf p)) * downOf p ≤ 3000000000000000000 := by
  unfold Fits at hq
  have a1 : upOf p ≤ 10 ^ 6 := Nat.pow_le_pow_right (by omega) (by omega)
  have a2 : downOf p ≤ 10 ^ 12 := Nat.pow_le_pow_right (by omega) (by omega)
  have a3 : 0 < upOf p := Nat.pow_pos (by omega)
  have a4 : 0 < downOf p := Nat.pow_pos (by omega)
  have b1 : q.num.natAbs * upOf p ≤ 1000000000000 * 10 ^ 6 := Nat.mul_le_mul hq.1 a1
  have b2 : q.den * downOf p ≤ 1000000 * 10 ^ 12 := Nat.mul_le_mul hq.2 a2
  have b3 : 1 * 1 ≤ q.den * downOf p := Nat.mul_le_mul q.den_pos a4
  have b4 := Nat.div_mul_le_self (2 * (q.num.natAbs * upOf p) + q.den * downOf p) (2 * (q.den * downOf p))
  have b5 : downOf p ≤ 2 * (q.den * downOf p) := by
    have : 1 * downOf p ≤ q.den * downOf p := Nat.mul_le_mul_right _ q.den_pos
    omega
  have b6 := Nat.mul_le_mul_left ((2 * (q.num.natAbs * upOf p) + q.den * downOf p) / (2 * (q.den * downOf p))) b5
  refine ⟨a3, a4, by omega, by omega, by omega, by omega, by omega, by omega⟩
theorem round_ev {n d p : Int} (hn : I64 n) (hd : I64 d) (hp : I64 p) : Ev (fun k => num_Round.f k n d p) (roundQ (rat n d) p) := by
  have bad : p < -12 ∨ p > 6 → Ev (fun k => num_Round.j0 k p true n d) (roundQ (rat n d) p) := by
    intro h
    unfold roundQ
    rw [if_pos h]
    exact Ev.step (f := fun _ => some (0, 0, false)) (fun k => by simp only [num_Round.j0, if_true]) (Ev.now _)
  unfold num_Round.f
  by_cases h1 : p < -12
  · exact Ev.ite_pos h1 (bad (Or.inl h1))
  · refine Ev.ite_neg h1 ?_
    by_cases h2 : p > 6
    · rw [decide_eq_true h2]; exact bad (Or.inr h2)
    · rw [decide_eq_false h2]
      refine Ev.step (fun k => by simp only [num_Round.j0]; exact if_neg (by simp)) ?_
      refine Ev.bind (taken_ev hn hd) ?_
      have hq := fits_rat n d
      generalize rat n d = q at *
      obtain ⟨u0, d0, u1, d1, c1, c2, c3, c4⟩ := round_parts hq (p := p) (by omega) (by omega)
      unfold roundQ
      rw [if_neg (by omega), mx_toNat, w64 (x := -p) (by unfold I64; omega), mx_toNat]
      refine Ev.bind (power_ev p.toNat (by omega)) (Ev.bind (power_ev (-p).toNat (by omega)) ?_)
      rw [show (10 ^ p.toNat : Nat) = upOf p from rfl, show (10 ^ (-p).toNat : Nat) = downOf p from rfl]
      refine Ev.bind0 (size_eq (i64_num hq)) ?_
      have hnn := near_num q (upOf p) (downOf p) d0
      unfold roundR
      rw [← hnn]
      have hb := fits_bounds hq
      rw [w64 (x := ((q.num.natAbs : Nat) : Int)) (by unfold I64; omega), ← Int.natCast_mul, ← Int.natCast_mul, w64 (x := ((q.num.natAbs * upOf p : Nat) : Int)) (by unfold I64; omega), w64 (x := ((q.den * downOf p : Nat) : Int)) (by unfold I64; omega)]
      generalize q.num.natAbs * upOf p = x at *
      generalize q.den * downOf p = y at *
      rw [show (2 : Int) * (x : Int) = ((2 * x : Nat) : Int) from rfl, show (2 : Int) * (y : Int) = ((2 * y : Nat) : Int) from rfl, w64 (x := ((2 * x : Nat) : Int)) (by unfold I64; omega), w64 (x := ((2 * y : Nat) : Int)) (by unfold I64; omega), ← Int.natCast_add, w64 (x := ((2 * x + y : Nat) : Int)) (by unfold I64; omega)]
      have hz : (2 * x + y) / (2 * y) ≤ 2 * x + y := Nat.div_le_self _ _
      rw [← Int.ofNat_tdiv, w64 (x := (((2 * x + y) / (2 * y) : Nat) : Int)) (by unfold I64; generalize (2 * x + y) / (2 * y) = z at *; omega), ← Int.natCast_mul]
      generalize (2 * x + y) / (2 * y) = z at *
      generalize downOf p = dn at *
      generalize upOf p = u at *
      rw [w64 (x := ((z * dn : Nat) : Int)) (by unfold I64; omega), w64 (x := -((z * dn : Nat) : Int)) (by unfold I64; omega)]
      refine Ev.ite_neg (by omega) ?_
      have fin : ∀ r : Int, I64 r → Ev (fun k => (num_Make.f k r (u : Int)).bind fun b => some (b.1, b.2.1, b.2.2)) (res (Rat.divInt r (u : Int))) := by
        intro r hr
        refine Ev.bind (make_ev hr (by unfold I64; omega)) (Ev.const ?_)
        unfold mk
        rw [if_neg (by omega)]
      by_cases hneg : q.num < 0
      · rw [if_pos hneg, Int.neg_mul, ← Int.natCast_mul]
        exact Ev.ite_pos hneg (fin _ (by unfold I64; omega))
      · rw [if_neg hneg, ← Int.natCast_mul]
        exact Ev.ite_neg hneg (fin _ (by unfold I64; omega))
end
section
open Go.RowKit Go.Proofs.YtlcjfabbnclalaaDoorW.PrintWords NumM
theorem abs_ev {n d : Int} (hn : I64 n) (hd : I64 d) : Ev (fun k => num_Abs.f k n d) (((rat n d).num.natAbs : Int), ((rat n d).den : Int)) := by
  unfold num_Abs.f
  refine Ev.bind (taken_ev hn hd) ?_
  have h := fits_bounds (fits_rat n d)
  generalize rat n d = q at *
  by_cases hneg : q.num < 0
  · refine Ev.ite_pos hneg (Ev.const ?_)
    rw [w64 (x := -q.num) (by unfold I64; omega), show -q.num = (q.num.natAbs : Int) by omega]
  · refine Ev.ite_neg hneg (Ev.const ?_)
    rw [show (q.num.natAbs : Int) = q.num by omega]
theorem absR_ev {n d : Int} (hn : I64 n) (hd : I64 d) : Ev (fun k => whittleref1_Abs.f k n d) (((rat n d).num.natAbs : Int), ((rat n d).den : Int)) := by
  unfold whittleref1_Abs.f
  refine Ev.bind (ofR_ev hn hd) ?_
  have h := fits_bounds (fits_rat n d)
  generalize rat n d = q at *
  by_cases hneg : q.num < 0
  · refine Ev.ite_pos hneg (Ev.const ?_)
    rw [w64 (x := -q.num) (by unfold I64; omega), show -q.num = (q.num.natAbs : Int) by omega]
  · refine Ev.ite_neg hneg (Ev.const ?_)
    rw [show (q.num.natAbs : Int) = q.num by omega]
/-- what Whole answers -/
def wholeQ (q : Rat) : Int × Bool := if q.den = 1 then (q.num, true) else (0, false)
theorem whole_ev {n d : Int} (hn : I64 n) (hd : I64 d) : Ev (fun k => num_Whole.f k n d) (wholeQ (rat n d)) := by
  unfold num_Whole.f wholeQ
  refine Ev.bind (taken_ev hn hd) ?_
  generalize rat n d = q at *
  by_cases h : q.den = 1
  · rw [if_pos h]; exact Ev.ite_pos (by show (q.den : Int) = 1; omega) (Ev.now _)
  · rw [if_neg h]; exact Ev.ite_neg (by show ¬ (q.den : Int) = 1; omega) (Ev.now _)
theorem wholeR_ev {n d : Int} (hn : I64 n) (hd : I64 d) : Ev (fun k => whittleref1_Whole.f k n d) (wholeQ (rat n d)) := by
  unfold whittleref1_Whole.f wholeQ
  refine Ev.bind (ofR_ev hn hd) ?_
  generalize rat n d = q at *
  by_cases h : q.den = 1
  · rw [if_pos h]; exact Ev.ite_pos (by show (q.den : Int) = 1; omega) (Ev.now _)
  · rw [if_neg h]; exact Ev.ite_neg (by show ¬ (q.den : Int) = 1; omega) (Ev.now _)
/-- rounded down, the way the reference does it -/
theorem floored_eq {a b : Int} (hb : 0 < b) (ha : -1000000000000000000 ≤ a ∧ a ≤ 1000000000000000000) (hb' : b ≤ 1000000000000000000) : whittleref1_floored.f a b = some (a / b) := by
  unfold whittleref1_floored.f
  have h1 := Int.tdiv_eq_ediv (a := a) (b := b)
  rw [Int.sign_eq_one_of_pos hb] at h1
  have hle := Int.natAbs_ediv_le_natAbs a b
  have hw : ∀ x : Int, -9223372036854775808 ≤ x → x ≤ 9223372036854775807 → wrap64 x = x := fun x h1 h2 => w64 ⟨h1, h2⟩
  have hm := Int.mul_ediv_add_emod a b
  have hm1 := Int.emod_nonneg a (b := b) (by omega)
  have hm2 := Int.emod_lt_of_pos a hb
  rw [if_neg (by omega)]
  by_cases hc : 0 ≤ a ∨ b ∣ a
  · rw [if_pos hc, Int.add_zero] at h1
    rw [h1, hw (a / b) (by omega) (by omega), Int.mul_comm, hw (b * (a / b)) (by omega) (by omega), if_neg (by omega)]
  · rw [if_neg hc] at h1
    have hne : a % b ≠ 0 := fun h => hc (Or.inr (Int.dvd_of_emod_eq_zero h))
    have e : (a / b + 1) * b = b * (a / b) + b := by rw [Int.add_mul, Int.one_mul, Int.mul_comm]
    rw [h1, hw (a / b + 1) (by omega) (by omega), e, hw (b * (a / b) + b) (by omega) (by omega), if_pos (by omega), show a / b + 1 - 1 = a / b by omega, hw (a / b) (by omega) (by omega)]
theorem floorR_ev {n d : Int} (hn : I64 n) (hd : I64 d) : Ev (fun k => whittleref1_Floor.f k n d) (nd ((rat n d).floor : Rat)) := by
  unfold whittleref1_Floor.f
  refine Ev.bind (ofR_ev hn hd) ?_
  have h := fits_rat n d
  generalize rat n d = q at *
  have hb := fits_bounds h
  refine Ev.bind0 (floored_eq (by omega) (by omega) (by omega)) (Ev.const ?_)
  unfold nd
  rw [Rat.num_intCast, Rat.den_intCast, Rat.floor_def]
  rfl
theorem modR_ev {n d m e : Int} (hn : I64 n) (hd : I64 d) (hm : I64 m) (he : I64 e) : Ev (fun k => whittleref1_Mod.f k n d m e) (modQ' (rat n d) (rat m e)) := by
  unfold whittleref1_Mod.f modQ'
  refine Ev.bind (ofR_ev hn hd) (Ev.bind (ofR_ev hm he) ?_)
  have hp := fits_rat n d
  have hq := fits_rat m e
  generalize rat n d = p at *
  generalize rat m e = q at *
  obtain ⟨h1, h2, h3, h4, h5⟩ := add_parts p q hp hq
  by_cases q0 : q.num = 0
  · rw [if_pos (Rat.num_eq_zero.1 q0)]
    exact Ev.ite_pos q0 (Ev.now _)
  · rw [if_neg (fun h => q0 (Rat.num_eq_zero.2 h)), modQ p q q0]
    refine Ev.ite_neg q0 ?_
    simp only [w64 h1, w64 h2]
    have hdp := p.den_pos
    have y0 : q.num * (p.den : Int) ≠ 0 := Int.mul_ne_zero q0 (by omega)
    have ysign : q.num * (p.den : Int) < 0 ↔ q.num < 0 := by
      constructor
      · intro h
        rcases Int.lt_or_le q.num 0 with h' | h'
        · exact h'
        · have := Int.mul_nonneg h' (show 0 ≤ (p.den : Int) by omega); omega
      · intro h; exact Int.mul_neg_of_neg_of_pos h (by omega)
    rw [← Int.fmod_def]
    have hb1 := fits_bounds hp
    have hb2 := fits_bounds hq
    have m1 := mul_bounds ⟨hb1.1, hb1.2.1⟩ (d := (q.den : Int)) ⟨by omega, by omega⟩
    have m2 := mul_bounds ⟨hb2.1, hb2.2.1⟩ (d := (p.den : Int)) ⟨by omega, by omega⟩
    generalize q.num * (p.den : Int) = y at *
    generalize p.num * (q.den : Int) = x at *
    have fin : ∀ r' : Int, I64 r' → Ev (fun k => (whittleref1_Make.f k r' (wrap64 ((p.den : Int) * (q.den : Int)))).bind fun b => some (b.1, b.2.1, b.2.2)) (res (Rat.divInt r' ((p.den : Int) * (q.den : Int)))) := by
      intro r' hr'
      rw [w64 h4]
      refine Ev.bind (makeR_ev hr' h4) (Ev.const ?_)
      unfold mk
      rw [if_neg h5]
    have part : ∀ a b : Int, 0 < b → -1000000000000000000 ≤ a → a ≤ 1000000000000000000 → b ≤ 1000000000000000000 → wrap64 (a - wrap64 (b * (a / b))) = a % b ∧ I64 (a % b) ∧ I64 (-(a % b)) := by
      intro a b hb ha1 ha2 hb2
      have hm := Int.mul_ediv_add_emod a b
      have hm1 := Int.emod_nonneg a (b := b) (by omega)
      have hm2 := Int.emod_lt_of_pos a hb
      rw [w64 (x := b * (a / b)) (by unfold I64; omega), w64 (x := a - b * (a / b)) (by unfold I64; omega)]
      unfold I64
      omega
    by_cases hy : y < 0
    · rw [w64 (x := -x) (by unfold I64; omega), w64 (x := -y) (by unfold I64; omega)]
      refine Ev.ite_pos hy (Ev.step (fun k => by simp only [whittleref1_Mod.j0]; rfl) ?_)
      refine Ev.bind0 (floored_eq (by omega) (by omega) (by omega)) (Ev.ite_pos (ysign.1 hy) ?_)
      obtain ⟨p1, p2, p3⟩ := part (-x) (-y) (by omega) (by omega) (by omega) (by omega)
      rw [p1, w64 p3]
      have e : x.fmod y = -(-x % -y) := by
        rw [← Int.fmod_eq_emod_of_nonneg _ (show 0 ≤ -y by omega), Int.neg_fmod_neg, Int.neg_neg]
      rw [e]
      exact fin _ p3
    · refine Ev.ite_neg hy (Ev.step (fun k => by simp only [whittleref1_Mod.j0]; rfl) ?_)
      refine Ev.bind0 (floored_eq (by omega) (by omega) (by omega)) (Ev.ite_neg (fun h => hy (ysign.2 h)) ?_)
      obtain ⟨p1, p2, p3⟩ := part x y (by omega) (by omega) (by omega) (by omega)
      rw [p1, Int.fmod_eq_emod_of_nonneg _ (show 0 ≤ y by omega)]
      exact fin _ p2
theorem ten_ev (p : Nat) (hp : p ≤ 18) : Ev (fun k => whittleref1_ten.f k (p : Int)) ((10 ^ p : Nat) : Int) := by
  have key : ∀ (j i : Nat), p - i = j → i ≤ p → Ev (fun k => whittleref1_ten.l0 k (p : Int) ((10 ^ i : Nat) : Int) (i : Int)) ((10 ^ p : Nat) : Int) := by
    intro j
    induction j with
    | zero =>
      intro i hj hi
      have : i = p := by omega
      subst this
      exact Ev.step (f := fun _ => some ((10 ^ i : Nat) : Int)) (fun k => by simp only [whittleref1_ten.l0]; rw [if_neg (by omega)]) (Ev.now _)
    | succ j ih =>
      intro i hj hi
      have hle : (10 : Nat) ^ (i + 1) ≤ 10 ^ 18 := Nat.pow_le_pow_right (by omega) (by omega)
      refine Ev.step (fun k => by simp only [whittleref1_ten.l0]; exact if_pos (by omega)) ?_
      rw [show ((10 ^ i : Nat) : Int) * 10 = ((10 ^ (i + 1) : Nat) : Int) by rw [Nat.pow_succ]; rfl, u64n (x := 10 ^ (i + 1)) (by omega), w64 (x := (i : Int) + 1) (by unfold I64; omega)]
      exact ih (i + 1) (by omega) (by omega)
  exact key p 0 (by omega) (by omega)
/-- what the reference makes, as a rational -/
theorem made_res (minus : Bool) (n d : Nat) (hd : 0 < d) (hn : n ≤ 18446744073709551615) (hd' : d ≤ 18446744073709551615) : Ev (fun k => whittleref1_made.f k minus n d) (res (Rat.divInt (if minus then -(n : Int) else (n : Int)) (d : Int))) := by
  have h := made_ev minus n d hd hn hd'
  rw [res_divInt (by omega)]
  have e1 : (if minus = true then -(n : Int) else (n : Int)).natAbs = n := by cases minus <;> simp
  rw [e1, Int.natAbs_natCast]
  have e2 : decide ((d : Int) < 0) = false := by simp
  rw [e2]
  refine cast (congrArg (Ev _) ?_) h
  have e3 : (if minus = true then -((n / Nat.gcd n d : Nat) : Int) else ((n / Nat.gcd n d : Nat) : Int)) = (if decide ((if minus = true then -(n : Int) else (n : Int)) < 0) ≠ false then -((n / Nat.gcd n d : Nat) : Int) else ((n / Nat.gcd n d : Nat) : Int)) := by
    cases minus
    · simp
    · rcases Nat.eq_zero_or_pos n with h0 | h0
      · subst h0; simp
      · simp; omega
  rw [e3]
theorem near_nat (a b : Nat) (hb : 0 < b) : (2 * a + b) / (2 * b) = if b ≤ 2 * (a - a / b * b) then a / b + 1 else a / b := by
  have h1 := Nat.div_add_mod a b
  have h2 := Nat.mod_lt a hb
  have e : a - a / b * b = a % b := by rw [Nat.mul_comm]; omega
  rw [e]
  have e2 : 2 * a + b = 2 * b * (a / b) + (2 * (a % b) + b) := by
    rw [Nat.mul_assoc]; omega
  rw [e2, Nat.mul_add_div (by omega)]
  split
  · have : (2 * (a % b) + b) / (2 * b) = 1 := by
      rw [Nat.div_eq_iff (by omega)]; omega
    omega
  · have : (2 * (a % b) + b) / (2 * b) = 0 := Nat.div_eq_of_lt (by omega)
    omega
theorem roundR_ev {n d p : Int} (hn : I64 n) (hd : I64 d) (hp : I64 p) : Ev (fun k => whittleref1_Round.f k n d p) (roundQ (rat n d) p) := by
  unfold whittleref1_Round.f
  refine Ev.bind (ofR_ev hn hd) ?_
  have hq := fits_rat n d
  generalize rat n d = q at *
  have bad : p < -12 ∨ p > 6 → Ev (fun k => whittleref1_Round.j0 k p true q.num q.den) (roundQ q p) := by
    intro h
    unfold roundQ
    rw [if_pos h]
    exact Ev.step (f := fun _ => some (0, 0, false)) (fun k => by simp only [whittleref1_Round.j0, if_true]) (Ev.now _)
  by_cases h1 : p < -12
  · exact Ev.ite_pos h1 (bad (Or.inl h1))
  · refine Ev.ite_neg h1 ?_
    by_cases h2 : p > 6
    · rw [decide_eq_true h2]; exact bad (Or.inr h2)
    · rw [decide_eq_false h2]
      obtain ⟨u0, d0, u1, d1, c1, c2, c3, c4⟩ := round_parts hq (p := p) (by omega) (by omega)
      have hb := fits_bounds hq
      refine Ev.step (fun k => by simp only [whittleref1_Round.j0]; exact if_neg (by simp)) ?_
      refine Ev.bind0 (far_eq (i64_num hq)) ?_
      unfold roundQ roundR
      rw [if_neg (by omega), ← near_num q (upOf p) (downOf p) d0]
      rw [u64n (x := q.den) (by have := hq.2; omega)]
      have hdn : 0 < q.den := q.den_pos
      -- the end
      have fin : ∀ (z dn u : Nat), z * dn ≤ 3000000000000000000 → 0 < u → u ≤ 1000000 → Ev (fun k => (whittleref1_made.f k (decide (q.num < 0)) ((z * dn : Nat) : Int) (u : Int)).bind fun b => some (b.1, b.2.1, b.2.2)) (res (Rat.divInt ((if q.num < 0 then -(z : Int) else (z : Int)) * (dn : Int)) (u : Int))) := by
        intro z dn u hz hu hu'
        refine Ev.bind (made_res (decide (q.num < 0)) (z * dn) u hu (by omega) (by omega)) (Ev.const ?_)
        rw [res_eta]
        have : (if decide (q.num < 0) = true then -((z * dn : Nat) : Int) else ((z * dn : Nat) : Int)) = (if q.num < 0 then -(z : Int) else (z : Int)) * (dn : Int) := by
          by_cases hc : q.num < 0
          · rw [if_pos (by simpa using hc), if_pos hc, Int.neg_mul, Int.natCast_mul]
          · rw [if_neg (by simpa using hc), if_neg hc, Int.natCast_mul]
        rw [this]
      have hqq := near_nat (q.num.natAbs * upOf p) (q.den * downOf p) (by omega)
      rw [hqq] at c4 ⊢
      by_cases h3 : p > 0
      · refine Ev.ite_pos h3 ?_
        have e1 : downOf p = 1 := by unfold downOf; rw [show (-p).toNat = 0 by omega, Nat.pow_zero]
        have e2 : ((10 ^ p.toNat : Nat) : Int) = (upOf p : Int) := rfl
        simp only [e1, Nat.mul_one] at c2 c3 c4 hqq d0 d1 ⊢
        have hp' : p = (p.toNat : Int) := by omega
        have ht := ten_ev p.toNat (by omega)
        rw [← hp', e2] at ht
        refine Ev.bind ht ?_
        generalize hx : q.num.natAbs * upOf p = x at *
        have hx' : ((q.num.natAbs : Nat) : Int) * ((upOf p : Nat) : Int) = (x : Int) := by rw [← Int.natCast_mul, hx]
        rw [hx', u64n (x := x) (by omega), u64n (x := q.den) (by omega)]
        have hz : x / q.den ≤ x := Nat.div_le_self _ _
        have hz2 : x / q.den * q.den ≤ x := Nat.div_mul_le_self _ _
        rw [← Int.ofNat_tdiv, u64n (x := x / q.den) (by omega)]
        generalize x / q.den = z at *
        rw [← Int.natCast_mul, u64n (x := z * q.den) (by omega)]
        generalize hzq : z * q.den = zq at *
        rw [u64n (x := zq) (by omega), show ((x : Int) - (zq : Int)) = ((x - zq : Nat) : Int) by omega, u64n (x := x - zq) (by omega), show (2 : Int) * ((x - zq : Nat) : Int) = ((2 * (x - zq) : Nat) : Int) from rfl, u64n (x := 2 * (x - zq)) (by omega)]
        refine Ev.ite_neg (by omega) ?_
        have hu : (upOf p : Int) = ((upOf p : Nat) : Int) := rfl
        by_cases h4 : q.den ≤ 2 * (x - zq)
        · rw [if_pos h4] at c4 ⊢
          refine Ev.ite_pos (by omega) ?_
          rw [show (z : Int) + 1 = ((z + 1 : Nat) : Int) from rfl, u64n (x := z + 1) (by omega), u64n (x := z + 1) (by omega)]
          have := fin (z + 1) 1 (upOf p) (by omega) u0 u1
          rw [Nat.mul_one] at this
          exact this
        · rw [if_neg h4] at c4 ⊢
          refine Ev.ite_neg (by omega) ?_
          rw [u64n (x := z) (by omega)]
          have := fin z 1 (upOf p) (by omega) u0 u1
          rw [Nat.mul_one] at this
          exact this
      · refine Ev.ite_neg h3 ?_
        have e1 : upOf p = 1 := by unfold upOf; rw [show p.toNat = 0 by omega, Nat.pow_zero]
        have e2 : ((10 ^ (-p).toNat : Nat) : Int) = (downOf p : Int) := rfl
        simp only [e1, Nat.mul_one] at c1 c4 hqq u0 u1 ⊢
        have hp' : -p = ((-p).toNat : Int) := by omega
        have ht := ten_ev (-p).toNat (by omega)
        rw [← hp', e2] at ht
        rw [w64 (x := -p) (by unfold I64; omega)]
        refine Ev.bind ht ?_
        have hna : q.num.natAbs ≤ 1000000000000 := hq.1
        generalize hx : q.num.natAbs = x at *
        generalize hdd : downOf p = dn at *
        generalize hy : q.den * dn = y at *
        have hy' : ((q.den : Nat) : Int) * ((dn : Nat) : Int) = (y : Int) := by rw [← Int.natCast_mul, hy]
        rw [hy', u64n (x := x) (by omega), u64n (x := y) (by omega)]
        have hz : x / y ≤ x := Nat.div_le_self _ _
        have hz2 : x / y * y ≤ x := Nat.div_mul_le_self _ _
        rw [← Int.ofNat_tdiv, u64n (x := x / y) (by omega)]
        generalize x / y = z at *
        have hzq : z * q.den ≤ z * q.den * dn := Nat.le_mul_of_pos_right _ d0
        have hzq2 : z * q.den * dn = z * y := by rw [Nat.mul_assoc, hy]
        rw [← Int.natCast_mul, u64n (x := z * q.den) (by omega), ← Int.natCast_mul, hzq2, u64n (x := z * y) (by omega)]
        generalize hzy : z * y = zy at *
        rw [show ((x : Int) - (zy : Int)) = ((x - zy : Nat) : Int) by omega, u64n (x := x - zy) (by omega), show (2 : Int) * ((x - zy : Nat) : Int) = ((2 * (x - zy) : Nat) : Int) from rfl, u64n (x := 2 * (x - zy)) (by omega)]
        refine Ev.ite_neg (by omega) ?_
        by_cases h4 : y ≤ 2 * (x - zy)
        · rw [if_pos h4] at c4 ⊢
          refine Ev.ite_pos (by omega) ?_
          rw [show (z : Int) + 1 = ((z + 1 : Nat) : Int) from rfl, u64n (x := z + 1) (by omega), ← Int.natCast_mul, u64n (x := (z + 1) * dn) (by omega)]
          exact fin (z + 1) dn 1 c4 (by omega) (by omega)
        · rw [if_neg h4] at c4 ⊢
          refine Ev.ite_neg (by omega) ?_
          rw [← Int.natCast_mul, u64n (x := z * dn) (by omega)]
          exact fin z dn 1 c4 (by omega) (by omega)
end
end Go.Proofs.YtlcjfabbnclalaaDoor.F
