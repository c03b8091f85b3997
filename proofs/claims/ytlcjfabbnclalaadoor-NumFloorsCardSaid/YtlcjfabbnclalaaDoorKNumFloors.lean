/-
The plain lemmas that NumFloors leans on, out of what this repo keeps in wip.
-/
import Derived.Test.YtlcjfabbnclalaaDoorF2
import Derived.Test.YtlcjfabbnclalaaDoorF3
import Derived.Test.YtlcjfabbnclalaaDoorF5
import Derived.Test.YtlcjfabbnclalaaDoorF6
import Derived.Test.YtlcjfabbnclalaaDoorF15
import Derived.Test.YtlcjfabbnclalaaDoorF17
import Derived.Test.YtlcjfabbnclalaaDoorF21
import Derived.Test.YtlcjfabbnclalaaDoorF23
import Derived.Test.YtlcjfabbnclalaaDoorF29
import Derived.Test.YtlcjfabbnclalaaDoorF31
import Derived.Test.YtlcjfabbnclalaaDoorF34
import Derived.Test.YtlcjfabbnclalaaDoorM2
namespace Go.Proofs.YtlcjfabbnclalaaDoor.F
set_option linter.unusedVariables false
set_option linter.unusedSimpArgs false
section
open Go.RowKit Go.Proofs.YtlcjfabbnclalaaDoorW.PrintWords NumM
/-- how two lie -/
def cmpQ (p q : Rat) : Int := if p < q then -1 else if q < p then 1 else 0
theorem cmp_parts (p q : Rat) (hp : Fits p) (hq : Fits q) : I64 (p.num * q.den) ∧ I64 (q.num * p.den) := by
  have b1 := fits_bounds hp
  have b2 := fits_bounds hq
  have m1 := mul_bounds ⟨b1.1, b1.2.1⟩ (d := (q.den : Int)) ⟨by omega, by omega⟩
  have m2 := mul_bounds ⟨b2.1, b2.2.1⟩ (d := (p.den : Int)) ⟨by omega, by omega⟩
  unfold I64
  omega
theorem cmp_ev {n d m e : Int} (hn : I64 n) (hd : I64 d) (hm : I64 m) (he : I64 e) : Ev (fun k => num_Cmp.f k n d m e) (cmpQ (rat n d) (rat m e)) := by
  unfold num_Cmp.f
  refine Ev.bind (taken_ev hn hd) (Ev.bind (taken_ev hm he) ?_)
  have hp := fits_rat n d
  have hq := fits_rat m e
  generalize rat n d = p at *
  generalize rat m e = q at *
  obtain ⟨h1, h2⟩ := cmp_parts p q hp hq
  simp only [w64 h1, w64 h2, cmp_lt, gt_iff_lt]
  refine Ev.const ?_
  unfold cmpQ
  split
  · rfl
  · split <;> rfl
theorem res_eta (x : Int × Int × Bool) : (x.1, x.2.1, x.2.2) = x := rfl
/-- the parts of a sum lie within an int -/
theorem add_parts (p q : Rat) (hp : Fits p) (hq : Fits q) : I64 (p.num * q.den) ∧ I64 (q.num * p.den) ∧ I64 (p.num * q.den + q.num * p.den) ∧ I64 ((p.den : Int) * q.den) ∧ (p.den : Int) * q.den ≠ 0 := by
  have b1 := fits_bounds hp
  have b2 := fits_bounds hq
  have m1 := mul_bounds ⟨b1.1, b1.2.1⟩ (d := (q.den : Int)) ⟨by omega, by omega⟩
  have m2 := mul_bounds ⟨b2.1, b2.2.1⟩ (d := (p.den : Int)) ⟨by omega, by omega⟩
  have m3 := den_bounds b1.2.2 b2.2.2
  unfold I64
  omega
theorem add_ev {n d m e : Int} (hn : I64 n) (hd : I64 d) (hm : I64 m) (he : I64 e) : Ev (fun k => num_Add.f k n d m e) (res (rat n d + rat m e)) := by
  unfold num_Add.f
  refine Ev.bind (taken_ev hn hd) (Ev.bind (taken_ev hm he) ?_)
  have hp := fits_rat n d
  have hq := fits_rat m e
  generalize rat n d = p at *
  generalize rat m e = q at *
  obtain ⟨h1, h2, h3, h4, h5⟩ := add_parts p q hp hq
  simp only [w64 h1, w64 h2, w64 h3, w64 h4]
  refine Ev.bind (make_ev h3 h4) (Ev.const ?_)
  rw [res_eta, add_formula]
  unfold mk
  rw [if_neg h5]
theorem able_now : whittlelaw1_able.f 60 = some true := by decide +kernel
theorem able_ev : Ev (fun k => whittlelaw1_able.f k) true := Ev.of (fun k => whittlelaw1_able.mono k) able_now
end
section
open Go.RowKit Go.Proofs.YtlcjfabbnclalaaDoorW.PrintWords NumM
/-- a rational as a pair of ints -/
def nd (q : Rat) : Int × Int := (q.num, (q.den : Int))
theorem fits_neg {q : Rat} (h : Fits q) : Fits (-q) := by
  unfold Fits at *
  rw [Rat.neg_num, Rat.neg_den, Int.natAbs_neg]
  exact h
theorem rat_nd {q : Rat} (h : Fits q) : rat (nd q).1 (nd q).2 = q := rat_of_fits h
theorem i64_num {q : Rat} (h : Fits q) : I64 q.num := by have := fits_bounds h; unfold I64; omega
theorem i64_den {q : Rat} (h : Fits q) : I64 (q.den : Int) := by have := fits_bounds h; unfold I64; omega
theorem neg_ev {n d : Int} (hn : I64 n) (hd : I64 d) : Ev (fun k => num_Neg.f k n d) (nd (-(rat n d))) := by
  unfold num_Neg.f
  refine Ev.bind (taken_ev hn hd) (Ev.const ?_)
  have h := fits_bounds (fits_rat n d)
  rw [w64 (x := -(rat n d).num) (by unfold I64; omega)]
  rfl
theorem sub_ev {n d m e : Int} (hn : I64 n) (hd : I64 d) (hm : I64 m) (he : I64 e) : Ev (fun k => num_Sub.f k n d m e) (res (rat n d - rat m e)) := by
  unfold num_Sub.f
  refine Ev.bind (neg_ev hm he) ?_
  have hf := fits_neg (fits_rat m e)
  refine Ev.bind (add_ev hn hd (i64_num hf) (i64_den hf)) (Ev.const ?_)
  rw [res_eta, rat_nd hf, Rat.sub_eq_add_neg]
end
section
open Go.RowKit Go.Proofs.YtlcjfabbnclalaaDoorW.PrintWords NumM
/-- what is left of the parts of two, what divides both taken out -/
structure Cross (p q : Rat) (n m : Int) (d e : Nat) : Prop where
  en : n = p.num / (Nat.gcd p.num.natAbs q.den : Nat)
  em : m = q.num / (Nat.gcd q.num.natAbs p.den : Nat)
  ed : d = p.den / Nat.gcd q.num.natAbs p.den
  ee : e = q.den / Nat.gcd p.num.natAbs q.den
  num : (p * q).num = n * m
  den : (p * q).den = d * e
  na : n.natAbs = p.num.natAbs / Nat.gcd p.num.natAbs q.den
  ma : m.natAbs = q.num.natAbs / Nat.gcd q.num.natAbs p.den
  nb : n.natAbs ≤ p.num.natAbs
  mb : m.natAbs ≤ q.num.natAbs
  db : d ≤ p.den
  eb : e ≤ q.den
  dp : 0 < d
  ep : 0 < e
theorem gcd_dvd_num (n : Int) (d : Nat) : ((Nat.gcd n.natAbs d : Nat) : Int) ∣ n := Int.ofNat_dvd_left.2 (Nat.gcd_dvd_left _ _)
theorem cross (p q : Rat) : Cross p q (p.num / (Nat.gcd p.num.natAbs q.den : Nat)) (q.num / (Nat.gcd q.num.natAbs p.den : Nat)) (p.den / Nat.gcd q.num.natAbs p.den) (q.den / Nat.gcd p.num.natAbs q.den) := by
  have h := mul_num_den p q
  have n1 : (p.num / (Nat.gcd p.num.natAbs q.den : Nat)).natAbs = p.num.natAbs / Nat.gcd p.num.natAbs q.den := by
    rw [Int.natAbs_ediv_of_dvd (gcd_dvd_num _ _), Int.natAbs_natCast]
  have n2 : (q.num / (Nat.gcd q.num.natAbs p.den : Nat)).natAbs = q.num.natAbs / Nat.gcd q.num.natAbs p.den := by
    rw [Int.natAbs_ediv_of_dvd (gcd_dvd_num _ _), Int.natAbs_natCast]
  exact ⟨rfl, rfl, rfl, rfl, h.1, h.2, n1, n2, by rw [n1]; exact Nat.div_le_self _ _, by rw [n2]; exact Nat.div_le_self _ _, Nat.div_le_self _ _, Nat.div_le_self _ _, Nat.div_gcd_pos_of_pos_right _ p.den_pos, Nat.div_gcd_pos_of_pos_right _ q.den_pos⟩
theorem tdiv_gcd (n : Int) (d : Nat) : Int.tdiv n ((Nat.gcd n.natAbs d : Nat) : Int) = n / ((Nat.gcd n.natAbs d : Nat) : Int) := Int.tdiv_eq_ediv_of_dvd (gcd_dvd_num _ _)
/-- when a product of two is too great -/
theorem over_div (x y : Nat) (hy : 0 < y) (b : Nat) : x > b / y ↔ x * y > b := by
  rw [gt_iff_lt, gt_iff_lt, Nat.div_lt_iff_lt_mul hy]
theorem product_ev (p q : Rat) (hp : p.num.natAbs ≤ 1000000000000) (hpd : p.den ≤ 1000000) (hq : q.num.natAbs ≤ 1000000000000) (hqd : q.den ≤ 1000000000000) :
    Ev (fun k => num_product.f k p.num p.den q.num q.den) (res (p * q)) := by
  obtain ⟨-, -, -, -, hnum, hden, na, ma, nb, mb, db, eb, dp, ep⟩ := cross p q
  have p1 := p.den_pos
  have p2 := q.den_pos
  unfold num_product.f
  refine Ev.bind0 (size_eq (by unfold I64; omega)) ?_
  rw [u64n (x := q.den) (by omega), u64n (x := p.den) (by omega)]
  refine Ev.bind (gcd_ev p.num.natAbs q.den) ?_
  refine Ev.bind0 (size_eq (by unfold I64; omega)) ?_
  refine Ev.bind (gcd_ev q.num.natAbs p.den) ?_
  have hg : 0 < Nat.gcd p.num.natAbs q.den := Nat.gcd_pos_of_pos_right _ p2
  have hh : 0 < Nat.gcd q.num.natAbs p.den := Nat.gcd_pos_of_pos_right _ p1
  have hg2 : Nat.gcd p.num.natAbs q.den ≤ q.den := Nat.le_of_dvd p2 (Nat.gcd_dvd_right _ _)
  have hh2 : Nat.gcd q.num.natAbs p.den ≤ p.den := Nat.le_of_dvd p1 (Nat.gcd_dvd_right _ _)
  rw [w64 (x := ((Nat.gcd p.num.natAbs q.den : Nat) : Int)) (by unfold I64; omega), w64 (x := ((Nat.gcd q.num.natAbs p.den : Nat) : Int)) (by unfold I64; omega)]
  rw [tdiv_gcd, tdiv_gcd]
  rw [show Int.tdiv (p.den : Int) ((Nat.gcd q.num.natAbs p.den : Nat) : Int) = ((p.den / Nat.gcd q.num.natAbs p.den : Nat) : Int) from (Int.ofNat_tdiv _ _).symm, show Int.tdiv (q.den : Int) ((Nat.gcd p.num.natAbs q.den : Nat) : Int) = ((q.den / Nat.gcd p.num.natAbs q.den : Nat) : Int) from (Int.ofNat_tdiv _ _).symm]
  generalize hG : ((Nat.gcd p.num.natAbs q.den : Nat) : Int) = G at *
  generalize hH : ((Nat.gcd q.num.natAbs p.den : Nat) : Int) = H at *
  generalize p.num / G = n at *
  generalize q.num / H = m at *
  generalize p.den / Nat.gcd q.num.natAbs p.den = d at *
  generalize q.den / Nat.gcd p.num.natAbs q.den = e at *
  have de1 : d * e ≤ 1000000 * 1000000000000 := Nat.mul_le_mul (by omega) (by omega)
  rw [w64 (x := n) (by unfold I64; omega), w64 (x := m) (by unfold I64; omega), w64 (x := (d : Int)) (by unfold I64; omega), w64 (x := (e : Int)) (by unfold I64; omega)]
  rw [← Int.natCast_mul, w64 (x := ((d * e : Nat) : Int)) (by unfold I64; omega)]
  have hfit : Fits (p * q) ↔ n.natAbs * m.natAbs ≤ 1000000000000 ∧ d * e ≤ 1000000 := by
    unfold Fits; rw [hnum, hden, Int.natAbs_mul]
  have fail : ∀ K : Nat → Option (Int × Int × Bool), ¬ Fits (p * q) → (∀ k, K (k + 1) = some (0, 0, false)) → Ev K (res (p * q)) := by
    intro K h hK
    refine Ev.step (f := fun _ => some (0, 0, false)) hK ?_
    unfold res; rw [if_neg h]; exact Ev.now _
  have good : n.natAbs * m.natAbs ≤ 1000000000000 → Ev (fun k => num_product.j0 k n d m e (decide (((d * e : Nat) : Int) > 1000000))) (res (p * q)) := by
    intro hle
    by_cases hde : d * e ≤ 1000000
    · have hF := hfit.2 ⟨hle, hde⟩
      have hab : (n * m).natAbs ≤ 1000000000000 := by rw [Int.natAbs_mul]; exact hle
      refine Ev.step (f := fun _ => some (n * m, ((d * e : Nat) : Int), true)) (fun k => ?_) ?_
      · simp only [num_product.j0]
        rw [if_neg (by rw [decide_eq_true_iff]; omega), ← Int.natCast_mul, w64 (x := ((d * e : Nat) : Int)) (by unfold I64; omega), w64 (x := n * m) (by unfold I64; omega)]
        by_cases h0 : n * m = 0
        · rw [if_pos h0, h0]
          have hz : p * q = 0 := by rw [← Rat.num_eq_zero, hnum, h0]
          have : d * e = 1 := by rw [← hden, hz]; rfl
          rw [this]; rfl
        · rw [if_neg h0]
      · unfold res; rw [if_pos hF, hnum, hden]; exact Ev.now _
    · refine fail _ (fun h => hde (hfit.1 h).2) (fun k => ?_)
      simp only [num_product.j0]
      rw [if_pos (by rw [decide_eq_true_iff]; omega)]
  refine Ev.ite_neg (by omega) (Ev.ite_neg (by omega) ?_)
  by_cases hm : m = 0
  · refine Ev.ite_pos hm (good ?_)
    rw [hm]; simp
  · refine Ev.ite_neg hm ?_
    refine Ev.bind0 (size_eq (by unfold I64; omega)) (Ev.bind0 (size_eq (by unfold I64; omega)) ?_)
    refine Ev.ite_neg (by omega) ?_
    have ed : IntKind.u64.wrap (Int.tdiv 1000000000000 (m.natAbs : Int)) = ((1000000000000 / m.natAbs : Nat) : Int) := by
      rw [show (1000000000000 : Int) = ((1000000000000 : Nat) : Int) from rfl, ← Int.ofNat_tdiv]
      exact u64n (Nat.le_trans (Nat.div_le_self _ _) (by omega))
    rw [ed]
    have hov := over_div n.natAbs m.natAbs (by omega) 1000000000000
    by_cases hc : n.natAbs > 1000000000000 / m.natAbs
    · refine Ev.ite_pos (by omega) ?_
      refine fail _ (fun h => ?_) (fun k => ?_)
      · have := hov.1 hc; have := (hfit.1 h).1; omega
      · simp only [num_product.j0, if_true]
    · refine Ev.ite_neg (by omega) (good ?_)
      have := fun h => hc (hov.2 h)
      omega
end
section
open Go.RowKit Go.Proofs.YtlcjfabbnclalaaDoorW.PrintWords NumM
theorem div_ev {n d m e : Int} (hn : I64 n) (hd : I64 d) (hm : I64 m) (he : I64 e) : Ev (fun k => num_Div.f k n d m e) (if rat m e = 0 then (0, 0, false) else res (rat n d / rat m e)) := by
  unfold num_Div.f
  refine Ev.bind (taken_ev hn hd) (Ev.bind (taken_ev hm he) ?_)
  have hp := fits_rat n d
  have hq := fits_rat m e
  generalize rat n d = p at *
  generalize rat m e = q at *
  unfold Fits at hp hq
  by_cases hq0 : q.num = 0
  · rw [if_pos (Rat.num_eq_zero.1 hq0)]
    exact Ev.ite_pos hq0 (Ev.now _)
  · rw [if_neg (fun h => hq0 (Rat.num_eq_zero.2 h)), Rat.div_def]
    refine Ev.ite_neg hq0 ?_
    have i1 := Rat.num_inv q
    have i2 := Rat.den_inv q
    rw [if_neg hq0] at i2
    have q1 := q.den_pos
    by_cases hneg : q.num < 0
    · rw [Int.sign_eq_neg_one_of_neg hneg] at i1
      refine Ev.ite_pos hneg ?_
      rw [w64 (x := -(q.den : Int)) (by unfold I64; omega), w64 (x := -q.num) (by unfold I64; omega)]
      rw [show -(q.den : Int) = q⁻¹.num by omega, show -q.num = ((q⁻¹.den : Nat) : Int) by omega]
      refine Ev.bind (product_ev p q⁻¹ (by omega) (by omega) (by omega) (by omega)) (Ev.const ?_)
      rw [res_eta]
    · rw [Int.sign_eq_one_of_pos (by omega)] at i1
      refine Ev.ite_neg hneg ?_
      rw [show (q.den : Int) = q⁻¹.num by omega, show q.num = ((q⁻¹.den : Nat) : Int) by omega]
      refine Ev.bind (product_ev p q⁻¹ (by omega) (by omega) (by omega) (by omega)) (Ev.const ?_)
      rw [res_eta]
end
section
open Go.RowKit Go.Proofs.YtlcjfabbnclalaaDoorW.PrintWords NumM
/-- rounded down, the way the program does it -/
theorem floor_eq' {a b : Int} (hb : 0 < b) (ha : I64 a) : num_floor.f a b = some (a / b) := by
  unfold num_floor.f I64 at *
  have h1 := Int.tdiv_eq_ediv (a := a) (b := b)
  rw [Int.sign_eq_one_of_pos hb] at h1
  have hle : a / b ≤ 9223372036854775807 ∧ -9223372036854775808 ≤ a / b := by
    have := Int.natAbs_ediv_le_natAbs a b
    rcases Int.lt_or_le a 0 with h | h
    · have := Int.ediv_neg_of_neg_of_pos h hb; omega
    · have := Int.ediv_nonneg h (Int.le_of_lt hb); omega
  have hd := Int.dvd_iff_tmod_eq_zero (a := b) (b := a)
  rw [if_neg (by omega)]
  have hw : ∀ x : Int, -9223372036854775808 ≤ x → x ≤ 9223372036854775807 → wrap64 x = x := fun x h1 h2 => w64 ⟨h1, h2⟩
  have hadd : a < 0 → a / b < 0 := fun h => Int.ediv_neg_of_neg_of_pos h hb
  by_cases hz : Int.tmod a b = 0
  · rw [if_pos hz]
    rw [if_pos (Or.inr (hd.2 hz)), Int.add_zero] at h1
    rw [h1, hw _ hle.2 hle.1]
  · rw [if_neg hz]
    have hnd : ¬ b ∣ a := fun h => hz (hd.1 h)
    by_cases hs : a < 0
    · rw [if_neg (by intro h; rcases h with h | h; omega; exact hnd h)] at h1
      have := hadd hs
      rw [if_pos (by simp [hs]; omega), h1, hw (a / b + 1) (by omega) (by omega), show a / b + 1 - 1 = a / b by omega, hw _ hle.2 hle.1]
    · rw [if_pos (Or.inl (by omega)), Int.add_zero] at h1
      rw [if_neg (by simp [hs]; omega), h1, hw _ hle.2 hle.1]
theorem floor_fits {q : Rat} (h : Fits q) : Fits ((q.floor : Int) : Rat) ∧ -1000000000000 ≤ q.floor ∧ q.floor ≤ 1000000000000 := by
  have hb := fits_bounds h
  have : (q.floor).natAbs ≤ q.num.natAbs := by rw [Rat.floor_def]; exact Int.natAbs_ediv_le_natAbs _ _
  unfold Fits at *
  rw [Rat.num_intCast, Rat.den_intCast]
  omega
theorem floorF_ev {n d : Int} (hn : I64 n) (hd : I64 d) : Ev (fun k => num_Floor.f k n d) (nd ((rat n d).floor : Rat)) := by
  unfold num_Floor.f
  refine Ev.bind (taken_ev hn hd) ?_
  have h := fits_rat n d
  generalize rat n d = q at *
  have hb := fits_bounds h
  refine Ev.bind0 (floor_eq' (by omega) (i64_num h)) (Ev.const ?_)
  unfold nd
  rw [Rat.num_intCast, Rat.den_intCast, Rat.floor_def]
  rfl
/-- the rest of a quotient that is rounded down -/
theorem fmod_eq' (x y : Int) (hy : y ≠ 0) : (if Int.tmod x y = 0 then Int.tmod x y else if ((decide (Int.tmod x y < 0)) != (decide (y < 0))) = true then Int.tmod x y + y else Int.tmod x y) = x.fmod y := by
  rw [Int.fmod_eq_tmod]
  have hd := Int.dvd_iff_tmod_eq_zero (a := y) (b := x)
  by_cases hz : Int.tmod x y = 0
  · rw [if_pos hz, if_pos (hd.2 hz)]; omega
  · rw [if_neg hz, if_neg (fun h => hz (hd.1 h))]
    have hs : Int.tmod x y < 0 ↔ x < 0 := by
      rcases Int.lt_or_le x 0 with h | h
      · have := Int.tmod_nonneg y (a := -x) (by omega)
        rw [Int.neg_tmod] at this
        omega
      · have := Int.tmod_nonneg y h
        omega
    by_cases hx : x < 0 <;> by_cases hy' : y < 0 <;> simp [hs, hx, hy'] <;> omega
/-- what Mod answers -/
def modQ' (p q : Rat) : Int × Int × Bool := if q = 0 then (0, 0, false) else res (p - q * ((p / q).floor : Rat))
theorem mod_ev {n d m e : Int} (hn : I64 n) (hd : I64 d) (hm : I64 m) (he : I64 e) : Ev (fun k => num_Mod.f k n d m e) (modQ' (rat n d) (rat m e)) := by
  unfold num_Mod.f modQ'
  refine Ev.bind (taken_ev hn hd) (Ev.bind (taken_ev hm he) ?_)
  have hp := fits_rat n d
  have hq := fits_rat m e
  generalize rat n d = p at *
  generalize rat m e = q at *
  obtain ⟨h1, h2, h3, h4, h5⟩ := add_parts p q hp hq
  by_cases q0 : q.num = 0
  · rw [if_pos (Rat.num_eq_zero.1 q0)]
    exact Ev.ite_pos q0 (Ev.now _)
  · rw [if_neg (fun h => q0 (Rat.num_eq_zero.2 h)), modQ p q q0]
    refine Ev.ite_neg q0 ?_
    simp only [w64 h1, w64 h2, w64 h4]
    have y0 : q.num * (p.den : Int) ≠ 0 := Int.mul_ne_zero q0 (by have := p.den_pos; omega)
    refine Ev.ite_neg y0 ?_
    rw [← Int.fmod_def, ← fmod_eq' _ _ y0]
    have hr : (Int.tmod (p.num * (q.den : Int)) (q.num * (p.den : Int))).natAbs ≤ (p.num * (q.den : Int)).natAbs := by
      rw [Int.natAbs_tmod]; exact Nat.mod_le _ _
    have hsign : ∀ a b : Int, Int.tmod a b < 0 → a < 0 := by
      intro a b h
      rcases Int.lt_or_le a 0 with h' | h'
      · exact h'
      · have := Int.tmod_nonneg b h'; omega
    have hb1 := fits_bounds hp
    have hb2 := fits_bounds hq
    have m1 := mul_bounds ⟨hb1.1, hb1.2.1⟩ (d := (q.den : Int)) ⟨by omega, by omega⟩
    have m2 := mul_bounds ⟨hb2.1, hb2.2.1⟩ (d := (p.den : Int)) ⟨by omega, by omega⟩
    generalize Int.tmod (p.num * (q.den : Int)) (q.num * (p.den : Int)) = r at *
    generalize q.num * (p.den : Int) = y at *
    generalize p.num * (q.den : Int) = x at *
    have fin : ∀ r' : Int, I64 r' → Ev (fun k => (num_Make.f k r' ((p.den : Int) * (q.den : Int))).bind fun b => some (b.1, b.2.1, b.2.2)) (res (Rat.divInt r' ((p.den : Int) * (q.den : Int)))) := by
      intro r' hr'
      refine Ev.bind (make_ev hr' h4) (Ev.const ?_)
      unfold mk
      rw [if_neg h5]
    by_cases r0 : r = 0
    · rw [if_pos r0]
      exact Ev.ite_pos r0 (fin r (by unfold I64; omega))
    · rw [if_neg r0]
      refine Ev.ite_neg r0 ?_
      by_cases hc : ((decide (r < 0)) != (decide (y < 0))) = true
      · rw [if_pos hc]
        refine Ev.ite_pos hc ?_
        rw [w64 (x := r + y) (by unfold I64; omega)]
        exact fin _ (by unfold I64; omega)
      · rw [if_neg hc]
        exact Ev.ite_neg hc (fin r (by unfold I64; omega))
end
section
open Go.RowKit Go.Proofs.YtlcjfabbnclalaaDoorW.PrintWords NumM
/-- what Whole answers -/
def wholeQ (q : Rat) : Int × Bool := if q.den = 1 then (q.num, true) else (0, false)
theorem whole_ev {n d : Int} (hn : I64 n) (hd : I64 d) : Ev (fun k => num_Whole.f k n d) (wholeQ (rat n d)) := by
  unfold num_Whole.f wholeQ
  refine Ev.bind (taken_ev hn hd) ?_
  generalize rat n d = q at *
  by_cases h : q.den = 1
  · rw [if_pos h]; exact Ev.ite_pos (by show (q.den : Int) = 1; omega) (Ev.now _)
  · rw [if_neg h]; exact Ev.ite_neg (by show ¬ (q.den : Int) = 1; omega) (Ev.now _)
end
section
open Go.RowKit Go.Proofs.YtlcjfabbnclalaaDoorW.PrintWords NumM
theorem rightL_loop (x y : Nat) : Ev (fun k => whittlelaw1_right.l0 k x y) (decide (Nat.gcd x y = 1)) := by
  induction x using Nat.strongRecOn generalizing y with
  | ind x ih =>
    by_cases hx : x = 0
    · subst hx
      refine Ev.step (f := fun _ => some ((y : Int) == 1)) (fun k => ?_) (Ev.const ?_)
      · simp only [whittlelaw1_right.l0]; exact if_pos rfl
      · congr 1
        rw [Bool.eq_iff_iff, beq_iff_eq, decide_eq_true_iff]
        have e := Nat.gcd_zero_left y
        constructor
        · intro h; rw [e]; omega
        · intro h; rw [e] at h; omega
    · refine Ev.step (fun k => by simp only [whittlelaw1_right.l0]; exact if_neg (by omega)) ?_
      rw [← Int.ofNat_tmod]
      refine cast (congrArg (Ev _) ?_) (ih (y % x) (Nat.mod_lt _ (by omega)) x)
      rw [Bool.eq_iff_iff, decide_eq_true_iff, decide_eq_true_iff]
      have e := Nat.gcd_rec x y
      constructor
      · intro h; rw [e]; exact h
      · intro h; rw [e] at h; exact h
theorem rightL_ev {n d : Int} (hn : I64 n) (hd : I64 d) : Ev (fun k => whittlelaw1_right.f k n d) (decide (RightP n d)) := by
  have key : ∀ x : Bool, (x = true → ¬ RightP n d) → (x = false → 1 ≤ d ∧ d ≤ 1000000 ∧ -1000000000000 ≤ n ∧ n ≤ 1000000000000) → Ev (fun k => whittlelaw1_right.j0 k x n d) (decide (RightP n d)) := by
    intro x h1 h2
    cases x with
    | true =>
      refine Ev.step (f := fun _ => some false) (fun k => by simp only [whittlelaw1_right.j0, if_true]) ?_
      rw [decide_eq_false (h1 rfl)]; exact Ev.now _
    | false =>
      obtain ⟨b1, b2, b3, b4⟩ := h2 rfl
      refine Ev.step (fun k => by simp only [whittlelaw1_right.j0]; exact if_neg (by simp)) ?_
      have fin : ∀ x : Int, x = (n.natAbs : Int) → Ev (fun k => whittlelaw1_right.j1 k x n d) (decide (RightP n d)) := by
        intro x hx
        refine Ev.step (fun k => by simp only [whittlelaw1_right.j1]; rfl) ?_
        have := rightL_loop n.natAbs d.toNat
        rw [hx, show d = ((d.toNat : Nat) : Int) by omega]
        refine cast (congrArg (Ev _) ?_) this
        rw [Bool.eq_iff_iff, decide_eq_true_iff, decide_eq_true_iff]
        unfold RightP
        rw [Int.toNat_natCast]
        omega
      by_cases hneg : n < 0
      · exact Ev.ite_pos hneg (fin _ (by rw [w64 (x := -n) (by unfold I64; omega)]; omega))
      · exact Ev.ite_neg hneg (fin _ (by omega))
  unfold whittlelaw1_right.f
  by_cases c1 : d < 1
  · exact Ev.ite_pos c1 (key true (fun _ h => by unfold RightP at h; omega) (fun h => by cases h))
  · refine Ev.ite_neg c1 ?_
    by_cases c2 : d > 1000000
    · exact Ev.ite_pos c2 (key true (fun _ h => by unfold RightP at h; omega) (fun h => by cases h))
    · refine Ev.ite_neg c2 ?_
      by_cases c3 : n < -1000000000000
      · exact Ev.ite_pos c3 (key true (fun _ h => by unfold RightP at h; omega) (fun h => by cases h))
      · refine Ev.ite_neg c3 (key _ (fun h0 h => ?_) (fun h => ?_))
        · rw [decide_eq_true_iff] at h0; unfold RightP at h; omega
        · have := of_decide_eq_false h; omega
/-- a right number is a rational that fits, and no other pair is -/
theorem right_nd {n d : Int} (h : RightP n d) : n = (rat n d).num ∧ d = ((rat n d).den : Int) := by
  have := rat_right h
  rw [this.1, this.2]
  obtain ⟨_, _, h3, _⟩ := h
  omega
end
section
open Go.RowKit Go.Proofs.YtlcjfabbnclalaaDoorW.PrintWords NumM
theorem res_pos {q : Rat} (h : Fits q) : res q = (q.num, (q.den : Int), true) := by unfold res; rw [if_pos h]
theorem res_neg {q : Rat} (h : ¬ Fits q) : res q = (0, 0, false) := by unfold res; rw [if_neg h]
theorem lt_or_ge (p q : Rat) : p < q ∨ q ≤ p := by
  rcases Decidable.em (p < q) with h | h
  · exact Or.inl h
  · exact Or.inr (Rat.not_lt.1 h)
theorem cmpQ_range (p q : Rat) : cmpQ p q = -1 ∨ cmpQ p q = 0 ∨ cmpQ p q = 1 := by unfold cmpQ; split; exact Or.inl rfl; split; exact Or.inr (Or.inr rfl); exact Or.inr (Or.inl rfl)
theorem cmpQ_lt {p q : Rat} : cmpQ p q = -1 ↔ p < q := by
  unfold cmpQ
  constructor
  · intro h
    split at h
    · assumption
    · split at h <;> omega
  · intro h; rw [if_pos h]
theorem cmpQ_gt {p q : Rat} : cmpQ p q = 1 ↔ q < p := by
  unfold cmpQ
  constructor
  · intro h
    split at h
    · omega
    · split at h
      · assumption
      · omega
  · intro h; rw [if_neg (Rat.not_lt.2 (Rat.le_of_lt h)), if_pos h]
theorem cmpQ_eq {p q : Rat} : cmpQ p q = 0 ↔ p = q := by
  constructor
  · intro h
    have h1 : ¬ p < q := fun h' => by have := cmpQ_lt.2 h'; omega
    have h2 : ¬ q < p := fun h' => by have := cmpQ_gt.2 h'; omega
    exact Rat.le_antisymm (Rat.not_lt.1 h2) (Rat.not_lt.1 h1)
  · rintro rfl
    unfold cmpQ
    rw [if_neg Rat.lt_irrefl, if_neg Rat.lt_irrefl]
theorem cmpQ_swap (p q : Rat) : cmpQ q p = -cmpQ p q := by
  rcases cmpQ_range p q with h | h | h
  · have := cmpQ_lt.1 h; rw [h, cmpQ_gt.2 this]; rfl
  · have := cmpQ_eq.1 h; rw [h, this, cmpQ_eq.2 rfl]; rfl
  · have := cmpQ_gt.1 h; rw [h, cmpQ_lt.2 this]
theorem cmpQ_le {p q : Rat} : cmpQ p q ≤ 0 ↔ p ≤ q := by
  rcases cmpQ_range p q with h | h | h
  · have := cmpQ_lt.1 h; exact ⟨fun _ => Rat.le_of_lt this, fun _ => by omega⟩
  · have := cmpQ_eq.1 h; exact ⟨fun _ => by rw [this]; exact Rat.le_refl, fun _ => by omega⟩
  · have := cmpQ_gt.1 h; exact ⟨fun _ => by omega, fun h' => absurd this (Rat.not_lt.2 h')⟩
/-- a right pair is a rational's -/
theorem of_right {n d : Int} (h : RightP n d) : ∃ q : Rat, Fits q ∧ n = q.num ∧ d = (q.den : Int) := ⟨rat n d, fits_rat n d, right_nd h⟩
/-- cmp of two that fit -/
theorem cmpF_ev {p q : Rat} (hp : Fits p) (hq : Fits q) : Ev (fun k => num_Cmp.f k p.num p.den q.num q.den) (cmpQ p q) := by
  have := cmp_ev (i64_num hp) (i64_den hp) (i64_num hq) (i64_den hq)
  rwa [rat_of_fits hp, rat_of_fits hq] at this
theorem addF_ev {p q : Rat} (hp : Fits p) (hq : Fits q) : Ev (fun k => num_Add.f k p.num p.den q.num q.den) (res (p + q)) := by
  have := add_ev (i64_num hp) (i64_den hp) (i64_num hq) (i64_den hq)
  rwa [rat_of_fits hp, rat_of_fits hq] at this
theorem subF_ev {p q : Rat} (hp : Fits p) (hq : Fits q) : Ev (fun k => num_Sub.f k p.num p.den q.num q.den) (res (p - q)) := by
  have := sub_ev (i64_num hp) (i64_den hp) (i64_num hq) (i64_den hq)
  rwa [rat_of_fits hp, rat_of_fits hq] at this
theorem fits_zero : Fits 0 := by decide
theorem fits_one : Fits 1 := by decide
end
end Go.Proofs.YtlcjfabbnclalaaDoor.F
