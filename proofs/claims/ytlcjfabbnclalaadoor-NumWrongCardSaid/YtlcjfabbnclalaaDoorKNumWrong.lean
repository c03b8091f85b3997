/-
The plain lemmas that NumWrong leans on, out of what this repo keeps in wip.
-/
import Derived.Test.YtlcjfabbnclalaaDoorF2
import Derived.Test.YtlcjfabbnclalaaDoorF3
import Derived.Test.YtlcjfabbnclalaaDoorF4
import Derived.Test.YtlcjfabbnclalaaDoorF5
import Derived.Test.YtlcjfabbnclalaaDoorF6
import Derived.Test.YtlcjfabbnclalaaDoorF15
import Derived.Test.YtlcjfabbnclalaaDoorF17
import Derived.Test.YtlcjfabbnclalaaDoorF19
import Derived.Test.YtlcjfabbnclalaaDoorF21
import Derived.Test.YtlcjfabbnclalaaDoorF23
import Derived.Test.YtlcjfabbnclalaaDoorF26
import Derived.Test.YtlcjfabbnclalaaDoorF29
import Derived.Test.YtlcjfabbnclalaaDoorF31
import Derived.Test.YtlcjfabbnclalaaDoorF34
import Derived.Test.YtlcjfabbnclalaaDoorM2
namespace Go.Proofs.YtlcjfabbnclalaaDoor.F
set_option linter.unusedVariables false
set_option linter.unusedSimpArgs false
section
open Go.RowKit Go.Proofs.YtlcjfabbnclalaaDoorW.PrintWords NumM
/-- how two lie -/
def cmpQ (p q : Rat) : Int := if p < q then -1 else if q < p then 1 else 0
theorem cmp_parts (p q : Rat) (hp : Fits p) (hq : Fits q) : I64 (p.num * q.den) ∧ I64 (q.num * p.den) := by
  have b1 := fits_bounds hp
  have b2 := fits_bounds hq
  have m1 := mul_bounds ⟨b1.1, b1.2.1⟩ (d := (q.den : Int)) ⟨by omega, by omega⟩
  have m2 := mul_bounds ⟨b2.1, b2.2.1⟩ (d := (p.den : Int)) ⟨by omega, by omega⟩
  unfold I64
  omega
theorem cmp_ev {n d m e : Int} (hn : I64 n) (hd : I64 d) (hm : I64 m) (he : I64 e) : Ev (fun k => num_Cmp.f k n d m e) (cmpQ (rat n d) (rat m e)) := by
  unfold num_Cmp.f
  refine Ev.bind (taken_ev hn hd) (Ev.bind (taken_ev hm he) ?_)
  have hp := fits_rat n d
  have hq := fits_rat m e
  generalize rat n d = p at *
  generalize rat m e = q at *
  obtain ⟨h1, h2⟩ := cmp_parts p q hp hq
  simp only [w64 h1, w64 h2, cmp_lt, gt_iff_lt]
  refine Ev.const ?_
  unfold cmpQ
  split
  · rfl
  · split <;> rfl
theorem res_eta (x : Int × Int × Bool) : (x.1, x.2.1, x.2.2) = x := rfl
/-- the parts of a sum lie within an int -/
theorem add_parts (p q : Rat) (hp : Fits p) (hq : Fits q) : I64 (p.num * q.den) ∧ I64 (q.num * p.den) ∧ I64 (p.num * q.den + q.num * p.den) ∧ I64 ((p.den : Int) * q.den) ∧ (p.den : Int) * q.den ≠ 0 := by
  have b1 := fits_bounds hp
  have b2 := fits_bounds hq
  have m1 := mul_bounds ⟨b1.1, b1.2.1⟩ (d := (q.den : Int)) ⟨by omega, by omega⟩
  have m2 := mul_bounds ⟨b2.1, b2.2.1⟩ (d := (p.den : Int)) ⟨by omega, by omega⟩
  have m3 := den_bounds b1.2.2 b2.2.2
  unfold I64
  omega
theorem add_ev {n d m e : Int} (hn : I64 n) (hd : I64 d) (hm : I64 m) (he : I64 e) : Ev (fun k => num_Add.f k n d m e) (res (rat n d + rat m e)) := by
  unfold num_Add.f
  refine Ev.bind (taken_ev hn hd) (Ev.bind (taken_ev hm he) ?_)
  have hp := fits_rat n d
  have hq := fits_rat m e
  generalize rat n d = p at *
  generalize rat m e = q at *
  obtain ⟨h1, h2, h3, h4, h5⟩ := add_parts p q hp hq
  simp only [w64 h1, w64 h2, w64 h3, w64 h4]
  refine Ev.bind (make_ev h3 h4) (Ev.const ?_)
  rw [res_eta, add_formula]
  unfold mk
  rw [if_neg h5]
theorem able_now : whittlelaw1_able.f 60 = some true := by decide +kernel
theorem able_ev : Ev (fun k => whittlelaw1_able.f k) true := Ev.of (fun k => whittlelaw1_able.mono k) able_now
end
section
open Go.RowKit Go.Proofs.YtlcjfabbnclalaaDoorW.PrintWords NumM
/-- a rational as a pair of ints -/
def nd (q : Rat) : Int × Int := (q.num, (q.den : Int))
theorem fits_neg {q : Rat} (h : Fits q) : Fits (-q) := by
  unfold Fits at *
  rw [Rat.neg_num, Rat.neg_den, Int.natAbs_neg]
  exact h
theorem rat_nd {q : Rat} (h : Fits q) : rat (nd q).1 (nd q).2 = q := rat_of_fits h
theorem i64_num {q : Rat} (h : Fits q) : I64 q.num := by have := fits_bounds h; unfold I64; omega
theorem i64_den {q : Rat} (h : Fits q) : I64 (q.den : Int) := by have := fits_bounds h; unfold I64; omega
theorem neg_ev {n d : Int} (hn : I64 n) (hd : I64 d) : Ev (fun k => num_Neg.f k n d) (nd (-(rat n d))) := by
  unfold num_Neg.f
  refine Ev.bind (taken_ev hn hd) (Ev.const ?_)
  have h := fits_bounds (fits_rat n d)
  rw [w64 (x := -(rat n d).num) (by unfold I64; omega)]
  rfl
theorem sub_ev {n d m e : Int} (hn : I64 n) (hd : I64 d) (hm : I64 m) (he : I64 e) : Ev (fun k => num_Sub.f k n d m e) (res (rat n d - rat m e)) := by
  unfold num_Sub.f
  refine Ev.bind (neg_ev hm he) ?_
  have hf := fits_neg (fits_rat m e)
  refine Ev.bind (add_ev hn hd (i64_num hf) (i64_den hf)) (Ev.const ?_)
  rw [res_eta, rat_nd hf, Rat.sub_eq_add_neg]
end
section
open Go.RowKit Go.Proofs.YtlcjfabbnclalaaDoorW.PrintWords NumM
/-- what is left of the parts of two, what divides both taken out -/
structure Cross (p q : Rat) (n m : Int) (d e : Nat) : Prop where
  en : n = p.num / (Nat.gcd p.num.natAbs q.den : Nat)
  em : m = q.num / (Nat.gcd q.num.natAbs p.den : Nat)
  ed : d = p.den / Nat.gcd q.num.natAbs p.den
  ee : e = q.den / Nat.gcd p.num.natAbs q.den
  num : (p * q).num = n * m
  den : (p * q).den = d * e
  na : n.natAbs = p.num.natAbs / Nat.gcd p.num.natAbs q.den
  ma : m.natAbs = q.num.natAbs / Nat.gcd q.num.natAbs p.den
  nb : n.natAbs ≤ p.num.natAbs
  mb : m.natAbs ≤ q.num.natAbs
  db : d ≤ p.den
  eb : e ≤ q.den
  dp : 0 < d
  ep : 0 < e
theorem gcd_dvd_num (n : Int) (d : Nat) : ((Nat.gcd n.natAbs d : Nat) : Int) ∣ n := Int.ofNat_dvd_left.2 (Nat.gcd_dvd_left _ _)
theorem cross (p q : Rat) : Cross p q (p.num / (Nat.gcd p.num.natAbs q.den : Nat)) (q.num / (Nat.gcd q.num.natAbs p.den : Nat)) (p.den / Nat.gcd q.num.natAbs p.den) (q.den / Nat.gcd p.num.natAbs q.den) := by
  have h := mul_num_den p q
  have n1 : (p.num / (Nat.gcd p.num.natAbs q.den : Nat)).natAbs = p.num.natAbs / Nat.gcd p.num.natAbs q.den := by
    rw [Int.natAbs_ediv_of_dvd (gcd_dvd_num _ _), Int.natAbs_natCast]
  have n2 : (q.num / (Nat.gcd q.num.natAbs p.den : Nat)).natAbs = q.num.natAbs / Nat.gcd q.num.natAbs p.den := by
    rw [Int.natAbs_ediv_of_dvd (gcd_dvd_num _ _), Int.natAbs_natCast]
  exact ⟨rfl, rfl, rfl, rfl, h.1, h.2, n1, n2, by rw [n1]; exact Nat.div_le_self _ _, by rw [n2]; exact Nat.div_le_self _ _, Nat.div_le_self _ _, Nat.div_le_self _ _, Nat.div_gcd_pos_of_pos_right _ p.den_pos, Nat.div_gcd_pos_of_pos_right _ q.den_pos⟩
theorem tdiv_gcd (n : Int) (d : Nat) : Int.tdiv n ((Nat.gcd n.natAbs d : Nat) : Int) = n / ((Nat.gcd n.natAbs d : Nat) : Int) := Int.tdiv_eq_ediv_of_dvd (gcd_dvd_num _ _)
/-- when a product of two is too great -/
theorem over_div (x y : Nat) (hy : 0 < y) (b : Nat) : x > b / y ↔ x * y > b := by
  rw [gt_iff_lt, gt_iff_lt, Nat.div_lt_iff_lt_mul hy]
theorem product_ev (p q : Rat) (hp : p.num.natAbs ≤ 1000000000000) (hpd : p.den ≤ 1000000) (hq : q.num.natAbs ≤ 1000000000000) (hqd : q.den ≤ 1000000000000) :
    Ev (fun k => num_product.f k p.num p.den q.num q.den) (res (p * q)) := by
  obtain ⟨-, -, -, -, hnum, hden, na, ma, nb, mb, db, eb, dp, ep⟩ := cross p q
  have p1 := p.den_pos
  have p2 := q.den_pos
  unfold num_product.f
  refine Ev.bind0 (size_eq (by unfold I64; omega)) ?_
  rw [u64n (x := q.den) (by omega), u64n (x := p.den) (by omega)]
  refine Ev.bind (gcd_ev p.num.natAbs q.den) ?_
  refine Ev.bind0 (size_eq (by unfold I64; omega)) ?_
  refine Ev.bind (gcd_ev q.num.natAbs p.den) ?_
  have hg : 0 < Nat.gcd p.num.natAbs q.den := Nat.gcd_pos_of_pos_right _ p2
  have hh : 0 < Nat.gcd q.num.natAbs p.den := Nat.gcd_pos_of_pos_right _ p1
  have hg2 : Nat.gcd p.num.natAbs q.den ≤ q.den := Nat.le_of_dvd p2 (Nat.gcd_dvd_right _ _)
  have hh2 : Nat.gcd q.num.natAbs p.den ≤ p.den := Nat.le_of_dvd p1 (Nat.gcd_dvd_right _ _)
  rw [w64 (x := ((Nat.gcd p.num.natAbs q.den : Nat) : Int)) (by unfold I64; omega), w64 (x := ((Nat.gcd q.num.natAbs p.den : Nat) : Int)) (by unfold I64; omega)]
  rw [tdiv_gcd, tdiv_gcd]
  rw [show Int.tdiv (p.den : Int) ((Nat.gcd q.num.natAbs p.den : Nat) : Int) = ((p.den / Nat.gcd q.num.natAbs p.den : Nat) : Int) from (Int.ofNat_tdiv _ _).symm, show Int.tdiv (q.den : Int) ((Nat.gcd p.num.natAbs q.den : Nat) : Int) = ((q.den / Nat.gcd p.num.natAbs q.den : Nat) : Int) from (Int.ofNat_tdiv _ _).symm]
  generalize hG : ((Nat.gcd p.num.natAbs q.den : Nat) : Int) = G at *
  generalize hH : ((Nat.gcd q.num.natAbs p.den : Nat) : Int) = H at *
  generalize p.num / G = n at *
  generalize q.num / H = m at *
  generalize p.den / Nat.gcd q.num.natAbs p.den = d at *
  generalize q.den / Nat.gcd p.num.natAbs q.den = e at *
  have de1 : d * e ≤ 1000000 * 1000000000000 := Nat.mul_le_mul (by omega) (by omega)
  rw [w64 (x := n) (by unfold I64; omega), w64 (x := m) (by unfold I64; omega), w64 (x := (d : Int)) (by unfold I64; omega), w64 (x := (e : Int)) (by unfold I64; omega)]
  rw [← Int.natCast_mul, w64 (x := ((d * e : Nat) : Int)) (by unfold I64; omega)]
  have hfit : Fits (p * q) ↔ n.natAbs * m.natAbs ≤ 1000000000000 ∧ d * e ≤ 1000000 := by
    unfold Fits; rw [hnum, hden, Int.natAbs_mul]
  have fail : ∀ K : Nat → Option (Int × Int × Bool), ¬ Fits (p * q) → (∀ k, K (k + 1) = some (0, 0, false)) → Ev K (res (p * q)) := by
    intro K h hK
    refine Ev.step (f := fun _ => some (0, 0, false)) hK ?_
    unfold res; rw [if_neg h]; exact Ev.now _
  have good : n.natAbs * m.natAbs ≤ 1000000000000 → Ev (fun k => num_product.j0 k n d m e (decide (((d * e : Nat) : Int) > 1000000))) (res (p * q)) := by
    intro hle
    by_cases hde : d * e ≤ 1000000
    · have hF := hfit.2 ⟨hle, hde⟩
      have hab : (n * m).natAbs ≤ 1000000000000 := by rw [Int.natAbs_mul]; exact hle
      refine Ev.step (f := fun _ => some (n * m, ((d * e : Nat) : Int), true)) (fun k => ?_) ?_
      · simp only [num_product.j0]
        rw [if_neg (by rw [decide_eq_true_iff]; omega), ← Int.natCast_mul, w64 (x := ((d * e : Nat) : Int)) (by unfold I64; omega), w64 (x := n * m) (by unfold I64; omega)]
        by_cases h0 : n * m = 0
        · rw [if_pos h0, h0]
          have hz : p * q = 0 := by rw [← Rat.num_eq_zero, hnum, h0]
          have : d * e = 1 := by rw [← hden, hz]; rfl
          rw [this]; rfl
        · rw [if_neg h0]
      · unfold res; rw [if_pos hF, hnum, hden]; exact Ev.now _
    · refine fail _ (fun h => hde (hfit.1 h).2) (fun k => ?_)
      simp only [num_product.j0]
      rw [if_pos (by rw [decide_eq_true_iff]; omega)]
  refine Ev.ite_neg (by omega) (Ev.ite_neg (by omega) ?_)
  by_cases hm : m = 0
  · refine Ev.ite_pos hm (good ?_)
    rw [hm]; simp
  · refine Ev.ite_neg hm ?_
    refine Ev.bind0 (size_eq (by unfold I64; omega)) (Ev.bind0 (size_eq (by unfold I64; omega)) ?_)
    refine Ev.ite_neg (by omega) ?_
    have ed : IntKind.u64.wrap (Int.tdiv 1000000000000 (m.natAbs : Int)) = ((1000000000000 / m.natAbs : Nat) : Int) := by
      rw [show (1000000000000 : Int) = ((1000000000000 : Nat) : Int) from rfl, ← Int.ofNat_tdiv]
      exact u64n (Nat.le_trans (Nat.div_le_self _ _) (by omega))
    rw [ed]
    have hov := over_div n.natAbs m.natAbs (by omega) 1000000000000
    by_cases hc : n.natAbs > 1000000000000 / m.natAbs
    · refine Ev.ite_pos (by omega) ?_
      refine fail _ (fun h => ?_) (fun k => ?_)
      · have := hov.1 hc; have := (hfit.1 h).1; omega
      · simp only [num_product.j0, if_true]
    · refine Ev.ite_neg (by omega) (good ?_)
      have := fun h => hc (hov.2 h)
      omega
theorem mul_ev {n d m e : Int} (hn : I64 n) (hd : I64 d) (hm : I64 m) (he : I64 e) : Ev (fun k => num_Mul.f k n d m e) (res (rat n d * rat m e)) := by
  unfold num_Mul.f
  refine Ev.bind (taken_ev hn hd) (Ev.bind (taken_ev hm he) ?_)
  have hp := fits_rat n d
  have hq := fits_rat m e
  unfold Fits at hp hq
  refine Ev.bind (product_ev _ _ (by omega) (by omega) (by omega) (by omega)) (Ev.const ?_)
  rw [res_eta]
end
section
open Go.RowKit Go.Proofs.YtlcjfabbnclalaaDoorW.PrintWords NumM
theorem div_ev {n d m e : Int} (hn : I64 n) (hd : I64 d) (hm : I64 m) (he : I64 e) : Ev (fun k => num_Div.f k n d m e) (if rat m e = 0 then (0, 0, false) else res (rat n d / rat m e)) := by
  unfold num_Div.f
  refine Ev.bind (taken_ev hn hd) (Ev.bind (taken_ev hm he) ?_)
  have hp := fits_rat n d
  have hq := fits_rat m e
  generalize rat n d = p at *
  generalize rat m e = q at *
  unfold Fits at hp hq
  by_cases hq0 : q.num = 0
  · rw [if_pos (Rat.num_eq_zero.1 hq0)]
    exact Ev.ite_pos hq0 (Ev.now _)
  · rw [if_neg (fun h => hq0 (Rat.num_eq_zero.2 h)), Rat.div_def]
    refine Ev.ite_neg hq0 ?_
    have i1 := Rat.num_inv q
    have i2 := Rat.den_inv q
    rw [if_neg hq0] at i2
    have q1 := q.den_pos
    by_cases hneg : q.num < 0
    · rw [Int.sign_eq_neg_one_of_neg hneg] at i1
      refine Ev.ite_pos hneg ?_
      rw [w64 (x := -(q.den : Int)) (by unfold I64; omega), w64 (x := -q.num) (by unfold I64; omega)]
      rw [show -(q.den : Int) = q⁻¹.num by omega, show -q.num = ((q⁻¹.den : Nat) : Int) by omega]
      refine Ev.bind (product_ev p q⁻¹ (by omega) (by omega) (by omega) (by omega)) (Ev.const ?_)
      rw [res_eta]
    · rw [Int.sign_eq_one_of_pos (by omega)] at i1
      refine Ev.ite_neg hneg ?_
      rw [show (q.den : Int) = q⁻¹.num by omega, show q.num = ((q⁻¹.den : Nat) : Int) by omega]
      refine Ev.bind (product_ev p q⁻¹ (by omega) (by omega) (by omega) (by omega)) (Ev.const ?_)
      rw [res_eta]
end
section
open Go.RowKit Go.Proofs.YtlcjfabbnclalaaDoorW.PrintWords NumM
/-- what Pow answers -/
def powQ (q : Rat) (k : Int) : Int × Int × Bool := if k = 0 then res 1 else if q = 0 then (if k < 0 then (0, 0, false) else res 0) else if k < 0 then res (q⁻¹ ^ k.natAbs) else res (q ^ k.natAbs)
theorem odd_eq (k : Int) : (Int.tmod k 2 != 0) = decide (k.natAbs % 2 = 1) := by
  rw [Bool.eq_iff_iff, bne_iff_ne, decide_eq_true_iff]
  rcases Int.lt_or_le k 0 with h | h
  · obtain ⟨m, rfl⟩ : ∃ m : Nat, k = -(m : Int) := ⟨k.natAbs, by omega⟩
    rw [Int.neg_tmod, show (2 : Int) = ((2 : Nat) : Int) from rfl, ← Int.ofNat_tmod]
    omega
  · obtain ⟨m, rfl⟩ : ∃ m : Nat, k = (m : Int) := ⟨k.natAbs, by omega⟩
    rw [show (2 : Int) = ((2 : Nat) : Int) from rfl, ← Int.ofNat_tmod]
    omega
theorem pow_sign (x : Int) (t : Nat) : x ^ t = if x < 0 ∧ t % 2 = 1 then -((x.natAbs ^ t : Nat) : Int) else ((x.natAbs ^ t : Nat) : Int) := by
  induction t with
  | zero => simp
  | succ t ih =>
    rw [Int.pow_succ, ih, Nat.pow_succ, Int.natCast_mul]
    generalize ((x.natAbs ^ t : Nat) : Int) = y
    rcases Int.lt_or_le x 0 with h | h
    · have e : ((x.natAbs : Nat) : Int) = -x := by omega
      rw [e]
      rcases Nat.mod_two_eq_zero_or_one t with h2 | h2
      · rw [if_neg (by omega), if_pos ⟨h, by omega⟩, Int.mul_neg, Int.neg_neg]
      · rw [if_pos ⟨h, h2⟩, if_neg (by omega), Int.neg_mul, Int.mul_neg]
    · have e : ((x.natAbs : Nat) : Int) = x := by omega
      rw [e, if_neg (by omega), if_neg (by omega)]
/-- what the two loops come to -/
def powOut (n d t : Nat) (minus : Bool) : Int × Int × Bool := if n ^ t ≤ 1000000000000 ∧ d ^ t ≤ 1000000 then ((if minus then -((n ^ t : Nat) : Int) else ((n ^ t : Nat) : Int)), ((d ^ t : Nat) : Int), true) else (0, 0, false)
theorem pow_out (b : Rat) (t : Nat) : res (b ^ t) = powOut b.num.natAbs b.den t (decide (b.num < 0) && decide (t % 2 = 1)) := by
  have h1 := Rat.num_pow b t
  have h2 := Rat.den_pow b t
  have hf : Fits (b ^ t) ↔ (b.num.natAbs ^ t ≤ 1000000000000 ∧ b.den ^ t ≤ 1000000) := by
    unfold Fits; rw [h1, h2, Int.natAbs_pow]
  unfold res powOut
  by_cases h : b.num.natAbs ^ t ≤ 1000000000000 ∧ b.den ^ t ≤ 1000000
  · rw [if_pos (hf.2 h), if_pos h, h1, h2, pow_sign]
    by_cases hc : b.num < 0 ∧ t % 2 = 1
    · rw [if_pos hc, if_pos (by simp [hc.1, hc.2])]
    · rw [if_neg hc, if_neg (by simpa using hc)]
  · rw [if_neg (fun h' => h (hf.1 h')), if_neg h]
theorem over_div' (x y : Nat) (hy : 0 < y) (b : Nat) : x > b / y ↔ x * y > b := by
  rw [gt_iff_lt, gt_iff_lt, Nat.div_lt_iff_lt_mul hy]
/-- one round more goes over, or not -/
theorem pow_over {n i t : Nat} (hn : 0 < n) (hi : i < t) (b : Nat) (h : n ^ i > b / n) : ¬ n ^ t ≤ b := by
  have h1 := (over_div' (n ^ i) n hn b).1 h
  have h2 : n ^ (i + 1) ≤ n ^ t := Nat.pow_le_pow_right hn hi
  rw [Nat.pow_succ] at h2
  omega
theorem pow_next {n i : Nat} (hn : 0 < n) (b : Nat) (h : ¬ n ^ i > b / n) : n ^ (i + 1) ≤ b := by
  rw [Nat.pow_succ]
  exact Nat.not_lt.1 fun h' => h ((over_div' (n ^ i) n hn b).2 h')
theorem div_lit (c n : Nat) (hc : c ≤ 18446744073709551615) : IntKind.u64.wrap (Int.tdiv (c : Int) (n : Int)) = ((c / n : Nat) : Int) := by
  rw [← Int.ofNat_tdiv]
  exact u64n (Nat.le_trans (Nat.div_le_self _ _) hc)
theorem powLoop_ev (odd : Bool) (n d t : Nat) (N D : Int) (hn : 0 < n) (hd : 0 < d) (hnd : n * d ≤ 18446744073709551615) (ht : t ≤ 18446744073709551615) :
    ∀ (j i : Nat), t - i = j → i ≤ t → n ^ i ≤ 1000000000000 → d ^ i ≤ 1000000 → Ev (fun k => num_Pow.l0 k odd n d t ((n ^ i : Nat) : Int) ((d ^ i : Nat) : Int) i N D) (powOut n d t (decide (N < 0) && odd)) := by
  intro j
  induction j with
  | zero =>
    intro i hj hi h1 h2
    have e : i = t := by omega
    subst e
    refine Ev.step (fun k => by simp only [num_Pow.l0]; exact if_neg (by omega)) ?_
    refine Ev.step (f := fun _ => some (powOut n d i (decide (N < 0) && odd))) (fun k => ?_) (Ev.now _)
    simp only [num_Pow.j4]
    rw [if_neg (by simp)]
    unfold powOut
    rw [if_pos (show n ^ i ≤ 1000000000000 ∧ d ^ i ≤ 1000000 from ⟨h1, h2⟩)]
    generalize n ^ i = X at *
    generalize d ^ i = Y at *
    rw [w64 (x := (X : Int)) (by unfold I64; omega), w64 (x := (Y : Int)) (by unfold I64; omega), w64 (x := -(X : Int)) (by unfold I64; omega)]
    by_cases hN : N < 0 <;> cases odd <;> simp [hN]
  | succ j ih =>
    intro i hj hi h1 h2
    refine Ev.step (fun k => by simp only [num_Pow.l0]; exact if_pos (by omega)) ?_
    rw [← Int.natCast_mul, u64n hnd]
    by_cases hbig : n * d > 1
    · rw [decide_eq_true (show ((n * d : Nat) : Int) > 1 by omega)]
      refine Ev.step (fun k => by simp only [num_Pow.j4, if_true]; rfl) ?_
      refine Ev.ite_neg (by omega) ?_
      rw [show (1000000000000 : Int) = ((1000000000000 : Nat) : Int) from rfl, div_lit _ _ (by omega), show (1000000 : Int) = ((1000000 : Nat) : Int) from rfl, div_lit _ _ (by omega)]
      have fail : ¬ (n ^ t ≤ 1000000000000 ∧ d ^ t ≤ 1000000) → Ev (fun _ => some ((0 : Int), (0 : Int), false)) (powOut n d t (decide (N < 0) && odd)) := by
        intro h; unfold powOut; rw [if_neg h]; exact Ev.now _
      by_cases c1 : n ^ i > 1000000000000 / n
      · exact Ev.ite_pos (by omega) (fail fun h => pow_over hn (by omega) _ c1 h.1)
      · refine Ev.ite_neg (by omega) (Ev.ite_neg (by omega) ?_)
        by_cases c2 : d ^ i > 1000000 / d
        · exact Ev.ite_pos (by omega) (fail fun h => pow_over hd (by omega) _ c2 h.2)
        · refine Ev.ite_neg (by omega) ?_
          have n1 := pow_next hn _ c1
          have n2 := pow_next hd _ c2
          have := ih (i + 1) (by omega) (by omega) n1 n2
          rw [← Int.natCast_mul, show n ^ i * n = n ^ (i + 1) from rfl, ← Int.natCast_mul, show d ^ i * d = d ^ (i + 1) from rfl, u64n (x := n ^ (i + 1)) (by omega), u64n (x := d ^ (i + 1)) (by omega), show ((i : Int) + 1) = ((i + 1 : Nat) : Int) from rfl, u64n (by omega)]
          exact this
    · rw [decide_eq_false (show ¬ ((n * d : Nat) : Int) > 1 by omega)]
      have hn1 : n = 1 := by
        rcases Nat.lt_or_ge n 2 with h | h
        · omega
        · have := Nat.mul_le_mul h (show 1 ≤ d from hd); omega
      have hd1 : d = 1 := by rw [hn1] at hbig; omega
      subst hn1 hd1
      refine Ev.step (f := fun _ => some (powOut 1 1 t (decide (N < 0) && odd))) (fun k => ?_) (Ev.now _)
      simp only [num_Pow.j4, Nat.one_pow]
      rw [if_neg (by simp)]
      unfold powOut
      simp only [Nat.one_pow]
      rw [if_pos (show 1 ≤ 1000000000000 ∧ 1 ≤ 1000000 from ⟨by omega, by omega⟩)]
      rw [show wrap64 ((1 : Nat) : Int) = 1 from w64 (by unfold I64; omega), show wrap64 (-1) = -1 from w64 (by unfold I64; omega)]
      by_cases hN : N < 0 <;> cases odd <;> simp [hN]
theorem inv_parts {q : Rat} (hq : q.num ≠ 0) : (q⁻¹).num.natAbs = q.den ∧ (q⁻¹).den = q.num.natAbs ∧ ((q⁻¹).num < 0 ↔ q.num < 0) := by
  have i1 := Rat.num_inv q
  have i2 := Rat.den_inv q
  rw [if_neg hq] at i2
  have q1 := q.den_pos
  rcases Int.lt_or_lt_of_ne hq with h | h
  · rw [Int.sign_eq_neg_one_of_neg h] at i1; exact ⟨by omega, i2, by omega⟩
  · rw [Int.sign_eq_one_of_pos h] at i1; exact ⟨by omega, i2, by omega⟩
theorem pow_ev {n d k : Int} (hn : I64 n) (hd : I64 d) (hk : I64 k) : Ev (fun r => num_Pow.f r n d k) (powQ (rat n d) k) := by
  unfold num_Pow.f
  refine Ev.bind (taken_ev hn hd) ?_
  have hq := fits_rat n d
  generalize rat n d = q at *
  have hb := fits_bounds hq
  have one : Ev (fun r => num_Pow.j0 r k (Int.tmod k 2 != 0) true q.num q.den) (res 1) :=
    Ev.step (f := fun _ => some (1, 1, true)) (fun r => by simp only [num_Pow.j0, if_true]) (Ev.now _)
  unfold powQ
  by_cases k0 : k = 0
  · rw [if_pos k0]
    exact Ev.ite_pos k0 one
  · rw [if_neg k0]
    refine Ev.ite_neg k0 ?_
    rw [odd_eq] at *
    have rest : ¬ (q.num = 1 ∧ q.den = 1) → Ev (fun r => num_Pow.j0 r k (decide (k.natAbs % 2 = 1)) false q.num q.den) (if q = 0 then (if k < 0 then (0, 0, false) else res 0) else if k < 0 then res (q⁻¹ ^ k.natAbs) else res (q ^ k.natAbs)) := by
      intro _
      refine Ev.step (fun r => by simp only [num_Pow.j0]; exact if_neg (by simp)) ?_
      by_cases q0 : q.num = 0
      · rw [if_pos (Rat.num_eq_zero.1 q0)]
        refine Ev.ite_pos q0 ?_
        by_cases kn : k < 0
        · rw [if_pos kn, decide_eq_true kn]
          exact Ev.step (f := fun _ => some (0, 0, false)) (fun r => by simp only [num_Pow.j1, if_true]) (Ev.now _)
        · rw [if_neg kn, decide_eq_false kn]
          refine Ev.step (f := fun _ => some (0, 1, true)) (fun r => ?_) (Ev.now _)
          simp only [num_Pow.j1]
          rw [if_neg (by simp), if_pos q0, Rat.num_eq_zero.1 q0]; rfl
      · rw [if_neg (fun h => q0 (Rat.num_eq_zero.2 h))]
        refine Ev.ite_neg q0 (Ev.step (fun r => by simp only [num_Pow.j1]; exact if_neg (by simp)) (Ev.ite_neg q0 ?_))
        unfold I64 at hk
        refine Ev.bind0 (size_eq (by unfold I64; omega)) (Ev.bind0 (size_eq hk) ?_)
        rw [u64n (x := q.den) (by omega)]
        have hnd : q.num.natAbs * q.den ≤ 1000000000000 * 1000000 := Nat.mul_le_mul (by omega) (by omega)
        by_cases kn : k < 0
        · rw [if_pos kn]
          refine Ev.ite_pos kn (Ev.step (fun r => by simp only [num_Pow.j2]; rfl) ?_)
          obtain ⟨i1, i2, i3⟩ := inv_parts q0
          have := powLoop_ev (decide (k.natAbs % 2 = 1)) q.den q.num.natAbs k.natAbs q.num q.den q.den_pos (by omega) (by rw [Nat.mul_comm]; omega) (by omega) k.natAbs 0 (by omega) (by omega) (by simp) (by simp)
          rw [pow_out, i1, i2, show decide ((q⁻¹).num < 0) = decide (q.num < 0) by rw [Bool.eq_iff_iff, decide_eq_true_iff, decide_eq_true_iff]; exact i3]
          exact this
        · rw [if_neg kn]
          refine Ev.ite_neg kn (Ev.step (fun r => by simp only [num_Pow.j2]; rfl) ?_)
          have := powLoop_ev (decide (k.natAbs % 2 = 1)) q.num.natAbs q.den k.natAbs q.num q.den (by omega) q.den_pos (by omega) (by omega) k.natAbs 0 (by omega) (by omega) (by simp) (by simp)
          rw [pow_out]
          exact this
    by_cases n1 : q.num = 1
    · refine Ev.ite_pos n1 ?_
      by_cases d1 : (q.den : Int) = 1
      · rw [show ((q.den : Int) == 1) = true by simpa using d1]
        have q1 : q = 1 := Rat.ext n1 (by show q.den = 1; omega)
        rw [if_neg (by rw [q1]; decide), q1]
        have hp : (1 : Rat) ^ k.natAbs = 1 := by
          generalize k.natAbs = t
          induction t with
          | zero => rfl
          | succ t ih => rw [Rat.pow_succ, ih, Rat.mul_one]
        have hi : (1 : Rat)⁻¹ = 1 := by decide +kernel
        rw [hi, hp, ite_self]
        exact Ev.step (f := fun _ => some (1, 1, true)) (fun r => by simp only [num_Pow.j0, if_true]) (Ev.now _)
      · rw [show ((q.den : Int) == 1) = false by simpa using d1]
        exact rest (fun h => d1 (by omega))
    · exact Ev.ite_neg n1 (rest (fun h => n1 h.1))
end
section
open Go.RowKit Go.Proofs.YtlcjfabbnclalaaDoorW.PrintWords NumM
/-- rounded down, the way the program does it -/
theorem floor_eq' {a b : Int} (hb : 0 < b) (ha : I64 a) : num_floor.f a b = some (a / b) := by
  unfold num_floor.f I64 at *
  have h1 := Int.tdiv_eq_ediv (a := a) (b := b)
  rw [Int.sign_eq_one_of_pos hb] at h1
  have hle : a / b ≤ 9223372036854775807 ∧ -9223372036854775808 ≤ a / b := by
    have := Int.natAbs_ediv_le_natAbs a b
    rcases Int.lt_or_le a 0 with h | h
    · have := Int.ediv_neg_of_neg_of_pos h hb; omega
    · have := Int.ediv_nonneg h (Int.le_of_lt hb); omega
  have hd := Int.dvd_iff_tmod_eq_zero (a := b) (b := a)
  rw [if_neg (by omega)]
  have hw : ∀ x : Int, -9223372036854775808 ≤ x → x ≤ 9223372036854775807 → wrap64 x = x := fun x h1 h2 => w64 ⟨h1, h2⟩
  have hadd : a < 0 → a / b < 0 := fun h => Int.ediv_neg_of_neg_of_pos h hb
  by_cases hz : Int.tmod a b = 0
  · rw [if_pos hz]
    rw [if_pos (Or.inr (hd.2 hz)), Int.add_zero] at h1
    rw [h1, hw _ hle.2 hle.1]
  · rw [if_neg hz]
    have hnd : ¬ b ∣ a := fun h => hz (hd.1 h)
    by_cases hs : a < 0
    · rw [if_neg (by intro h; rcases h with h | h; omega; exact hnd h)] at h1
      have := hadd hs
      rw [if_pos (by simp [hs]; omega), h1, hw (a / b + 1) (by omega) (by omega), show a / b + 1 - 1 = a / b by omega, hw _ hle.2 hle.1]
    · rw [if_pos (Or.inl (by omega)), Int.add_zero] at h1
      rw [if_neg (by simp [hs]; omega), h1, hw _ hle.2 hle.1]
theorem floorF_ev {n d : Int} (hn : I64 n) (hd : I64 d) : Ev (fun k => num_Floor.f k n d) (nd ((rat n d).floor : Rat)) := by
  unfold num_Floor.f
  refine Ev.bind (taken_ev hn hd) ?_
  have h := fits_rat n d
  generalize rat n d = q at *
  have hb := fits_bounds h
  refine Ev.bind0 (floor_eq' (by omega) (i64_num h)) (Ev.const ?_)
  unfold nd
  rw [Rat.num_intCast, Rat.den_intCast, Rat.floor_def]
  rfl
/-- the rest of a quotient that is rounded down -/
theorem fmod_eq' (x y : Int) (hy : y ≠ 0) : (if Int.tmod x y = 0 then Int.tmod x y else if ((decide (Int.tmod x y < 0)) != (decide (y < 0))) = true then Int.tmod x y + y else Int.tmod x y) = x.fmod y := by
  rw [Int.fmod_eq_tmod]
  have hd := Int.dvd_iff_tmod_eq_zero (a := y) (b := x)
  by_cases hz : Int.tmod x y = 0
  · rw [if_pos hz, if_pos (hd.2 hz)]; omega
  · rw [if_neg hz, if_neg (fun h => hz (hd.1 h))]
    have hs : Int.tmod x y < 0 ↔ x < 0 := by
      rcases Int.lt_or_le x 0 with h | h
      · have := Int.tmod_nonneg y (a := -x) (by omega)
        rw [Int.neg_tmod] at this
        omega
      · have := Int.tmod_nonneg y h
        omega
    by_cases hx : x < 0 <;> by_cases hy' : y < 0 <;> simp [hs, hx, hy'] <;> omega
/-- what Mod answers -/
def modQ' (p q : Rat) : Int × Int × Bool := if q = 0 then (0, 0, false) else res (p - q * ((p / q).floor : Rat))
theorem mod_ev {n d m e : Int} (hn : I64 n) (hd : I64 d) (hm : I64 m) (he : I64 e) : Ev (fun k => num_Mod.f k n d m e) (modQ' (rat n d) (rat m e)) := by
  unfold num_Mod.f modQ'
  refine Ev.bind (taken_ev hn hd) (Ev.bind (taken_ev hm he) ?_)
  have hp := fits_rat n d
  have hq := fits_rat m e
  generalize rat n d = p at *
  generalize rat m e = q at *
  obtain ⟨h1, h2, h3, h4, h5⟩ := add_parts p q hp hq
  by_cases q0 : q.num = 0
  · rw [if_pos (Rat.num_eq_zero.1 q0)]
    exact Ev.ite_pos q0 (Ev.now _)
  · rw [if_neg (fun h => q0 (Rat.num_eq_zero.2 h)), modQ p q q0]
    refine Ev.ite_neg q0 ?_
    simp only [w64 h1, w64 h2, w64 h4]
    have y0 : q.num * (p.den : Int) ≠ 0 := Int.mul_ne_zero q0 (by have := p.den_pos; omega)
    refine Ev.ite_neg y0 ?_
    rw [← Int.fmod_def, ← fmod_eq' _ _ y0]
    have hr : (Int.tmod (p.num * (q.den : Int)) (q.num * (p.den : Int))).natAbs ≤ (p.num * (q.den : Int)).natAbs := by
      rw [Int.natAbs_tmod]; exact Nat.mod_le _ _
    have hsign : ∀ a b : Int, Int.tmod a b < 0 → a < 0 := by
      intro a b h
      rcases Int.lt_or_le a 0 with h' | h'
      · exact h'
      · have := Int.tmod_nonneg b h'; omega
    have hb1 := fits_bounds hp
    have hb2 := fits_bounds hq
    have m1 := mul_bounds ⟨hb1.1, hb1.2.1⟩ (d := (q.den : Int)) ⟨by omega, by omega⟩
    have m2 := mul_bounds ⟨hb2.1, hb2.2.1⟩ (d := (p.den : Int)) ⟨by omega, by omega⟩
    generalize Int.tmod (p.num * (q.den : Int)) (q.num * (p.den : Int)) = r at *
    generalize q.num * (p.den : Int) = y at *
    generalize p.num * (q.den : Int) = x at *
    have fin : ∀ r' : Int, I64 r' → Ev (fun k => (num_Make.f k r' ((p.den : Int) * (q.den : Int))).bind fun b => some (b.1, b.2.1, b.2.2)) (res (Rat.divInt r' ((p.den : Int) * (q.den : Int)))) := by
      intro r' hr'
      refine Ev.bind (make_ev hr' h4) (Ev.const ?_)
      unfold mk
      rw [if_neg h5]
    by_cases r0 : r = 0
    · rw [if_pos r0]
      exact Ev.ite_pos r0 (fin r (by unfold I64; omega))
    · rw [if_neg r0]
      refine Ev.ite_neg r0 ?_
      by_cases hc : ((decide (r < 0)) != (decide (y < 0))) = true
      · rw [if_pos hc]
        refine Ev.ite_pos hc ?_
        rw [w64 (x := r + y) (by unfold I64; omega)]
        exact fin _ (by unfold I64; omega)
      · rw [if_neg hc]
        exact Ev.ite_neg hc (fin r (by unfold I64; omega))
end
section
open Go.RowKit Go.Proofs.YtlcjfabbnclalaaDoorW.PrintWords NumM
theorem abs_ev {n d : Int} (hn : I64 n) (hd : I64 d) : Ev (fun k => num_Abs.f k n d) (((rat n d).num.natAbs : Int), ((rat n d).den : Int)) := by
  unfold num_Abs.f
  refine Ev.bind (taken_ev hn hd) ?_
  have h := fits_bounds (fits_rat n d)
  generalize rat n d = q at *
  by_cases hneg : q.num < 0
  · refine Ev.ite_pos hneg (Ev.const ?_)
    rw [w64 (x := -q.num) (by unfold I64; omega), show -q.num = (q.num.natAbs : Int) by omega]
  · refine Ev.ite_neg hneg (Ev.const ?_)
    rw [show (q.num.natAbs : Int) = q.num by omega]
end
section
open Go.RowKit Go.Proofs.YtlcjfabbnclalaaDoorW.PrintWords NumM
/-- the string of these bytes -/
def by' (l : List UInt8) : ByteArray := ⟨l.toArray⟩
theorem by_eta (s : ByteArray) : s = by' s.data.toList := by cases s; simp [by']
theorem by_size (l : List UInt8) : (by' l).size = l.length := by simp [by', ByteArray.size]
theorem by_data (l : List UInt8) : (by' l).data.toList = l := by simp [by']
theorem by_ext {a b : ByteArray} (h : a.data.toList = b.data.toList) : a = b := by rw [by_eta a, by_eta b, h]
theorem by_app (l m : List UInt8) : by' l ++ by' m = by' (l ++ m) := by
  apply by_ext; rw [ByteArray.data_append, by_data, Array.toList_append, by_data, by_data]
theorem by_extract (l : List UInt8) (a b : Nat) : (by' l).extract a b = by' ((l.drop a).take (b - a)) := by
  apply by_ext; rw [ByteArray.data_extract, Array.toList_extract, by_data, by_data]
theorem by_tail (l : List UInt8) (a : Nat) : (by' l).extract a (by' l).size = by' (l.drop a) := by
  rw [by_extract, by_size, List.take_of_length_le (by simp)]
end
section
open Go.RowKit Go.Lib Go.Proofs.YtlcjfabbnclalaaDoorW.PrintWords NumM
/-- what Text writes -/
def textS (q : Rat) : List UInt8 := (if q.num < 0 then [45] else []) ++ (if 1000000 % q.den = 0 then decDigits (q.num.natAbs / q.den) ++ (if q.den = 1 then [] else 46 :: frac 6 (q.num.natAbs % q.den * (1000000 / q.den))) else decDigits q.num.natAbs ++ 47 :: decDigits q.den)
theorem dec_len (m u : Nat) (h : u < 10 ^ (m + 1)) : (decDigits u).length ≤ m + 1 := by
  induction m generalizing u with
  | zero => rw [decDigits, dif_pos (by simpa using h)]; simp
  | succ m ih =>
    rw [decDigits]
    split
    · simp
    · rw [List.length_append, List.length_singleton]
      have := ih (u / 10) (by rw [Nat.pow_succ] at h; omega)
      omega
theorem frac_len (m F : Nat) : (frac m F).length ≤ m := by
  induction m generalizing F with
  | zero => simp [frac]
  | succ m ih => rw [frac]; split <;> simp [ih]
theorem itoa_ev (n : Nat) (h : n ≤ 9223372036854775807) : strconv_Itoa.f (n : Int) = some (by' (decDigits n)) := by
  unfold strconv_Itoa.f
  rw [if_pos (by omega)]
  unfold itoa
  rw [if_neg (by omega), Int.toNat_natCast]
  rfl
theorem trim_ev (l : List UInt8) (h : l.length ≤ 9223372036854775807) : strings_TrimRight.f (by' l) ⟨#[48]⟩ = some (by' (trimRightB l 48)) := by
  unfold strings_TrimRight.f
  rw [if_pos (by rw [by_size]; exact h), by_data]
  rfl
/-- the digits behind the point -/
theorem frac_lt {n d : Nat} (hd : 0 < d) (hd' : d ≤ 1000000) : n % d * (1000000 / d) < 10 ^ 6 := by
  have h1 : n % d < d := Nat.mod_lt _ hd
  have h2 : 0 < 1000000 / d := Nat.div_pos hd' hd
  have h3 := Nat.mul_lt_mul_of_pos_right h1 h2
  have h4 := Nat.mul_div_le 1000000 d
  omega
theorem text_ev {n d : Int} (hn : I64 n) (hd : I64 d) : Ev (fun k => num_Text.f k n d) (by' (textS (rat n d))) := by
  unfold num_Text.f
  refine Ev.bind (taken_ev hn hd) ?_
  have hq := fits_rat n d
  generalize rat n d = q at *
  have hb := fits_bounds hq
  have hq' := hq
  unfold Fits at hq'
  have hden := q.den_pos
  refine Ev.bind0 (size_eq (by unfold I64; omega)) ?_
  rw [w64 (x := (q.num.natAbs : Int)) (by unfold I64; omega)]
  have dmod : ∀ D : Nat, ((1000000 : Int) % (D : Int)) = ((1000000 % D : Nat) : Int) := fun D => rfl
  have i64d : I64 ((q.num.natAbs / q.den : Nat) : Int) := by
    have := Nat.div_le_self q.num.natAbs q.den
    generalize q.num.natAbs / q.den = X at *
    unfold I64; omega
  have i64e : I64 ((1000000 / q.den : Nat) : Int) := by
    have := Nat.div_le_self 1000000 q.den
    generalize 1000000 / q.den = X at *
    unfold I64; omega
  have main : ∀ s : List UInt8, s.length ≤ 1 → Ev (fun k => num_Text.j0 k q.num.natAbs (by' s) q.num q.den) (by' (s ++ (if 1000000 % q.den = 0 then decDigits (q.num.natAbs / q.den) ++ (if q.den = 1 then [] else 46 :: frac 6 (q.num.natAbs % q.den * (1000000 / q.den))) else decDigits q.num.natAbs ++ 47 :: decDigits q.den))) := by
    intro s hs
    refine Ev.step (fun k => by simp only [num_Text.j0]; rfl) ?_
    refine Ev.ite_neg (by omega) ?_
    have l1 : (decDigits q.num.natAbs).length ≤ 13 := dec_len 12 _ (by omega)
    have l2 : (decDigits q.den).length ≤ 7 := dec_len 6 _ (by omega)
    have l3 : (decDigits (q.num.natAbs / q.den)).length ≤ 13 := dec_len 12 _ (by have := Nat.div_le_self q.num.natAbs q.den; omega)
    by_cases c : 1000000 % q.den = 0
    · rw [if_pos c]
      refine Ev.ite_pos (by rw [dmod, c]; rfl) ?_
      rw [← Int.ofNat_tdiv, w64 i64d]
      refine Ev.bind0 (itoa_ev _ (by have := Nat.div_le_self q.num.natAbs q.den; omega)) ?_
      refine Ev.ite_pos (by rw [by_size, by_size]; omega) ?_
      by_cases d1 : q.den = 1
      · rw [if_pos d1, List.append_nil]
        refine Ev.ite_pos (by omega) ?_
        rw [by_app]
        exact Ev.now _
      · rw [if_neg d1]
        refine Ev.ite_neg (by omega) ?_
        have hF := frac_lt (n := q.num.natAbs) hden hq'.2
        rw [← Int.ofNat_tmod, show Int.tdiv (1000000 : Int) (q.den : Int) = ((1000000 / q.den : Nat) : Int) from (Int.ofNat_tdiv 1000000 q.den).symm, w64 i64e, ← Int.natCast_mul]
        generalize hFF : q.num.natAbs % q.den * (1000000 / q.den) = F at *
        rw [w64 (x := (F : Int)) (by unfold I64; omega), show (1000000 + (F : Int)) = ((1 * 10 ^ 6 + F : Nat) : Int) by omega, w64 (by unfold I64; omega)]
        refine Ev.bind0 (itoa_ev _ (by omega)) ?_
        rw [by_app]
        refine Ev.ite_pos (by rw [by_size, List.length_append]; omega) ?_
        rw [dec_pad 6 1 F (by omega) hF]
        have e1 : decDigits 1 = [49] := by rw [decDigits, dif_pos (by omega)]; rfl
        rw [e1]
        refine Ev.ite_pos (by rw [by_size, List.length_append, List.length_singleton]; omega) ?_
        rw [by_tail, List.drop_one, List.cons_append, List.nil_append, List.tail_cons]
        refine Ev.bind0 (trim_ev _ (by rw [pad_length]; omega)) ?_
        rw [(trim_pad 6 F hF).1]
        have l4 := frac_len 6 F
        rw [show (⟨#[46]⟩ : ByteArray) = by' [46] from rfl, by_app]
        refine Ev.ite_pos (by rw [by_size, by_size, List.length_append, List.length_append, List.length_singleton]; omega) ?_
        rw [by_app]
        refine Ev.const ?_
        congr 2
        simp [List.append_assoc]
    · rw [if_neg c]
      refine Ev.ite_neg (by rw [dmod]; exact fun h => c (by exact_mod_cast h)) ?_
      refine Ev.bind0 (itoa_ev _ (by omega)) ?_
      refine Ev.ite_pos (by rw [by_size, by_size]; omega) ?_
      rw [by_app]
      refine Ev.ite_pos (by rw [by_size, List.length_append]; omega) ?_
      refine Ev.bind0 (itoa_ev _ (by omega)) ?_
      rw [show (⟨#[47]⟩ : ByteArray) = by' [47] from rfl, by_app]
      refine Ev.ite_pos (by rw [by_size, by_size, List.length_append, List.length_append, List.length_singleton]; omega) ?_
      rw [by_app]
      refine Ev.const ?_
      congr 2
      simp [List.append_assoc]
  unfold textS
  by_cases h : q.num < 0
  · rw [if_pos h]
    exact Ev.ite_pos h (main [45] (by simp))
  · rw [if_neg h]
    exact Ev.ite_neg h (main [] (by simp))
end
section
open Go.RowKit Go.Proofs.YtlcjfabbnclalaaDoorW.PrintWords NumM
theorem rightL_loop (x y : Nat) : Ev (fun k => whittlelaw1_right.l0 k x y) (decide (Nat.gcd x y = 1)) := by
  induction x using Nat.strongRecOn generalizing y with
  | ind x ih =>
    by_cases hx : x = 0
    · subst hx
      refine Ev.step (f := fun _ => some ((y : Int) == 1)) (fun k => ?_) (Ev.const ?_)
      · simp only [whittlelaw1_right.l0]; exact if_pos rfl
      · congr 1
        rw [Bool.eq_iff_iff, beq_iff_eq, decide_eq_true_iff]
        have e := Nat.gcd_zero_left y
        constructor
        · intro h; rw [e]; omega
        · intro h; rw [e] at h; omega
    · refine Ev.step (fun k => by simp only [whittlelaw1_right.l0]; exact if_neg (by omega)) ?_
      rw [← Int.ofNat_tmod]
      refine cast (congrArg (Ev _) ?_) (ih (y % x) (Nat.mod_lt _ (by omega)) x)
      rw [Bool.eq_iff_iff, decide_eq_true_iff, decide_eq_true_iff]
      have e := Nat.gcd_rec x y
      constructor
      · intro h; rw [e]; exact h
      · intro h; rw [e] at h; exact h
theorem rightL_ev {n d : Int} (hn : I64 n) (hd : I64 d) : Ev (fun k => whittlelaw1_right.f k n d) (decide (RightP n d)) := by
  have key : ∀ x : Bool, (x = true → ¬ RightP n d) → (x = false → 1 ≤ d ∧ d ≤ 1000000 ∧ -1000000000000 ≤ n ∧ n ≤ 1000000000000) → Ev (fun k => whittlelaw1_right.j0 k x n d) (decide (RightP n d)) := by
    intro x h1 h2
    cases x with
    | true =>
      refine Ev.step (f := fun _ => some false) (fun k => by simp only [whittlelaw1_right.j0, if_true]) ?_
      rw [decide_eq_false (h1 rfl)]; exact Ev.now _
    | false =>
      obtain ⟨b1, b2, b3, b4⟩ := h2 rfl
      refine Ev.step (fun k => by simp only [whittlelaw1_right.j0]; exact if_neg (by simp)) ?_
      have fin : ∀ x : Int, x = (n.natAbs : Int) → Ev (fun k => whittlelaw1_right.j1 k x n d) (decide (RightP n d)) := by
        intro x hx
        refine Ev.step (fun k => by simp only [whittlelaw1_right.j1]; rfl) ?_
        have := rightL_loop n.natAbs d.toNat
        rw [hx, show d = ((d.toNat : Nat) : Int) by omega]
        refine cast (congrArg (Ev _) ?_) this
        rw [Bool.eq_iff_iff, decide_eq_true_iff, decide_eq_true_iff]
        unfold RightP
        rw [Int.toNat_natCast]
        omega
      by_cases hneg : n < 0
      · exact Ev.ite_pos hneg (fin _ (by rw [w64 (x := -n) (by unfold I64; omega)]; omega))
      · exact Ev.ite_neg hneg (fin _ (by omega))
  unfold whittlelaw1_right.f
  by_cases c1 : d < 1
  · exact Ev.ite_pos c1 (key true (fun _ h => by unfold RightP at h; omega) (fun h => by cases h))
  · refine Ev.ite_neg c1 ?_
    by_cases c2 : d > 1000000
    · exact Ev.ite_pos c2 (key true (fun _ h => by unfold RightP at h; omega) (fun h => by cases h))
    · refine Ev.ite_neg c2 ?_
      by_cases c3 : n < -1000000000000
      · exact Ev.ite_pos c3 (key true (fun _ h => by unfold RightP at h; omega) (fun h => by cases h))
      · refine Ev.ite_neg c3 (key _ (fun h0 h => ?_) (fun h => ?_))
        · rw [decide_eq_true_iff] at h0; unfold RightP at h; omega
        · have := of_decide_eq_false h; omega
end
section
open Go.RowKit Go.Proofs.YtlcjfabbnclalaaDoorW.PrintWords NumM
theorem res_pos {q : Rat} (h : Fits q) : res q = (q.num, (q.den : Int), true) := by unfold res; rw [if_pos h]
theorem res_neg {q : Rat} (h : ¬ Fits q) : res q = (0, 0, false) := by unfold res; rw [if_neg h]
theorem lt_or_ge (p q : Rat) : p < q ∨ q ≤ p := by
  rcases Decidable.em (p < q) with h | h
  · exact Or.inl h
  · exact Or.inr (Rat.not_lt.1 h)
theorem fits_zero : Fits 0 := by decide
end
section
open Go.RowKit Go.Proofs.YtlcjfabbnclalaaDoorW.PrintWords NumM
/-- a sum, one by one -/
def sumQ : Rat → List Rat → Int × Int × Bool
  | s, [] => (s.num, (s.den : Int), true)
  | s, q :: l => if Fits (s + q) then sumQ (s + q) l else (0, 0, false)
/-- what an entry counts as -/
def ratS (x : S23) : Rat := rat x.f0 x.f1
theorem sum_loop (xs : List S23) (hx : ∀ x ∈ xs, I64 x.f0 ∧ I64 x.f1) (hl : xs.length ≤ 9223372036854775807) : ∀ (j i : Nat) (s : Rat), xs.length - i = j → i ≤ xs.length → Fits s → Ev (fun k => num_Sum.l0 k xs (xs.length : Int) i s.num s.den) (sumQ s ((xs.drop i).map ratS)) := by
  intro j
  induction j with
  | zero =>
    intro i s hj hi hs
    have e : i = xs.length := by omega
    subst e
    rw [List.drop_length]
    exact Ev.step (f := fun _ => some (s.num, (s.den : Int), true)) (fun k => by simp only [num_Sum.l0]; exact if_neg (by omega)) (Ev.now _)
  | succ j ih =>
    intro i s hj hi hs
    have hi' : i < xs.length := by omega
    refine Ev.step (fun k => by simp only [num_Sum.l0]; exact if_pos (by omega)) ?_
    refine Ev.ite_pos (by omega) (Ev.ite_pos (by omega) ?_)
    have e : rd_T23 xs (i : Int) = xs[i] := by
      unfold rd_T23
      rw [Int.toNat_natCast, List.getD_eq_getElem?_getD, List.getElem?_eq_getElem hi', Option.getD_some]
    rw [e, List.drop_eq_getElem_cons hi', List.map_cons]
    obtain ⟨h1, h2⟩ := hx xs[i] (List.getElem_mem hi')
    have ha := add_ev (i64_num hs) (i64_den hs) h1 h2
    rw [rat_of_fits hs] at ha
    refine Ev.bind ha ?_
    show Ev _ (if Fits (s + ratS xs[i]) then sumQ (s + ratS xs[i]) ((xs.drop (i + 1)).map ratS) else (0, 0, false))
    unfold ratS
    by_cases hf : Fits (s + rat xs[i].f0 xs[i].f1)
    · rw [res_pos hf, if_pos hf]
      refine Ev.ite_pos rfl ?_
      rw [w64 (x := (i : Int) + 1) (by unfold I64; omega)]
      exact ih (i + 1) _ (by omega) (by omega) hf
    · rw [res_neg hf, if_neg hf]
      exact Ev.ite_neg (by simp) (Ev.now _)
theorem sum_ev (xs : List S23) (hx : ∀ x ∈ xs, I64 x.f0 ∧ I64 x.f1) (hl : xs.length ≤ 9223372036854775807) : Ev (fun k => num_Sum.f k xs) (sumQ 0 (xs.map ratS)) :=
  sum_loop xs hx hl xs.length 0 0 rfl (by omega) fits_zero
end
end Go.Proofs.YtlcjfabbnclalaaDoor.F
