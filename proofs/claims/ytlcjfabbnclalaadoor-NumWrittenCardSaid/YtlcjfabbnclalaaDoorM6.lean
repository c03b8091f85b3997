/-
Products of the program, as rationals.
-/
import Derived.Test.YtlcjfabbnclalaaDoorF21
import Derived.Test.YtlcjfabbnclalaaDoorM3
namespace Go.Proofs.YtlcjfabbnclalaaDoor.F
open Go.RowKit Go.Proofs.YtlcjfabbnclalaaDoorW.PrintWords NumM
set_option linter.unusedVariables false
set_option linter.unusedSimpArgs false

/-- what is left of the parts of two, what divides both taken out -/
structure Cross (p q : Rat) (n m : Int) (d e : Nat) : Prop where
  en : n = p.num / (Nat.gcd p.num.natAbs q.den : Nat)
  em : m = q.num / (Nat.gcd q.num.natAbs p.den : Nat)
  ed : d = p.den / Nat.gcd q.num.natAbs p.den
  ee : e = q.den / Nat.gcd p.num.natAbs q.den
  num : (p * q).num = n * m
  den : (p * q).den = d * e
  na : n.natAbs = p.num.natAbs / Nat.gcd p.num.natAbs q.den
  ma : m.natAbs = q.num.natAbs / Nat.gcd q.num.natAbs p.den
  nb : n.natAbs ≤ p.num.natAbs
  mb : m.natAbs ≤ q.num.natAbs
  db : d ≤ p.den
  eb : e ≤ q.den
  dp : 0 < d
  ep : 0 < e

theorem gcd_dvd_num (n : Int) (d : Nat) : ((Nat.gcd n.natAbs d : Nat) : Int) ∣ n := Int.ofNat_dvd_left.2 (Nat.gcd_dvd_left _ _)
theorem cross (p q : Rat) : Cross p q (p.num / (Nat.gcd p.num.natAbs q.den : Nat)) (q.num / (Nat.gcd q.num.natAbs p.den : Nat)) (p.den / Nat.gcd q.num.natAbs p.den) (q.den / Nat.gcd p.num.natAbs q.den) := by
  have h := mul_num_den p q
  have n1 : (p.num / (Nat.gcd p.num.natAbs q.den : Nat)).natAbs = p.num.natAbs / Nat.gcd p.num.natAbs q.den := by
    rw [Int.natAbs_ediv_of_dvd (gcd_dvd_num _ _), Int.natAbs_natCast]
  have n2 : (q.num / (Nat.gcd q.num.natAbs p.den : Nat)).natAbs = q.num.natAbs / Nat.gcd q.num.natAbs p.den := by
    rw [Int.natAbs_ediv_of_dvd (gcd_dvd_num _ _), Int.natAbs_natCast]
  exact ⟨rfl, rfl, rfl, rfl, h.1, h.2, n1, n2, by rw [n1]; exact Nat.div_le_self _ _, by rw [n2]; exact Nat.div_le_self _ _, Nat.div_le_self _ _, Nat.div_le_self _ _, Nat.div_gcd_pos_of_pos_right _ p.den_pos, Nat.div_gcd_pos_of_pos_right _ q.den_pos⟩

theorem tdiv_gcd (n : Int) (d : Nat) : Int.tdiv n ((Nat.gcd n.natAbs d : Nat) : Int) = n / ((Nat.gcd n.natAbs d : Nat) : Int) := Int.tdiv_eq_ediv_of_dvd (gcd_dvd_num _ _)

/-- when a product of two is too great -/
theorem over_div (x y : Nat) (hy : 0 < y) (b : Nat) : x > b / y ↔ x * y > b := by
  rw [gt_iff_lt, gt_iff_lt, Nat.div_lt_iff_lt_mul hy]

theorem product_ev (p q : Rat) (hp : p.num.natAbs ≤ 1000000000000) (hpd : p.den ≤ 1000000) (hq : q.num.natAbs ≤ 1000000000000) (hqd : q.den ≤ 1000000000000) :
    Ev (fun k => num_product.f k p.num p.den q.num q.den) (res (p * q)) := by
  obtain ⟨-, -, -, -, hnum, hden, na, ma, nb, mb, db, eb, dp, ep⟩ := cross p q
  have p1 := p.den_pos
  have p2 := q.den_pos
  unfold num_product.f
  refine Ev.bind0 (size_eq (by unfold I64; omega)) ?_
  rw [u64n (x := q.den) (by omega), u64n (x := p.den) (by omega)]
  refine Ev.bind (gcd_ev p.num.natAbs q.den) ?_
  refine Ev.bind0 (size_eq (by unfold I64; omega)) ?_
  refine Ev.bind (gcd_ev q.num.natAbs p.den) ?_
  have hg : 0 < Nat.gcd p.num.natAbs q.den := Nat.gcd_pos_of_pos_right _ p2
  have hh : 0 < Nat.gcd q.num.natAbs p.den := Nat.gcd_pos_of_pos_right _ p1
  have hg2 : Nat.gcd p.num.natAbs q.den ≤ q.den := Nat.le_of_dvd p2 (Nat.gcd_dvd_right _ _)
  have hh2 : Nat.gcd q.num.natAbs p.den ≤ p.den := Nat.le_of_dvd p1 (Nat.gcd_dvd_right _ _)
  rw [w64 (x := ((Nat.gcd p.num.natAbs q.den : Nat) : Int)) (by unfold I64; omega), w64 (x := ((Nat.gcd q.num.natAbs p.den : Nat) : Int)) (by unfold I64; omega)]
  rw [tdiv_gcd, tdiv_gcd]
  rw [show Int.tdiv (p.den : Int) ((Nat.gcd q.num.natAbs p.den : Nat) : Int) = ((p.den / Nat.gcd q.num.natAbs p.den : Nat) : Int) from (Int.ofNat_tdiv _ _).symm, show Int.tdiv (q.den : Int) ((Nat.gcd p.num.natAbs q.den : Nat) : Int) = ((q.den / Nat.gcd p.num.natAbs q.den : Nat) : Int) from (Int.ofNat_tdiv _ _).symm]
  generalize hG : ((Nat.gcd p.num.natAbs q.den : Nat) : Int) = G at *
  generalize hH : ((Nat.gcd q.num.natAbs p.den : Nat) : Int) = H at *
  generalize p.num / G = n at *
  generalize q.num / H = m at *
  generalize p.den / Nat.gcd q.num.natAbs p.den = d at *
  generalize q.den / Nat.gcd p.num.natAbs q.den = e at *
  have de1 : d * e ≤ 1000000 * 1000000000000 := Nat.mul_le_mul (by omega) (by omega)
  rw [w64 (x := n) (by unfold I64; omega), w64 (x := m) (by unfold I64; omega), w64 (x := (d : Int)) (by unfold I64; omega), w64 (x := (e : Int)) (by unfold I64; omega)]
  rw [← Int.natCast_mul, w64 (x := ((d * e : Nat) : Int)) (by unfold I64; omega)]
  have hfit : Fits (p * q) ↔ n.natAbs * m.natAbs ≤ 1000000000000 ∧ d * e ≤ 1000000 := by
    unfold Fits; rw [hnum, hden, Int.natAbs_mul]
  have fail : ∀ K : Nat → Option (Int × Int × Bool), ¬ Fits (p * q) → (∀ k, K (k + 1) = some (0, 0, false)) → Ev K (res (p * q)) := by
    intro K h hK
    refine Ev.step (f := fun _ => some (0, 0, false)) hK ?_
    unfold res; rw [if_neg h]; exact Ev.now _
  have good : n.natAbs * m.natAbs ≤ 1000000000000 → Ev (fun k => num_product.j0 k n d m e (decide (((d * e : Nat) : Int) > 1000000))) (res (p * q)) := by
    intro hle
    by_cases hde : d * e ≤ 1000000
    · have hF := hfit.2 ⟨hle, hde⟩
      have hab : (n * m).natAbs ≤ 1000000000000 := by rw [Int.natAbs_mul]; exact hle
      refine Ev.step (f := fun _ => some (n * m, ((d * e : Nat) : Int), true)) (fun k => ?_) ?_
      · simp only [num_product.j0]
        rw [if_neg (by rw [decide_eq_true_iff]; omega), ← Int.natCast_mul, w64 (x := ((d * e : Nat) : Int)) (by unfold I64; omega), w64 (x := n * m) (by unfold I64; omega)]
        by_cases h0 : n * m = 0
        · rw [if_pos h0, h0]
          have hz : p * q = 0 := by rw [← Rat.num_eq_zero, hnum, h0]
          have : d * e = 1 := by rw [← hden, hz]; rfl
          rw [this]; rfl
        · rw [if_neg h0]
      · unfold res; rw [if_pos hF, hnum, hden]; exact Ev.now _
    · refine fail _ (fun h => hde (hfit.1 h).2) (fun k => ?_)
      simp only [num_product.j0]
      rw [if_pos (by rw [decide_eq_true_iff]; omega)]
  refine Ev.ite_neg (by omega) (Ev.ite_neg (by omega) ?_)
  by_cases hm : m = 0
  · refine Ev.ite_pos hm (good ?_)
    rw [hm]; simp
  · refine Ev.ite_neg hm ?_
    refine Ev.bind0 (size_eq (by unfold I64; omega)) (Ev.bind0 (size_eq (by unfold I64; omega)) ?_)
    refine Ev.ite_neg (by omega) ?_
    have ed : IntKind.u64.wrap (Int.tdiv 1000000000000 (m.natAbs : Int)) = ((1000000000000 / m.natAbs : Nat) : Int) := by
      rw [show (1000000000000 : Int) = ((1000000000000 : Nat) : Int) from rfl, ← Int.ofNat_tdiv]
      exact u64n (Nat.le_trans (Nat.div_le_self _ _) (by omega))
    rw [ed]
    have hov := over_div n.natAbs m.natAbs (by omega) 1000000000000
    by_cases hc : n.natAbs > 1000000000000 / m.natAbs
    · refine Ev.ite_pos (by omega) ?_
      refine fail _ (fun h => ?_) (fun k => ?_)
      · have := hov.1 hc; have := (hfit.1 h).1; omega
      · simp only [num_product.j0, if_true]
    · refine Ev.ite_neg (by omega) (good ?_)
      have := fun h => hc (hov.2 h)
      omega

theorem mul_ev {n d m e : Int} (hn : I64 n) (hd : I64 d) (hm : I64 m) (he : I64 e) : Ev (fun k => num_Mul.f k n d m e) (res (rat n d * rat m e)) := by
  unfold num_Mul.f
  refine Ev.bind (taken_ev hn hd) (Ev.bind (taken_ev hm he) ?_)
  have hp := fits_rat n d
  have hq := fits_rat m e
  unfold Fits at hp hq
  refine Ev.bind (product_ev _ _ (by omega) (by omega) (by omega) (by omega)) (Ev.const ?_)
  rw [res_eta]
end Go.Proofs.YtlcjfabbnclalaaDoor.F
