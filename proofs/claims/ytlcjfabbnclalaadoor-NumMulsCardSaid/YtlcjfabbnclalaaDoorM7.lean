/-
Quotients of the program, products and quotients of the reference, as rationals.
-/
import Derived.Test.YtlcjfabbnclalaaDoorF23
import Derived.Test.YtlcjfabbnclalaaDoorF24
import Derived.Test.YtlcjfabbnclalaaDoorM6
import Derived.Test.YtlcjfabbnclalaaDoorM4
namespace Go.Proofs.YtlcjfabbnclalaaDoor.F
open Go.RowKit Go.Proofs.YtlcjfabbnclalaaDoorW.PrintWords NumM
set_option linter.unusedVariables false
set_option linter.unusedSimpArgs false

theorem mul_sign {n m : Int} (hn : n ≠ 0) (hm : m ≠ 0) : (n * m < 0 ↔ ((decide (n < 0)) != (decide (m < 0))) = true) := by
  rcases Int.lt_or_lt_of_ne hn with h1 | h1 <;> rcases Int.lt_or_lt_of_ne hm with h2 | h2
  · have := Int.mul_pos_of_neg_of_neg h1 h2
    simp [h1, h2]; omega
  · have := Int.mul_neg_of_neg_of_pos h1 h2
    have h2' : ¬ m < 0 := by omega
    simp [h1, h2', this]
  · have := Int.mul_neg_of_pos_of_neg h1 h2
    have h1' : ¬ n < 0 := by omega
    simp [h1', h2, this]
  · have := Int.mul_pos h1 h2
    have h1' : ¬ n < 0 := by omega
    have h2' : ¬ m < 0 := by omega
    simp [h1', h2']; omega

theorem ediv_gcd_sign (n : Int) (d : Nat) (hd : 0 < d) : (n / ((Nat.gcd n.natAbs d : Nat) : Int) < 0 ↔ n < 0) ∧ (n / ((Nat.gcd n.natAbs d : Nat) : Int) = 0 ↔ n = 0) := by
  have hg : 0 < Nat.gcd n.natAbs d := Nat.gcd_pos_of_pos_right _ hd
  obtain ⟨c, hc⟩ := gcd_dvd_num n d
  generalize hG : ((Nat.gcd n.natAbs d : Nat) : Int) = G at *
  have hG0 : 0 < G := by omega
  rw [hc, Int.mul_ediv_cancel_left _ (by omega)]
  refine ⟨⟨fun h => Int.mul_neg_of_pos_of_neg hG0 h, fun h => ?_⟩, ⟨fun h => by rw [h, Int.mul_zero], fun h => ?_⟩⟩
  · rcases Int.lt_or_le c 0 with h' | h'
    · exact h'
    · have := Int.mul_nonneg (Int.le_of_lt hG0) h'; omega
  · rcases Int.mul_eq_zero.1 h with h' | h'
    · omega
    · exact h'

/-- the end of the reference's products and quotients -/
theorem tail_ev (p q : Rat) (hp0 : p.num ≠ 0) (hq0 : q.num ≠ 0) (hp : p.num.natAbs ≤ 1000000000000) (hpd : p.den ≤ 1000000) (hq : q.num.natAbs ≤ 1000000000000) (hqd : q.den ≤ 1000000000000) (minus : Bool) (hmin : minus = ((decide (p.num < 0)) != (decide (q.num < 0)))) (n1 n2 d1 d2 : Nat) (h1 : n1 = p.num.natAbs / Nat.gcd p.num.natAbs q.den) (h2 : n2 = q.num.natAbs / Nat.gcd q.num.natAbs p.den) (h3 : d1 = p.den / Nat.gcd q.num.natAbs p.den) (h4 : d2 = q.den / Nat.gcd p.num.natAbs q.den) :
    Ev (fun k => if (n2 : Int) = 0 then none else if (n1 : Int) > IntKind.u64.wrap (Int.tdiv 1000000000000 (n2 : Int)) then some (0, 0, false) else if (d2 : Int) = 0 then none else if (d1 : Int) > IntKind.u64.wrap (Int.tdiv 1000000 (d2 : Int)) then some (0, 0, false) else (whittleref1_made.f k minus (IntKind.u64.wrap ((n1 : Int) * (n2 : Int))) (IntKind.u64.wrap ((d1 : Int) * (d2 : Int)))).bind fun b => some (b.1, b.2.1, b.2.2)) (res (p * q)) := by
  obtain ⟨-, -, -, -, hnum, hden, na, ma, nb, mb, db, eb, dp, ep⟩ := cross p q
  have s1 := ediv_gcd_sign p.num q.den q.den_pos
  have s2 := ediv_gcd_sign q.num p.den p.den_pos
  rw [← h1] at na
  rw [← h2] at ma
  rw [← h3] at hden db dp
  rw [← h4] at hden eb ep
  generalize p.num / ((Nat.gcd p.num.natAbs q.den : Nat) : Int) = n at *
  generalize q.num / ((Nat.gcd q.num.natAbs p.den : Nat) : Int) = m at *
  have n0 : n ≠ 0 := fun h => hp0 (s1.2.1 h)
  have m0 : m ≠ 0 := fun h => hq0 (s2.2.1 h)
  have hfit : Fits (p * q) ↔ n1 * n2 ≤ 1000000000000 ∧ d1 * d2 ≤ 1000000 := by
    unfold Fits; rw [hnum, hden, Int.natAbs_mul, na, ma]
  have hcop : Nat.gcd (n1 * n2) (d1 * d2) = 1 := by
    have := (p * q).reduced
    rw [hnum, hden, Int.natAbs_mul, na, ma] at this
    exact this
  have nn : 0 < n2 := by omega
  have e1 : IntKind.u64.wrap (Int.tdiv 1000000000000 (n2 : Int)) = ((1000000000000 / n2 : Nat) : Int) := by
    rw [show (1000000000000 : Int) = ((1000000000000 : Nat) : Int) from rfl, ← Int.ofNat_tdiv]
    exact u64n (Nat.le_trans (Nat.div_le_self _ _) (by omega))
  have e2 : IntKind.u64.wrap (Int.tdiv 1000000 (d2 : Int)) = ((1000000 / d2 : Nat) : Int) := by
    rw [show (1000000 : Int) = ((1000000 : Nat) : Int) from rfl, ← Int.ofNat_tdiv]
    exact u64n (Nat.le_trans (Nat.div_le_self _ _) (by omega))
  rw [e1, e2]
  have o1 := over_div n1 n2 nn 1000000000000
  have o2 := over_div d1 d2 ep 1000000
  refine Ev.ite_neg (by omega) ?_
  have fail : ¬ Fits (p * q) → Ev (fun _ => some ((0 : Int), (0 : Int), false)) (res (p * q)) := by
    intro h; unfold res; rw [if_neg h]; exact Ev.now _
  by_cases c1 : n1 > 1000000000000 / n2
  · refine Ev.ite_pos (by omega) (fail fun h => ?_)
    have := o1.1 c1; have := (hfit.1 h).1; omega
  · refine Ev.ite_neg (by omega) (Ev.ite_neg (by omega) ?_)
    by_cases c2 : d1 > 1000000 / d2
    · refine Ev.ite_pos (by omega) (fail fun h => ?_)
      have := o2.1 c2; have := (hfit.1 h).2; omega
    · refine Ev.ite_neg (by omega) ?_
      have l1 : n1 * n2 ≤ 1000000000000 := Nat.not_lt.1 fun h => c1 (o1.2 h)
      have l2 : d1 * d2 ≤ 1000000 := Nat.not_lt.1 fun h => c2 (o2.2 h)
      rw [← Int.natCast_mul, ← Int.natCast_mul, u64n (x := n1 * n2) (by omega), u64n (x := d1 * d2) (by omega)]
      refine Ev.bind (made_ev minus (n1 * n2) (d1 * d2) (Nat.mul_pos dp ep) (by omega) (by omega)) (Ev.const ?_)
      rw [hcop, Nat.div_one, Nat.div_one, if_pos ⟨l1, l2⟩]
      unfold res
      rw [if_pos (hfit.2 ⟨l1, l2⟩), hnum, hden]
      have hs := mul_sign n0 m0
      have hab : (n * m).natAbs = n1 * n2 := by rw [Int.natAbs_mul, na, ma]
      have hm' : (minus = true ↔ n * m < 0) := by
        rw [hs, hmin, Bool.eq_iff_iff.2 (show decide (p.num < 0) = true ↔ decide (n < 0) = true by simp [s1.1]), Bool.eq_iff_iff.2 (show decide (q.num < 0) = true ↔ decide (m < 0) = true by simp [s2.1])]
      have hval : (if minus = true then -((n1 * n2 : Nat) : Int) else ((n1 * n2 : Nat) : Int)) = n * m := by
        by_cases hc : minus = true
        · rw [if_pos hc]; have := hm'.1 hc; omega
        · rw [if_neg hc]; have : ¬ n * m < 0 := fun h => hc (hm'.2 h); omega
      rw [hval]

theorem mulR_ev {n d m e : Int} (hn : I64 n) (hd : I64 d) (hm : I64 m) (he : I64 e) : Ev (fun k => whittleref1_Mul.f k n d m e) (res (rat n d * rat m e)) := by
  unfold whittleref1_Mul.f
  refine Ev.bind (ofR_ev hn hd) (Ev.bind (ofR_ev hm he) ?_)
  have hp := fits_rat n d
  have hq := fits_rat m e
  generalize rat n d = p at *
  generalize rat m e = q at *
  unfold Fits at hp hq
  have p1 := p.den_pos
  have q1 := q.den_pos
  have zero : p.num = 0 ∨ q.num = 0 → Ev (fun k => whittleref1_Mul.j0 k true p.num p.den q.num q.den) (res (p * q)) := by
    intro h
    have : p * q = 0 := by
      rcases h with h | h
      · rw [Rat.num_eq_zero.1 h, Rat.zero_mul]
      · rw [Rat.num_eq_zero.1 h, Rat.mul_zero]
    rw [this]
    refine Ev.step (f := fun _ => some (0, 1, true)) (fun k => by simp only [whittleref1_Mul.j0, if_true]) ?_
    exact Ev.now _
  by_cases hp0 : p.num = 0
  · exact Ev.ite_pos hp0 (zero (Or.inl hp0))
  · refine Ev.ite_neg hp0 ?_
    by_cases hq0 : q.num = 0
    · rw [show (q.num == 0) = true by simp [hq0]]; exact zero (Or.inr hq0)
    · rw [show (q.num == 0) = false by simp [hq0]]
      refine Ev.step (fun k => by simp only [whittleref1_Mul.j0]; exact if_neg (by simp)) ?_
      refine Ev.bind0 (far_eq (by unfold I64; omega)) (Ev.bind0 (far_eq (by unfold I64; omega)) ?_)
      rw [u64n (x := q.den) (by omega), u64n (x := p.den) (by omega)]
      refine Ev.bind (gcdR_ev p.num.natAbs q.den) ?_
      have hg : 0 < Nat.gcd p.num.natAbs q.den := Nat.gcd_pos_of_pos_right _ q1
      have hh : 0 < Nat.gcd q.num.natAbs p.den := Nat.gcd_pos_of_pos_right _ p1
      refine Ev.ite_neg (by omega) (Ev.bind (gcdR_ev q.num.natAbs p.den) (Ev.ite_neg (by omega) ?_))
      rw [← Int.ofNat_tdiv, ← Int.ofNat_tdiv, ← Int.ofNat_tdiv, ← Int.ofNat_tdiv, u64n (Nat.le_trans (Nat.div_le_self q.num.natAbs _) (by omega)), u64n (Nat.le_trans (Nat.div_le_self p.num.natAbs _) (by omega)), u64n (Nat.le_trans (Nat.div_le_self q.den _) (by omega)), u64n (Nat.le_trans (Nat.div_le_self p.den _) (by omega))]
      exact tail_ev p q hp0 hq0 (by omega) (by omega) (by omega) (by omega) _ rfl _ _ _ _ rfl rfl rfl rfl

theorem div_ev {n d m e : Int} (hn : I64 n) (hd : I64 d) (hm : I64 m) (he : I64 e) : Ev (fun k => num_Div.f k n d m e) (if rat m e = 0 then (0, 0, false) else res (rat n d / rat m e)) := by
  unfold num_Div.f
  refine Ev.bind (taken_ev hn hd) (Ev.bind (taken_ev hm he) ?_)
  have hp := fits_rat n d
  have hq := fits_rat m e
  generalize rat n d = p at *
  generalize rat m e = q at *
  unfold Fits at hp hq
  by_cases hq0 : q.num = 0
  · rw [if_pos (Rat.num_eq_zero.1 hq0)]
    exact Ev.ite_pos hq0 (Ev.now _)
  · rw [if_neg (fun h => hq0 (Rat.num_eq_zero.2 h)), Rat.div_def]
    refine Ev.ite_neg hq0 ?_
    have i1 := Rat.num_inv q
    have i2 := Rat.den_inv q
    rw [if_neg hq0] at i2
    have q1 := q.den_pos
    by_cases hneg : q.num < 0
    · rw [Int.sign_eq_neg_one_of_neg hneg] at i1
      refine Ev.ite_pos hneg ?_
      rw [w64 (x := -(q.den : Int)) (by unfold I64; omega), w64 (x := -q.num) (by unfold I64; omega)]
      rw [show -(q.den : Int) = q⁻¹.num by omega, show -q.num = ((q⁻¹.den : Nat) : Int) by omega]
      refine Ev.bind (product_ev p q⁻¹ (by omega) (by omega) (by omega) (by omega)) (Ev.const ?_)
      rw [res_eta]
    · rw [Int.sign_eq_one_of_pos (by omega)] at i1
      refine Ev.ite_neg hneg ?_
      rw [show (q.den : Int) = q⁻¹.num by omega, show q.num = ((q⁻¹.den : Nat) : Int) by omega]
      refine Ev.bind (product_ev p q⁻¹ (by omega) (by omega) (by omega) (by omega)) (Ev.const ?_)
      rw [res_eta]

theorem divR_ev {n d m e : Int} (hn : I64 n) (hd : I64 d) (hm : I64 m) (he : I64 e) : Ev (fun k => whittleref1_Div.f k n d m e) (if rat m e = 0 then (0, 0, false) else res (rat n d / rat m e)) := by
  unfold whittleref1_Div.f
  refine Ev.bind (ofR_ev hn hd) (Ev.bind (ofR_ev hm he) ?_)
  have hp := fits_rat n d
  have hq := fits_rat m e
  generalize rat n d = p at *
  generalize rat m e = q at *
  unfold Fits at hp hq
  by_cases hq0 : q.num = 0
  · rw [if_pos (Rat.num_eq_zero.1 hq0)]
    exact Ev.ite_pos hq0 (Ev.now _)
  · rw [if_neg (fun h => hq0 (Rat.num_eq_zero.2 h)), Rat.div_def]
    refine Ev.ite_neg hq0 ?_
    by_cases hp0 : p.num = 0
    · refine Ev.ite_pos hp0 (Ev.const ?_)
      have : p = 0 := Rat.num_eq_zero.1 hp0
      rw [this, Rat.zero_mul]; rfl
    · refine Ev.ite_neg hp0 ?_
      have i1 := Rat.num_inv q
      have i2 := Rat.den_inv q
      rw [if_neg hq0] at i2
      have q1 := q.den_pos
      have p1 := p.den_pos
      have i3 : (q⁻¹).num.natAbs = q.den := by
        rw [i1, Int.natAbs_mul, Int.natAbs_natCast]
        rcases Int.lt_or_lt_of_ne hq0 with h | h
        · rw [Int.sign_eq_neg_one_of_neg h]; simp
        · rw [Int.sign_eq_one_of_pos h]; simp
      have i4 : (q⁻¹).num < 0 ↔ q.num < 0 := by
        rcases Int.lt_or_lt_of_ne hq0 with h | h
        · rw [i1, Int.sign_eq_neg_one_of_neg h]; omega
        · rw [i1, Int.sign_eq_one_of_pos h]; omega
      refine Ev.bind0 (far_eq (by unfold I64; omega)) (Ev.bind0 (far_eq (by unfold I64; omega)) ?_)
      rw [u64n (x := q.den) (by omega), u64n (x := p.den) (by omega)]
      refine Ev.bind (gcdR_ev p.num.natAbs q.num.natAbs) ?_
      have hg : 0 < Nat.gcd p.num.natAbs q.num.natAbs := Nat.gcd_pos_of_pos_right _ (by omega)
      have hh : 0 < Nat.gcd q.den p.den := Nat.gcd_pos_of_pos_right _ p1
      refine Ev.ite_neg (by omega) (Ev.bind (gcdR_ev q.den p.den) (Ev.ite_neg (by omega) ?_))
      rw [← Int.ofNat_tdiv, ← Int.ofNat_tdiv, ← Int.ofNat_tdiv, ← Int.ofNat_tdiv, u64n (Nat.le_trans (Nat.div_le_self q.num.natAbs _) (by omega)), u64n (Nat.le_trans (Nat.div_le_self p.num.natAbs _) (by omega)), u64n (Nat.le_trans (Nat.div_le_self q.den _) (by omega)), u64n (Nat.le_trans (Nat.div_le_self p.den _) (by omega))]
      exact tail_ev p q⁻¹ hp0 (by omega) (by omega) (by omega) (by omega) (by omega) _ (by rw [Bool.eq_iff_iff.2 (show decide ((q⁻¹).num < 0) = true ↔ decide (q.num < 0) = true by rw [decide_eq_true_iff, decide_eq_true_iff]; exact i4)]) _ _ _ _ (by rw [i2]) (by rw [i3]) (by rw [i3]) (by rw [i2])
end Go.Proofs.YtlcjfabbnclalaaDoor.F
