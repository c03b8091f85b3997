/-
The same of the reference's numbers.
-/
import Derived.Test.YtmakkdlkgfgaoaaGreatDoorF106
import Derived.Test.YtmakkdlkgfgaoaaGreatDoorF107
import Derived.Test.YtmakkdlkgfgaoaaGreatDoorP1
set_option linter.unusedVariables false
set_option linter.unusedSimpArgs false
namespace Go.Proofs.YtmakkdlkgfgaoaaGreatDoor.F
section
open Go.RowKit Go.Proofs.YtmakkdlkgfgaoaaGreatDoorW.PrintWords NumM
theorem far_eq {a : Int} (h : I64 a) : whittleref1_far.f a = some (a.natAbs : Int) := by
  unfold whittleref1_far.f I64 at *
  simp only [IntKind.wrap_u64]
  unfold wrap64
  split
  · congr 1; omega
  · congr 1; omega
theorem gcdR_ev (a b : Nat) : Ev (fun k => whittleref1_gcd.f k a b) (Nat.gcd a b : Int) := by
  show Ev (fun k => whittleref1_gcd.l0 k a b) _
  induction b using Nat.strongRecOn generalizing a with
  | ind b ih =>
    by_cases hb : b = 0
    · subst hb
      refine Ev.step (f := fun _ => some (a : Int)) (fun k => ?_) (by rw [Nat.gcd_zero_right]; exact Ev.now _)
      simp only [whittleref1_gcd.l0]
      rw [if_pos (by simp)]
    · refine Ev.step (f := fun k => whittleref1_gcd.l0 k b ((a % b : Nat) : Int)) (fun k => ?_) ?_
      · simp only [whittleref1_gcd.l0]
        rw [if_neg (by omega), Int.ofNat_tmod]
      · have := ih (a % b) (Nat.mod_lt _ (by omega)) b
        rw [show Nat.gcd a b = Nat.gcd b (a % b) by rw [Nat.gcd_comm a b, Nat.gcd_rec b a, Nat.gcd_comm]]
        exact this
theorem made_ev (minus : Bool) (n d : Nat) (hd : 0 < d) (hn : n ≤ 18446744073709551615) (hd' : d ≤ 18446744073709551615) :
    Ev (fun k => whittleref1_made.f k minus n d) (if n / Nat.gcd n d ≤ 1000000000000 ∧ d / Nat.gcd n d ≤ 1000000 then ((if minus then -((n / Nat.gcd n d : Nat) : Int) else ((n / Nat.gcd n d : Nat) : Int)), ((d / Nat.gcd n d : Nat) : Int), true) else (0, 0, false)) := by
  unfold whittleref1_made.f
  refine Ev.bind (gcdR_ev n d) ?_
  have hg : 0 < Nat.gcd n d := Nat.gcd_pos_of_pos_right _ hd
  generalize hgg : Nat.gcd n d = g at *
  have q1 : n / g ≤ n := Nat.div_le_self _ _
  have q2 : d / g ≤ d := Nat.div_le_self _ _
  have e1 : IntKind.u64.wrap (Int.tdiv (n : Int) (g : Int)) = ((n / g : Nat) : Int) := by
    rw [← Int.ofNat_tdiv]; exact u64n (Nat.le_trans (Nat.div_le_self _ _) (by omega))
  have e2 : IntKind.u64.wrap (Int.tdiv (d : Int) (g : Int)) = ((d / g : Nat) : Int) := by
    rw [← Int.ofNat_tdiv]; exact u64n (Nat.le_trans (Nat.div_le_self _ _) (by omega))
  simp only [e1, e2]
  generalize n / g = x at *
  generalize d / g = y at *
  refine Ev.ite_neg (by omega) ?_
  by_cases hx : x > 1000000000000
  · refine Ev.ite_pos (by omega) (Ev.step (f := fun _ => some (0, 0, false)) (fun k => ?_) ?_)
    · simp only [whittleref1_made.j0, if_true]
    · rw [if_neg (by omega)]; exact Ev.now _
  · refine Ev.ite_neg (by omega) ?_
    by_cases hy : y > 1000000
    · refine Ev.step (f := fun _ => some (0, 0, false)) (fun k => ?_) ?_
      · simp only [whittleref1_made.j0]; rw [if_pos (by rw [decide_eq_true_iff]; omega)]
      · rw [if_neg (by omega)]; exact Ev.now _
    · rw [if_pos (by omega)]
      refine Ev.step (f := fun _ => some ((if minus then -(x : Int) else (x : Int)), (y : Int), true)) (fun k => ?_) (Ev.now _)
      simp only [whittleref1_made.j0]
      rw [if_neg (by rw [decide_eq_true_iff]; omega)]
      cases minus
      · rw [if_neg (by simp), w64 (by unfold I64; omega), w64 (by unfold I64; omega)]; simp
      · rw [if_pos rfl, w64 (x := (x : Int)) (by unfold I64; omega), w64 (by unfold I64; omega), w64 (by unfold I64; omega)]; simp
theorem makeR_ev {n d : Int} (hn : I64 n) (hd : I64 d) : Ev (fun k => whittleref1_Make.f k n d) (mk n d) := by
  unfold whittleref1_Make.f mk
  by_cases h0 : d = 0
  · rw [if_pos h0]
    exact Ev.ite_pos h0 (Ev.now _)
  · rw [if_neg h0]
    refine Ev.ite_neg h0 ?_
    refine Ev.bind0 (far_eq hn) (Ev.bind0 (far_eq hd) ?_)
    unfold I64 at *
    refine Ev.bind (made_ev _ n.natAbs d.natAbs (by omega) (by omega) (by omega)) ?_
    rw [res_divInt h0]
    refine Ev.const ?_
    simp only [bne_iff_ne, ne_eq]
end
end Go.Proofs.YtmakkdlkgfgaoaaGreatDoor.F
namespace Go.Proofs.YtmakkdlkgfgaoaaGreatDoor.F
section
open Go.RowKit Go.Proofs.YtmakkdlkgfgaoaaGreatDoorW.PrintWords NumM
theorem rightR_ev {n d : Int} (hn : I64 n) (hd : I64 d) : Ev (fun k => whittleref1_Right.f k n d) (decide (RightP n d)) := by
  have key : ∀ x : Bool, (x = true → ¬ RightP n d) → (x = false → 1 ≤ d ∧ d ≤ 1000000 ∧ -1000000000000 ≤ n ∧ n ≤ 1000000000000) → Ev (fun k => whittleref1_Right.j0 k x n d) (decide (RightP n d)) := by
    intro x h1 h2
    cases x with
    | true =>
      refine Ev.step (f := fun _ => some false) (fun k => by simp only [whittleref1_Right.j0, if_true]) ?_
      rw [decide_eq_false (h1 rfl)]; exact Ev.now _
    | false =>
      obtain ⟨b1, b2, b3, b4⟩ := h2 rfl
      refine Ev.step (fun k => by simp only [whittleref1_Right.j0]; exact if_neg (by simp)) ?_
      refine Ev.bind0 (far_eq hn) ?_
      have e : IntKind.u64.wrap d = ((d.toNat : Nat) : Int) := by rw [u64 (by omega) (by omega)]; omega
      rw [e]
      refine Ev.bind (gcdR_ev n.natAbs d.toNat) (Ev.const ?_)
      congr 1
      rw [Bool.eq_iff_iff, beq_iff_eq, decide_eq_true_iff]
      unfold RightP
      omega
  unfold whittleref1_Right.f
  by_cases c1 : d < 1
  · exact Ev.ite_pos c1 (key true (fun _ h => by unfold RightP at h; omega) (fun h => by cases h))
  · refine Ev.ite_neg c1 ?_
    by_cases c2 : d > 1000000
    · exact Ev.ite_pos c2 (key true (fun _ h => by unfold RightP at h; omega) (fun h => by cases h))
    · refine Ev.ite_neg c2 ?_
      by_cases c3 : n < -1000000000000
      · exact Ev.ite_pos c3 (key true (fun _ h => by unfold RightP at h; omega) (fun h => by cases h))
      · refine Ev.ite_neg c3 (key _ (fun h0 h => ?_) (fun h => ?_))
        · rw [decide_eq_true_iff] at h0; unfold RightP at h; omega
        · have := of_decide_eq_false h; omega
theorem ofR_ev {n d : Int} (hn : I64 n) (hd : I64 d) : Ev (fun k => whittleref1_Of.f k n d) ((rat n d).num, ((rat n d).den : Int)) := by
  unfold whittleref1_Of.f
  refine Ev.bind (rightR_ev hn hd) ?_
  by_cases h : RightP n d
  · rw [decide_eq_true h]
    refine Ev.ite_pos rfl (Ev.const ?_)
    have := rat_right h
    rw [this.1, this.2]
    obtain ⟨_, _, h3, _⟩ := h
    rw [show ((d.toNat : Nat) : Int) = d by omega]
  · rw [decide_eq_false h]
    refine Ev.ite_neg (by simp) (Ev.const ?_)
    rw [rat_wrong h]; rfl
theorem cmpR_ev {n d m e : Int} (hn : I64 n) (hd : I64 d) (hm : I64 m) (he : I64 e) : Ev (fun k => whittleref1_Cmp.f k n d m e) (cmpQ (rat n d) (rat m e)) := by
  unfold whittleref1_Cmp.f
  refine Ev.bind (ofR_ev hn hd) (Ev.bind (ofR_ev hm he) ?_)
  have hp := fits_rat n d
  have hq := fits_rat m e
  generalize rat n d = p at *
  generalize rat m e = q at *
  obtain ⟨h1, h2⟩ := cmp_parts p q hp hq
  simp only [w64 h1, w64 h2, cmp_lt, gt_iff_lt]
  refine Ev.const ?_
  unfold cmpQ
  split
  · rfl
  · split <;> rfl
end
end Go.Proofs.YtmakkdlkgfgaoaaGreatDoor.F
namespace Go.Proofs.YtmakkdlkgfgaoaaGreatDoor.F
section
open Go.RowKit Go.Proofs.YtmakkdlkgfgaoaaGreatDoorW.PrintWords NumM
theorem negR_ev {n d : Int} (hn : I64 n) (hd : I64 d) : Ev (fun k => whittleref1_Neg.f k n d) (nd (-(rat n d))) := by
  unfold whittleref1_Neg.f
  refine Ev.bind (ofR_ev hn hd) (Ev.const ?_)
  have h := fits_bounds (fits_rat n d)
  rw [w64 (x := -(rat n d).num) (by unfold I64; omega)]
  rfl
theorem addR_ev {n d m e : Int} (hn : I64 n) (hd : I64 d) (hm : I64 m) (he : I64 e) : Ev (fun k => whittleref1_Add.f k n d m e) (res (rat n d + rat m e)) := by
  unfold whittleref1_Add.f
  refine Ev.bind (ofR_ev hn hd) (Ev.bind (ofR_ev hm he) ?_)
  have hp := fits_rat n d
  have hq := fits_rat m e
  generalize rat n d = p at *
  generalize rat m e = q at *
  obtain ⟨h1, h2, h3, h4, h5⟩ := add_parts p q hp hq
  simp only [w64 h1, w64 h2, w64 h3, w64 h4]
  refine Ev.bind (makeR_ev h3 h4) (Ev.const ?_)
  rw [res_eta, add_formula]
  unfold mk
  rw [if_neg h5]
theorem subR_ev {n d m e : Int} (hn : I64 n) (hd : I64 d) (hm : I64 m) (he : I64 e) : Ev (fun k => whittleref1_Sub.f k n d m e) (res (rat n d - rat m e)) := by
  unfold whittleref1_Sub.f
  refine Ev.bind (negR_ev hm he) ?_
  have hf := fits_neg (fits_rat m e)
  refine Ev.bind (addR_ev hn hd (i64_num hf) (i64_den hf)) (Ev.const ?_)
  rw [res_eta, rat_nd hf, Rat.sub_eq_add_neg]
end
end Go.Proofs.YtmakkdlkgfgaoaaGreatDoor.F
namespace Go.Proofs.YtmakkdlkgfgaoaaGreatDoor.F
section
open Go.RowKit Go.Proofs.YtmakkdlkgfgaoaaGreatDoorW.PrintWords NumM
theorem mul_sign {n m : Int} (hn : n ≠ 0) (hm : m ≠ 0) : (n * m < 0 ↔ ((decide (n < 0)) != (decide (m < 0))) = true) := by
  rcases Int.lt_or_lt_of_ne hn with h1 | h1 <;> rcases Int.lt_or_lt_of_ne hm with h2 | h2
  · have := Int.mul_pos_of_neg_of_neg h1 h2
    simp [h1, h2]; omega
  · have := Int.mul_neg_of_neg_of_pos h1 h2
    have h2' : ¬ m < 0 := by omega
    simp [h1, h2', this]
  · have := Int.mul_neg_of_pos_of_neg h1 h2
    have h1' : ¬ n < 0 := by omega
    simp [h1', h2, this]
  · have := Int.mul_pos h1 h2
    have h1' : ¬ n < 0 := by omega
    have h2' : ¬ m < 0 := by omega
    simp [h1', h2']; omega
theorem ediv_gcd_sign (n : Int) (d : Nat) (hd : 0 < d) : (n / ((Nat.gcd n.natAbs d : Nat) : Int) < 0 ↔ n < 0) ∧ (n / ((Nat.gcd n.natAbs d : Nat) : Int) = 0 ↔ n = 0) := by
  have hg : 0 < Nat.gcd n.natAbs d := Nat.gcd_pos_of_pos_right _ hd
  obtain ⟨c, hc⟩ := gcd_dvd_num n d
  generalize hG : ((Nat.gcd n.natAbs d : Nat) : Int) = G at *
  have hG0 : 0 < G := by omega
  rw [hc, Int.mul_ediv_cancel_left _ (by omega)]
  refine ⟨⟨fun h => Int.mul_neg_of_pos_of_neg hG0 h, fun h => ?_⟩, ⟨fun h => by rw [h, Int.mul_zero], fun h => ?_⟩⟩
  · rcases Int.lt_or_le c 0 with h' | h'
    · exact h'
    · have := Int.mul_nonneg (Int.le_of_lt hG0) h'; omega
  · rcases Int.mul_eq_zero.1 h with h' | h'
    · omega
    · exact h'
/-- the end of the reference's products and quotients -/
theorem tail_ev (p q : Rat) (hp0 : p.num ≠ 0) (hq0 : q.num ≠ 0) (hp : p.num.natAbs ≤ 1000000000000) (hpd : p.den ≤ 1000000) (hq : q.num.natAbs ≤ 1000000000000) (hqd : q.den ≤ 1000000000000) (minus : Bool) (hmin : minus = ((decide (p.num < 0)) != (decide (q.num < 0)))) (n1 n2 d1 d2 : Nat) (h1 : n1 = p.num.natAbs / Nat.gcd p.num.natAbs q.den) (h2 : n2 = q.num.natAbs / Nat.gcd q.num.natAbs p.den) (h3 : d1 = p.den / Nat.gcd q.num.natAbs p.den) (h4 : d2 = q.den / Nat.gcd p.num.natAbs q.den) :
    Ev (fun k => if (n2 : Int) = 0 then none else if (n1 : Int) > IntKind.u64.wrap (Int.tdiv 1000000000000 (n2 : Int)) then some (0, 0, false) else if (d2 : Int) = 0 then none else if (d1 : Int) > IntKind.u64.wrap (Int.tdiv 1000000 (d2 : Int)) then some (0, 0, false) else (whittleref1_made.f k minus (IntKind.u64.wrap ((n1 : Int) * (n2 : Int))) (IntKind.u64.wrap ((d1 : Int) * (d2 : Int)))).bind fun b => some (b.1, b.2.1, b.2.2)) (res (p * q)) := by
  obtain ⟨-, -, -, -, hnum, hden, na, ma, nb, mb, db, eb, dp, ep⟩ := cross p q
  have s1 := ediv_gcd_sign p.num q.den q.den_pos
  have s2 := ediv_gcd_sign q.num p.den p.den_pos
  rw [← h1] at na
  rw [← h2] at ma
  rw [← h3] at hden db dp
  rw [← h4] at hden eb ep
  generalize p.num / ((Nat.gcd p.num.natAbs q.den : Nat) : Int) = n at *
  generalize q.num / ((Nat.gcd q.num.natAbs p.den : Nat) : Int) = m at *
  have n0 : n ≠ 0 := fun h => hp0 (s1.2.1 h)
  have m0 : m ≠ 0 := fun h => hq0 (s2.2.1 h)
  have hfit : Fits (p * q) ↔ n1 * n2 ≤ 1000000000000 ∧ d1 * d2 ≤ 1000000 := by
    unfold Fits; rw [hnum, hden, Int.natAbs_mul, na, ma]
  have hcop : Nat.gcd (n1 * n2) (d1 * d2) = 1 := by
    have := (p * q).reduced
    rw [hnum, hden, Int.natAbs_mul, na, ma] at this
    exact this
  have nn : 0 < n2 := by omega
  have e1 : IntKind.u64.wrap (Int.tdiv 1000000000000 (n2 : Int)) = ((1000000000000 / n2 : Nat) : Int) := by
    rw [show (1000000000000 : Int) = ((1000000000000 : Nat) : Int) from rfl, ← Int.ofNat_tdiv]
    exact u64n (Nat.le_trans (Nat.div_le_self _ _) (by omega))
  have e2 : IntKind.u64.wrap (Int.tdiv 1000000 (d2 : Int)) = ((1000000 / d2 : Nat) : Int) := by
    rw [show (1000000 : Int) = ((1000000 : Nat) : Int) from rfl, ← Int.ofNat_tdiv]
    exact u64n (Nat.le_trans (Nat.div_le_self _ _) (by omega))
  rw [e1, e2]
  have o1 := over_div n1 n2 nn 1000000000000
  have o2 := over_div d1 d2 ep 1000000
  refine Ev.ite_neg (by omega) ?_
  have fail : ¬ Fits (p * q) → Ev (fun _ => some ((0 : Int), (0 : Int), false)) (res (p * q)) := by
    intro h; unfold res; rw [if_neg h]; exact Ev.now _
  by_cases c1 : n1 > 1000000000000 / n2
  · refine Ev.ite_pos (by omega) (fail fun h => ?_)
    have := o1.1 c1; have := (hfit.1 h).1; omega
  · refine Ev.ite_neg (by omega) (Ev.ite_neg (by omega) ?_)
    by_cases c2 : d1 > 1000000 / d2
    · refine Ev.ite_pos (by omega) (fail fun h => ?_)
      have := o2.1 c2; have := (hfit.1 h).2; omega
    · refine Ev.ite_neg (by omega) ?_
      have l1 : n1 * n2 ≤ 1000000000000 := Nat.not_lt.1 fun h => c1 (o1.2 h)
      have l2 : d1 * d2 ≤ 1000000 := Nat.not_lt.1 fun h => c2 (o2.2 h)
      rw [← Int.natCast_mul, ← Int.natCast_mul, u64n (x := n1 * n2) (by omega), u64n (x := d1 * d2) (by omega)]
      refine Ev.bind (made_ev minus (n1 * n2) (d1 * d2) (Nat.mul_pos dp ep) (by omega) (by omega)) (Ev.const ?_)
      rw [hcop, Nat.div_one, Nat.div_one, if_pos ⟨l1, l2⟩]
      unfold res
      rw [if_pos (hfit.2 ⟨l1, l2⟩), hnum, hden]
      have hs := mul_sign n0 m0
      have hab : (n * m).natAbs = n1 * n2 := by rw [Int.natAbs_mul, na, ma]
      have hm' : (minus = true ↔ n * m < 0) := by
        rw [hs, hmin, Bool.eq_iff_iff.2 (show decide (p.num < 0) = true ↔ decide (n < 0) = true by simp [s1.1]), Bool.eq_iff_iff.2 (show decide (q.num < 0) = true ↔ decide (m < 0) = true by simp [s2.1])]
      have hval : (if minus = true then -((n1 * n2 : Nat) : Int) else ((n1 * n2 : Nat) : Int)) = n * m := by
        by_cases hc : minus = true
        · rw [if_pos hc]; have := hm'.1 hc; omega
        · rw [if_neg hc]; have : ¬ n * m < 0 := fun h => hc (hm'.2 h); omega
      rw [hval]
theorem mulR_ev {n d m e : Int} (hn : I64 n) (hd : I64 d) (hm : I64 m) (he : I64 e) : Ev (fun k => whittleref1_Mul.f k n d m e) (res (rat n d * rat m e)) := by
  unfold whittleref1_Mul.f
  refine Ev.bind (ofR_ev hn hd) (Ev.bind (ofR_ev hm he) ?_)
  have hp := fits_rat n d
  have hq := fits_rat m e
  generalize rat n d = p at *
  generalize rat m e = q at *
  unfold Fits at hp hq
  have p1 := p.den_pos
  have q1 := q.den_pos
  have zero : p.num = 0 ∨ q.num = 0 → Ev (fun k => whittleref1_Mul.j0 k true p.num p.den q.num q.den) (res (p * q)) := by
    intro h
    have : p * q = 0 := by
      rcases h with h | h
      · rw [Rat.num_eq_zero.1 h, Rat.zero_mul]
      · rw [Rat.num_eq_zero.1 h, Rat.mul_zero]
    rw [this]
    refine Ev.step (f := fun _ => some (0, 1, true)) (fun k => by simp only [whittleref1_Mul.j0, if_true]) ?_
    exact Ev.now _
  by_cases hp0 : p.num = 0
  · exact Ev.ite_pos hp0 (zero (Or.inl hp0))
  · refine Ev.ite_neg hp0 ?_
    by_cases hq0 : q.num = 0
    · rw [show (q.num == 0) = true by simp [hq0]]; exact zero (Or.inr hq0)
    · rw [show (q.num == 0) = false by simp [hq0]]
      refine Ev.step (fun k => by simp only [whittleref1_Mul.j0]; exact if_neg (by simp)) ?_
      refine Ev.bind0 (far_eq (by unfold I64; omega)) (Ev.bind0 (far_eq (by unfold I64; omega)) ?_)
      rw [u64n (x := q.den) (by omega), u64n (x := p.den) (by omega)]
      refine Ev.bind (gcdR_ev p.num.natAbs q.den) ?_
      have hg : 0 < Nat.gcd p.num.natAbs q.den := Nat.gcd_pos_of_pos_right _ q1
      have hh : 0 < Nat.gcd q.num.natAbs p.den := Nat.gcd_pos_of_pos_right _ p1
      refine Ev.ite_neg (by omega) (Ev.bind (gcdR_ev q.num.natAbs p.den) (Ev.ite_neg (by omega) ?_))
      rw [← Int.ofNat_tdiv, ← Int.ofNat_tdiv, ← Int.ofNat_tdiv, ← Int.ofNat_tdiv, u64n (Nat.le_trans (Nat.div_le_self q.num.natAbs _) (by omega)), u64n (Nat.le_trans (Nat.div_le_self p.num.natAbs _) (by omega)), u64n (Nat.le_trans (Nat.div_le_self q.den _) (by omega)), u64n (Nat.le_trans (Nat.div_le_self p.den _) (by omega))]
      exact tail_ev p q hp0 hq0 (by omega) (by omega) (by omega) (by omega) _ rfl _ _ _ _ rfl rfl rfl rfl
theorem divR_ev {n d m e : Int} (hn : I64 n) (hd : I64 d) (hm : I64 m) (he : I64 e) : Ev (fun k => whittleref1_Div.f k n d m e) (if rat m e = 0 then (0, 0, false) else res (rat n d / rat m e)) := by
  unfold whittleref1_Div.f
  refine Ev.bind (ofR_ev hn hd) (Ev.bind (ofR_ev hm he) ?_)
  have hp := fits_rat n d
  have hq := fits_rat m e
  generalize rat n d = p at *
  generalize rat m e = q at *
  unfold Fits at hp hq
  by_cases hq0 : q.num = 0
  · rw [if_pos (Rat.num_eq_zero.1 hq0)]
    exact Ev.ite_pos hq0 (Ev.now _)
  · rw [if_neg (fun h => hq0 (Rat.num_eq_zero.2 h)), Rat.div_def]
    refine Ev.ite_neg hq0 ?_
    by_cases hp0 : p.num = 0
    · refine Ev.ite_pos hp0 (Ev.const ?_)
      have : p = 0 := Rat.num_eq_zero.1 hp0
      rw [this, Rat.zero_mul]; rfl
    · refine Ev.ite_neg hp0 ?_
      have i1 := Rat.num_inv q
      have i2 := Rat.den_inv q
      rw [if_neg hq0] at i2
      have q1 := q.den_pos
      have p1 := p.den_pos
      have i3 : (q⁻¹).num.natAbs = q.den := by
        rw [i1, Int.natAbs_mul, Int.natAbs_natCast]
        rcases Int.lt_or_lt_of_ne hq0 with h | h
        · rw [Int.sign_eq_neg_one_of_neg h]; simp
        · rw [Int.sign_eq_one_of_pos h]; simp
      have i4 : (q⁻¹).num < 0 ↔ q.num < 0 := by
        rcases Int.lt_or_lt_of_ne hq0 with h | h
        · rw [i1, Int.sign_eq_neg_one_of_neg h]; omega
        · rw [i1, Int.sign_eq_one_of_pos h]; omega
      refine Ev.bind0 (far_eq (by unfold I64; omega)) (Ev.bind0 (far_eq (by unfold I64; omega)) ?_)
      rw [u64n (x := q.den) (by omega), u64n (x := p.den) (by omega)]
      refine Ev.bind (gcdR_ev p.num.natAbs q.num.natAbs) ?_
      have hg : 0 < Nat.gcd p.num.natAbs q.num.natAbs := Nat.gcd_pos_of_pos_right _ (by omega)
      have hh : 0 < Nat.gcd q.den p.den := Nat.gcd_pos_of_pos_right _ p1
      refine Ev.ite_neg (by omega) (Ev.bind (gcdR_ev q.den p.den) (Ev.ite_neg (by omega) ?_))
      rw [← Int.ofNat_tdiv, ← Int.ofNat_tdiv, ← Int.ofNat_tdiv, ← Int.ofNat_tdiv, u64n (Nat.le_trans (Nat.div_le_self q.num.natAbs _) (by omega)), u64n (Nat.le_trans (Nat.div_le_self p.num.natAbs _) (by omega)), u64n (Nat.le_trans (Nat.div_le_self q.den _) (by omega)), u64n (Nat.le_trans (Nat.div_le_self p.den _) (by omega))]
      exact tail_ev p q⁻¹ hp0 (by omega) (by omega) (by omega) (by omega) (by omega) _ (by rw [Bool.eq_iff_iff.2 (show decide ((q⁻¹).num < 0) = true ↔ decide (q.num < 0) = true by rw [decide_eq_true_iff, decide_eq_true_iff]; exact i4)]) _ _ _ _ (by rw [i2]) (by rw [i3]) (by rw [i3]) (by rw [i2])
end
end Go.Proofs.YtmakkdlkgfgaoaaGreatDoor.F
namespace Go.Proofs.YtmakkdlkgfgaoaaGreatDoor.F
section
open Go.RowKit Go.Proofs.YtmakkdlkgfgaoaaGreatDoorW.PrintWords NumM
theorem powLoopR_ev (n d : Nat) (K : Int) (hK : I64 K) (N D : Int) (hn : 0 < n) (hd : 0 < d) (hc : ∀ t : Nat, Nat.gcd (n ^ t) (d ^ t) = 1) :
    ∀ (j i : Nat), K.natAbs - i = j → i ≤ K.natAbs → n ^ i ≤ 1000000000000 → d ^ i ≤ 1000000 → Ev (fun k => whittleref1_Pow.l0 k K ((n ^ i : Nat) : Int) ((d ^ i : Nat) : Int) n d i N D) (powOut n d K.natAbs (decide (N < 0) && decide (K.natAbs % 2 = 1))) := by
  have hK' := hK
  unfold I64 at hK'
  intro j
  induction j with
  | zero =>
    intro i hj hi h1 h2
    have e : i = K.natAbs := by omega
    subst e
    refine Ev.step (fun k => by simp only [whittleref1_Pow.l0]; rfl) ?_
    refine Ev.bind0 (far_eq hK) (Ev.ite_neg (by omega) ?_)
    have made : ∀ minus : Bool, Ev (fun k => (whittleref1_made.f k minus ((n ^ K.natAbs : Nat) : Int) ((d ^ K.natAbs : Nat) : Int)).bind fun b => some (b.1, b.2.1, b.2.2)) (powOut n d K.natAbs minus) := by
      intro minus
      refine Ev.bind (made_ev minus _ _ (Nat.pow_pos hd) (by omega) (by omega)) (Ev.const ?_)
      rw [hc, Nat.div_one, Nat.div_one]
      rfl
    rw [odd_eq]
    by_cases hN : N < 0
    · rw [decide_eq_true hN, Bool.true_and]; exact Ev.ite_pos hN (made _)
    · rw [decide_eq_false hN, Bool.false_and]; exact Ev.ite_neg hN (made _)
  | succ j ih =>
    intro i hj hi h1 h2
    refine Ev.step (fun k => by simp only [whittleref1_Pow.l0]; rfl) ?_
    refine Ev.bind0 (far_eq hK) (Ev.ite_pos (by omega) (Ev.ite_neg (by omega) ?_))
    rw [show (1000000000000 : Int) = ((1000000000000 : Nat) : Int) from rfl, div_lit _ _ (by omega), show (1000000 : Int) = ((1000000 : Nat) : Int) from rfl, div_lit _ _ (by omega)]
    have fail : ¬ (n ^ K.natAbs ≤ 1000000000000 ∧ d ^ K.natAbs ≤ 1000000) → Ev (fun _ => some ((0 : Int), (0 : Int), false)) (powOut n d K.natAbs (decide (N < 0) && decide (K.natAbs % 2 = 1))) := by
      intro h; unfold powOut; rw [if_neg h]; exact Ev.now _
    by_cases c1 : n ^ i > 1000000000000 / n
    · exact Ev.ite_pos (by omega) (fail fun h => pow_over hn (by omega) _ c1 h.1)
    · refine Ev.ite_neg (by omega) (Ev.ite_neg (by omega) ?_)
      by_cases c2 : d ^ i > 1000000 / d
      · exact Ev.ite_pos (by omega) (fail fun h => pow_over hd (by omega) _ c2 h.2)
      · refine Ev.ite_neg (by omega) ?_
        have n1 := pow_next hn _ c1
        have n2 := pow_next hd _ c2
        have := ih (i + 1) (by omega) (by omega) n1 n2
        rw [← Int.natCast_mul, show n ^ i * n = n ^ (i + 1) from rfl, ← Int.natCast_mul, show d ^ i * d = d ^ (i + 1) from rfl, u64n (x := n ^ (i + 1)) (by omega), u64n (x := d ^ (i + 1)) (by omega), show ((i : Int) + 1) = ((i + 1 : Nat) : Int) from rfl, u64n (by omega)]
        exact this
theorem one_pow_rat (t : Nat) : (1 : Rat) ^ t = 1 := by
  induction t with
  | zero => rfl
  | succ t ih => rw [Rat.pow_succ, ih, Rat.mul_one]
theorem minus_one_pow (t : Nat) : res ((-1 : Rat) ^ t) = if t % 2 = 1 then (-1, 1, true) else (1, 1, true) := by
  rw [pow_out]
  have e1 : (-1 : Rat).num = -1 := by decide +kernel
  have e2 : (-1 : Rat).den = 1 := by decide +kernel
  rw [e1, e2]
  unfold powOut
  rw [show Int.natAbs (-1) = 1 from rfl, Nat.one_pow, if_pos ⟨by omega, by omega⟩]
  by_cases h : t % 2 = 1 <;> simp [h]
theorem powR_ev {n d k : Int} (hn : I64 n) (hd : I64 d) (hk : I64 k) : Ev (fun r => whittleref1_Pow.f r n d k) (powQ (rat n d) k) := by
  unfold whittleref1_Pow.f
  refine Ev.bind (ofR_ev hn hd) ?_
  have hq := fits_rat n d
  generalize rat n d = q at *
  have hb := fits_bounds hq
  unfold powQ
  by_cases k0 : k = 0
  · rw [if_pos k0]
    exact Ev.ite_pos k0 (Ev.now _)
  · rw [if_neg k0]
    refine Ev.ite_neg k0 ?_
    by_cases q0 : q.num = 0
    · rw [if_pos (Rat.num_eq_zero.1 q0)]
      refine Ev.ite_pos q0 ?_
      by_cases kn : k < 0
      · rw [if_pos kn, if_pos kn]; exact Ev.now _
      · rw [if_neg kn, if_neg kn]
        refine Ev.const ?_
        rw [Rat.num_eq_zero.1 q0]; rfl
    · rw [if_neg (fun h => q0 (Rat.num_eq_zero.2 h))]
      refine Ev.ite_neg q0 ?_
      have hk' := hk
      unfold I64 at hk'
      have rest : Ev (fun r => whittleref1_Pow.j0 r k false q.num q.den 1 1) (if k < 0 then res (q⁻¹ ^ k.natAbs) else res (q ^ k.natAbs)) := by
        refine Ev.step (fun r => by simp only [whittleref1_Pow.j0]; exact if_neg (by simp)) ?_
        refine Ev.bind0 (far_eq (by unfold I64; omega)) ?_
        rw [u64n (x := q.den) (by omega)]
        by_cases kn : k < 0
        · rw [if_pos kn]
          refine Ev.ite_pos kn (Ev.bind0 (far_eq (by unfold I64; omega)) (Ev.step (fun r => by simp only [whittleref1_Pow.j1]; rfl) ?_))
          obtain ⟨i1, i2, i3⟩ := inv_parts q0
          have := powLoopR_ev q.den q.num.natAbs k hk q.num q.den q.den_pos (by omega) (fun t => by
            have := (q⁻¹ ^ t).reduced
            rw [Rat.num_pow, Rat.den_pow, Int.natAbs_pow, i1, i2] at this
            exact this) k.natAbs 0 (by omega) (by omega) (by simp) (by simp)
          rw [pow_out, i1, i2, show decide ((q⁻¹).num < 0) = decide (q.num < 0) by rw [Bool.eq_iff_iff, decide_eq_true_iff, decide_eq_true_iff]; exact i3]
          exact this
        · rw [if_neg kn]
          refine Ev.ite_neg kn (Ev.step (fun r => by simp only [whittleref1_Pow.j1]; rfl) ?_)
          have := powLoopR_ev q.num.natAbs q.den k hk q.num q.den (by omega) q.den_pos (fun t => by
            have := (q ^ t).reduced
            rw [Rat.num_pow, Rat.den_pow, Int.natAbs_pow] at this
            exact this) k.natAbs 0 (by omega) (by omega) (by simp) (by simp)
          rw [pow_out]
          exact this
      by_cases d1 : (q.den : Int) = 1
      · refine Ev.ite_pos d1 ?_
        by_cases n1 : q.num = 1
        · refine Ev.ite_pos n1 ?_
          have q1 : q = 1 := Rat.ext n1 (by show q.den = 1; omega)
          have hi : (1 : Rat)⁻¹ = 1 := by decide +kernel
          rw [q1, hi, one_pow_rat, ite_self]
          refine Ev.step (f := fun _ => some (1, 1, true)) (fun r => ?_) (Ev.now _)
          simp only [whittleref1_Pow.j0, if_true]
          rw [if_neg (by decide)]
        · refine Ev.ite_neg n1 ?_
          by_cases m1 : q.num = -1
          · rw [show (q.num == -1) = true by simpa using m1]
            have q1 : q = -1 := Rat.ext m1 (by show q.den = 1; omega)
            have hi : (-1 : Rat)⁻¹ = -1 := by decide +kernel
            rw [q1, hi, ite_self, minus_one_pow]
            refine Ev.step (f := fun _ => some (if k.natAbs % 2 = 1 then (-1, 1, true) else (1, 1, true))) (fun r => ?_) (Ev.now _)
            simp only [whittleref1_Pow.j0, if_true]
            rw [if_pos (by decide)]
            have ho := odd_eq k
            by_cases h2 : Int.tmod k 2 = 0
            · rw [if_pos h2, if_neg]
              rw [h2] at ho
              have := of_decide_eq_false ho.symm
              exact this
            · rw [if_neg h2, if_pos]
              · rfl
              · rw [bne_iff_ne.2 h2] at ho
                exact of_decide_eq_true ho.symm
          · rw [show (q.num == -1) = false by simpa using m1]; exact rest
      · exact Ev.ite_neg d1 rest
end
end Go.Proofs.YtmakkdlkgfgaoaaGreatDoor.F
namespace Go.Proofs.YtmakkdlkgfgaoaaGreatDoor.F
section
open Go.RowKit Go.Proofs.YtmakkdlkgfgaoaaGreatDoorW.PrintWords NumM
theorem wholeR_ev {n d : Int} (hn : I64 n) (hd : I64 d) : Ev (fun k => whittleref1_Whole.f k n d) (wholeQ (rat n d)) := by
  unfold whittleref1_Whole.f wholeQ
  refine Ev.bind (ofR_ev hn hd) ?_
  generalize rat n d = q at *
  by_cases h : q.den = 1
  · rw [if_pos h]; exact Ev.ite_pos (by show (q.den : Int) = 1; omega) (Ev.now _)
  · rw [if_neg h]; exact Ev.ite_neg (by show ¬ (q.den : Int) = 1; omega) (Ev.now _)
end
end Go.Proofs.YtmakkdlkgfgaoaaGreatDoor.F
namespace Go.Proofs.YtmakkdlkgfgaoaaGreatDoor.F
section
open Go.RowKit Go.Lib Go.Proofs.YtmakkdlkgfgaoaaGreatDoorW.PrintWords NumM
theorem one_digit (n : Nat) : strOfNums [IntKind.u64.wrap (48 + Int.tmod (n : Int) 10) % 256] = by' [UInt8.ofNat (48 + n % 10)] := by
  have e : IntKind.u64.wrap (48 + Int.tmod (n : Int) 10) % 256 = ((48 + n % 10 : Nat) : Int) := by
    rw [show (10 : Int) = ((10 : Nat) : Int) from rfl, ← Int.ofNat_tmod, u64 (by omega) (by omega)]
    omega
  rw [e]
  rfl
theorem digitsR_loop (n : Nat) (hn : n ≤ 18446744073709551615) : ∀ (rest : List UInt8), rest.length + (decDigits n).length ≤ 9223372036854775807 → Ev (fun k => whittleref1_digits.l0 k n (by' rest)) (by' (decDigits n ++ rest)) := by
  induction n using Nat.strongRecOn with
  | ind n ih =>
    intro rest hr
    have h1 : 0 < (decDigits n).length := List.length_pos_iff.2 (dec_ne n)
    refine Ev.step (fun k => by simp only [whittleref1_digits.l0]; rfl) ?_
    refine Ev.bind0 rfl ?_
    rw [one_digit, by_app]
    refine Ev.ite_pos (by rw [by_size, by_size, List.length_singleton]; omega) ?_
    rw [show (10 : Int) = ((10 : Nat) : Int) from rfl, ← Int.ofNat_tdiv, u64n (by omega)]
    by_cases h : n < 10
    · refine Ev.ite_pos (by omega) (Ev.const ?_)
      rw [decDigits, dif_pos h, show n % 10 = n by omega]
    · refine Ev.ite_neg (by omega) ?_
      have e : decDigits n = decDigits (n / 10) ++ [UInt8.ofNat (48 + n % 10)] := by rw [decDigits, dif_neg h]
      have := ih (n / 10) (by omega) (by omega) ([UInt8.ofNat (48 + n % 10)] ++ rest) (by rw [e, List.length_append, List.length_singleton] at hr; rw [List.length_append, List.length_singleton]; omega)
      rw [e, List.append_assoc]
      exact this
theorem digitsR_ev (n : Nat) (hn : n ≤ 1000000000000000000) : Ev (fun k => whittleref1_digits.f k n) (by' (decDigits n)) := by
  have h := dec_len 18 n (by omega)
  have := digitsR_loop n (by omega) [] (by rw [List.length_nil]; omega)
  rw [List.append_nil] at this
  exact this
/-- long division writes the digits behind the point -/
theorem textR_loop (d : Nat) (hd : 0 < d) (hd' : d ≤ 1000000) : ∀ (m F r : Nat) (s : List UInt8), r < d → F * d = r * 10 ^ m → s.length + m ≤ 1000 → Ev (fun k => whittleref1_Text.l0 k d (by' s) r) (by' (s ++ frac m F)) := by
  intro m
  induction m with
  | zero =>
    intro F r s hr hF hs
    have hF' : F * d = r := by simpa using hF
    have F0 : F = 0 := by
      rcases Nat.eq_zero_or_pos F with h | h
      · exact h
      · have := Nat.le_mul_of_pos_left d h; omega
    subst F0
    have r0 : r = 0 := by omega
    subst r0
    exact Ev.step (f := fun _ => some (by' s)) (fun k => by simp only [whittleref1_Text.l0]; exact if_pos (by rfl)) (Ev.const (by simp [frac]))
  | succ m ih =>
    intro F r s hr hF hs
    have hp : 0 < 10 ^ m := Nat.pow_pos (by omega)
    by_cases r0 : r = 0
    · subst r0
      have F0 : F = 0 := by
        rcases Nat.eq_zero_or_pos F with h | h
        · exact h
        · have := Nat.mul_pos h hd; omega
      subst F0
      exact Ev.step (f := fun _ => some (by' s)) (fun k => by simp only [whittleref1_Text.l0]; exact if_pos (by rfl)) (Ev.const (by simp [frac]))
    · have F0 : F ≠ 0 := by
        rintro rfl
        have := Nat.mul_pos (Nat.pos_of_ne_zero r0) (show 0 < 10 ^ (m + 1) from Nat.pow_pos (by omega))
        omega
      refine Ev.step (fun k => by simp only [whittleref1_Text.l0]; exact if_neg (by omega)) ?_
      refine Ev.ite_neg (by omega) ?_
      rw [show (r : Int) * 10 = ((r * 10 : Nat) : Int) by omega, u64n (by omega), ← Int.ofNat_tdiv, ← Int.ofNat_tmod]
      have hq9 : r * 10 / d < 10 := by rw [Nat.div_lt_iff_lt_mul hd]; omega
      rw [u64n (by omega)]
      refine Ev.bind (digitsR_ev _ (by omega)) ?_
      have e1 : decDigits (r * 10 / d) = [UInt8.ofNat (48 + r * 10 / d)] := by rw [decDigits, dif_pos hq9]
      rw [e1]
      refine Ev.ite_pos (by rw [by_size, by_size, List.length_singleton]; omega) ?_
      rw [by_app]
      have hdm := Nat.div_add_mod (r * 10) d
      have hrl := Nat.mod_lt (r * 10) hd
      generalize hQ : r * 10 / d = Q at *
      generalize hR : r * 10 % d = R at *
      have hF2 : F * d = (Q * 10 ^ m) * d + R * 10 ^ m := by
        have : r * 10 ^ (m + 1) = (r * 10) * 10 ^ m := by rw [Nat.pow_succ, Nat.mul_comm (10 ^ m) 10, ← Nat.mul_assoc]
        rw [hF, this, ← hdm, Nat.add_mul, Nat.mul_comm d Q, Nat.mul_assoc, Nat.mul_comm d (10 ^ m), ← Nat.mul_assoc]
      have hge : Q * 10 ^ m ≤ F := by
        apply Nat.le_of_mul_le_mul_right _ hd
        omega
      obtain ⟨G, hG⟩ : ∃ G, F = Q * 10 ^ m + G := ⟨F - Q * 10 ^ m, by omega⟩
      have hGd : G * d = R * 10 ^ m := by rw [hG, Nat.add_mul] at hF2; omega
      have hGl : G < 10 ^ m := by
        apply Nat.lt_of_mul_lt_mul_right (a := d)
        rw [hGd, Nat.mul_comm (10 ^ m) d]
        exact Nat.mul_lt_mul_of_pos_right hrl hp
      have hFq : F / 10 ^ m = Q := by
        rw [hG, Nat.mul_comm Q, Nat.mul_add_div hp, Nat.div_eq_of_lt hGl, Nat.add_zero]
      have hFr : F % 10 ^ m = G := by
        rw [hG, Nat.mul_comm Q, Nat.mul_add_mod, Nat.mod_eq_of_lt hGl]
      have := ih G R (s ++ [UInt8.ofNat (48 + Q)]) hrl hGd (by rw [List.length_append, List.length_singleton]; omega)
      rw [frac, if_neg F0, hFq, hFr]
      rw [List.append_assoc] at this
      exact this
theorem textR_ev {n d : Int} (hn : I64 n) (hd : I64 d) : Ev (fun k => whittleref1_Text.f k n d) (by' (textS (rat n d))) := by
  unfold whittleref1_Text.f
  refine Ev.bind (ofR_ev hn hd) ?_
  have hq := fits_rat n d
  generalize rat n d = q at *
  have hb := fits_bounds hq
  have hq' := hq
  unfold Fits at hq'
  have hden := q.den_pos
  have dmod : ∀ D : Nat, ((1000000 : Int) % (D : Int)) = ((1000000 % D : Nat) : Int) := fun D => rfl
  have main : ∀ s : List UInt8, s.length ≤ 1 → Ev (fun k => whittleref1_Text.j0 k (by' s) q.num q.den) (by' (s ++ (if 1000000 % q.den = 0 then decDigits (q.num.natAbs / q.den) ++ (if q.den = 1 then [] else 46 :: frac 6 (q.num.natAbs % q.den * (1000000 / q.den))) else decDigits q.num.natAbs ++ 47 :: decDigits q.den))) := by
    intro s hs
    refine Ev.step (fun k => by simp only [whittleref1_Text.j0]; rfl) ?_
    refine Ev.bind0 (far_eq (by unfold I64; omega)) ?_
    rw [u64n (x := q.den) (by omega)]
    refine Ev.ite_neg (by omega) ?_
    have l1 : (decDigits q.num.natAbs).length ≤ 13 := dec_len 12 _ (by omega)
    have l2 : (decDigits q.den).length ≤ 7 := dec_len 6 _ (by omega)
    have hdl := Nat.div_le_self q.num.natAbs q.den
    have l3 : (decDigits (q.num.natAbs / q.den)).length ≤ 13 := dec_len 12 _ (by omega)
    by_cases c : 1000000 % q.den = 0
    · rw [if_pos c]
      refine Ev.ite_pos (by rw [dmod, c]; rfl) ?_
      rw [← Int.ofNat_tdiv, ← Int.ofNat_tmod]
      rw [u64n (x := q.num.natAbs / q.den) (by omega)]
      refine Ev.bind (digitsR_ev _ (by omega)) ?_
      refine Ev.ite_pos (by rw [by_size, by_size]; omega) ?_
      rw [by_app]
      have hdiv : q.den * (1000000 / q.den) = 1000000 := Nat.mul_div_cancel' (Nat.dvd_of_mod_eq_zero c)
      by_cases d1 : q.den = 1
      · rw [if_pos d1, List.append_nil]
        refine Ev.ite_pos ?_ (Ev.now _)
        rw [d1, Nat.mod_one]; rfl
      · have hr0 : q.num.natAbs % q.den ≠ 0 := by
          intro hz
          have h1 := Nat.dvd_gcd (Nat.dvd_of_mod_eq_zero hz) (Nat.dvd_refl q.den)
          have h2 : Nat.gcd q.num.natAbs q.den = 1 := q.reduced
          rw [h2] at h1
          exact d1 (Nat.dvd_one.1 h1)
        rw [if_neg d1]
        refine Ev.ite_neg (fun h => hr0 (by exact_mod_cast h)) ?_
        refine Ev.ite_pos (by rw [by_size, List.length_append]; omega) ?_
        rw [show (⟨#[46]⟩ : ByteArray) = by' [46] from rfl, by_app]
        have := textR_loop q.den hden hq'.2 6 (q.num.natAbs % q.den * (1000000 / q.den)) (q.num.natAbs % q.den) (s ++ decDigits (q.num.natAbs / q.den) ++ [46]) (Nat.mod_lt _ hden) (by rw [Nat.mul_assoc, Nat.mul_comm (1000000 / q.den), hdiv]) (by rw [List.length_append, List.length_append, List.length_singleton]; omega)
        have e : s ++ decDigits (q.num.natAbs / q.den) ++ [46] ++ frac 6 (q.num.natAbs % q.den * (1000000 / q.den)) = s ++ (decDigits (q.num.natAbs / q.den) ++ 46 :: frac 6 (q.num.natAbs % q.den * (1000000 / q.den))) := by simp [List.append_assoc]
        rw [e] at this
        exact this
    · rw [if_neg c]
      refine Ev.ite_neg (by rw [dmod]; exact fun h => c (by exact_mod_cast h)) ?_
      refine Ev.bind (digitsR_ev _ (by omega)) ?_
      refine Ev.ite_pos (by rw [by_size, by_size]; omega) ?_
      rw [by_app]
      refine Ev.ite_pos (by rw [by_size, List.length_append]; omega) ?_
      refine Ev.bind (digitsR_ev _ (by omega)) ?_
      rw [show (⟨#[47]⟩ : ByteArray) = by' [47] from rfl, by_app]
      refine Ev.ite_pos (by rw [by_size, by_size, List.length_append, List.length_append, List.length_singleton]; omega) ?_
      rw [by_app]
      refine Ev.const ?_
      congr 2
      simp [List.append_assoc]
  unfold textS
  by_cases h : q.num < 0
  · rw [if_pos h]
    exact Ev.ite_pos h (main [45] (by simp))
  · rw [if_neg h]
    exact Ev.ite_neg h (main [] (by simp))
end
end Go.Proofs.YtmakkdlkgfgaoaaGreatDoor.F
namespace Go.Proofs.YtmakkdlkgfgaoaaGreatDoor.F
section
open Go.RowKit Go.Proofs.YtmakkdlkgfgaoaaGreatDoorW.PrintWords NumM
/-- what piece answers of what was read of l from a place on -/
def piS (l : List UInt8) (a : Nat) : Option (Nat × List UInt8) → Int × Int × Bool
  | none => (0, 0, false)
  | some (n, rest) => (n, ((l.length - rest.length : Nat) : Int), decide (rest.length < l.length - a))
theorem rd10_suf (l : List UInt8) : ∀ (n m : Nat) (r : List UInt8), rd10 l n = some (m, r) → r = l.drop (l.length - r.length) := by
  induction l with
  | nil => intro n m r h; simp [rd10] at h; rw [h.2]; rfl
  | cons c l ih =>
    intro n m r h
    rw [rd10] at h
    split at h
    · split at h
      · have h1 := ih _ _ _ h
        have h2 : r.length ≤ l.length := by rw [h1, List.length_drop]; omega
        rw [List.length_cons, show l.length + 1 - r.length = (l.length - r.length) + 1 by omega, List.drop_succ_cons]
        exact h1
      · cases h
    · simp at h; rw [← h.2, Nat.sub_self]; rfl
theorem rd10_over (c : UInt8) (l : List UInt8) (v : Nat) (h : 48 ≤ c.toNat ∧ c.toNat ≤ 57) (hv : v > 100000000000000000) : rd10 (c :: l) v = none := by
  rw [rd10, if_pos h, if_neg (by omega)]
theorem piece_loop (l : List UInt8) (hl : l.length ≤ 9223372036854775000) (a : Nat) (ha : a ≤ l.length) : ∀ (j i v : Nat), l.length - i = j → a ≤ i → i ≤ l.length → v ≤ 1000000000000000000 → Ev (fun k => whittleref1_piece.l0 k (by' l) a v i) (piS l a (rd10 (l.drop i) v)) := by
  intro j
  induction j with
  | zero =>
    intro i v hj hai hi hv
    have e : i = l.length := by omega
    subst e
    refine Ev.step (fun k => by simp only [whittleref1_piece.l0]; exact if_neg (by rw [by_size]; omega)) ?_
    refine Ev.step (f := fun _ => some ((v : Int), (l.length : Int), decide ((l.length : Int) > a))) (fun k => ?_) ?_
    · simp only [whittleref1_piece.j1]
      rw [if_neg (by simp)]
    · rw [List.drop_length]
      simp only [rd10, piS, List.length_nil, Nat.sub_zero]
      refine Ev.const ?_
      congr 3
      rw [decide_eq_decide]; omega
  | succ j ih =>
    intro i v hj hai hi hv
    have hi' : i < l.length := by omega
    refine Ev.step (fun k => by simp only [whittleref1_piece.l0]; exact if_pos (by rw [by_size]; omega)) ?_
    refine Ev.ite_pos (by omega) ?_
    rw [by_bt l i hi', List.drop_eq_getElem_cons hi']
    generalize hc : l[i] = c
    have stop : ¬ (48 ≤ c.toNat ∧ c.toNat ≤ 57) → Ev (fun k => whittleref1_piece.j1 k (by' l) a v i false) (piS l a (rd10 (c :: l.drop (i + 1)) v)) := by
      intro h
      rw [rd10, if_neg h, ← hc, ← List.drop_eq_getElem_cons hi']
      refine Ev.step (f := fun _ => some ((v : Int), (i : Int), decide ((i : Int) > a))) (fun k => ?_) (Ev.const ?_)
      · simp only [whittleref1_piece.j1]
        rw [if_neg (by simp)]
      · simp only [piS, List.length_drop]
        rw [show l.length - (l.length - i) = i by omega]
        congr 3
        rw [decide_eq_decide]; omega
    by_cases c1 : 48 ≤ c.toNat
    · refine Ev.ite_pos (by omega) ?_
      by_cases c2 : c.toNat ≤ 57
      · rw [decide_eq_true (by omega)]
        refine Ev.step (fun k => by simp only [whittleref1_piece.j1, if_true]; rfl) ?_
        by_cases c0 : v > 100000000000000000
        · rw [rd10_over c _ v ⟨c1, c2⟩ c0]
          exact Ev.ite_pos (by omega) (Ev.now _)
        · refine Ev.ite_neg (by omega) (Ev.ite_pos (by omega) (Ev.ite_pos (by rw [by_size]; omega) ?_))
          rw [by_bt l i hi', hc, show ((c.toNat : Int) - 48) % 256 = ((c.toNat - 48 : Nat) : Int) by omega, rd10, if_pos ⟨c1, c2⟩]
          have hx : c.toNat - 48 ≤ 9 := by omega
          generalize c.toNat - 48 = x at *
          rw [show (v : Int) * 10 = ((10 * v : Nat) : Int) by omega, u64n (by omega), ← Int.natCast_add, u64n (by omega)]
          by_cases c3 : 10 * v + x ≤ 1000000000000000000
          · rw [if_pos c3]
            refine Ev.ite_neg (by omega) ?_
            rw [w64 (x := (i : Int) + 1) (by unfold I64; omega)]
            exact ih (i + 1) (10 * v + x) (by omega) (by omega) (by omega) c3
          · rw [if_neg c3]
            exact Ev.ite_pos (by omega) (Ev.now _)
      · rw [decide_eq_false (by omega)]
        exact stop (by omega)
    · exact Ev.ite_neg (by omega) (stop (by omega))
theorem piece_ev (l : List UInt8) (hl : l.length ≤ 9223372036854775000) (a : Nat) (ha : a ≤ l.length) : Ev (fun k => whittleref1_piece.f k (by' l) a) (piS l a (rd10 (l.drop a) 0)) := piece_loop l hl a ha (l.length - a) a 0 rfl (by omega) ha (by omega)
theorem ten_loop (t : Nat) (ht : t ≤ 6) : ∀ (j i : Nat), t - i = j → i ≤ t → Ev (fun k => whittleref1_ten.l0 k t ((10 ^ i : Nat) : Int) i) ((10 ^ t : Nat) : Int) := by
  have hb : ∀ i, i ≤ t → 10 ^ i ≤ 1000000 := fun i hi => Nat.le_trans (Nat.pow_le_pow_right (by omega) (Nat.le_trans hi ht)) (by decide)
  intro j
  induction j with
  | zero =>
    intro i hj hi
    have e : i = t := by omega
    subst e
    exact Ev.step (f := fun _ => some ((10 ^ i : Nat) : Int)) (fun k => by simp only [whittleref1_ten.l0]; exact if_neg (by omega)) (Ev.now _)
  | succ j ih =>
    intro i hj hi
    refine Ev.step (fun k => by simp only [whittleref1_ten.l0]; exact if_pos (by omega)) ?_
    have := hb (i + 1) (by omega)
    rw [w64 (x := ((i : Nat) : Int) + 1) (by unfold I64; omega), show ((10 ^ i : Nat) : Int) * 10 = ((10 ^ (i + 1) : Nat) : Int) by rw [Nat.pow_succ, Int.natCast_mul]; rfl, u64n (by omega)]
    exact ih (i + 1) (by omega) (by omega)
theorem tenN_ev (t : Nat) (ht : t ≤ 6) : Ev (fun k => whittleref1_ten.f k t) ((10 ^ t : Nat) : Int) := ten_loop t ht t 0 rfl (by omega)
/-- the reference's making, with its sign -/
theorem made_sg (minus : Bool) (n d : Nat) (hd : 0 < d) (hn : n ≤ 9223372036854775807) (hd' : d ≤ 9223372036854775807) : Ev (fun k => if minus = true then (whittleref1_made.f k (decide ((n : Int) > 0)) n d).bind fun b => some (b.1, b.2.1, b.2.2) else (whittleref1_made.f k false n d).bind fun b => some (b.1, b.2.1, b.2.2)) (mk (sg minus n) d) := by
  have hm : mk (sg minus n) d = (if n / Nat.gcd n d ≤ 1000000000000 ∧ d / Nat.gcd n d ≤ 1000000 then ((if (minus && decide ((n : Int) > 0)) = true then -((n / Nat.gcd n d : Nat) : Int) else ((n / Nat.gcd n d : Nat) : Int)), ((d / Nat.gcd n d : Nat) : Int), true) else (0, 0, false)) := by
    unfold mk
    rw [if_neg (by omega), res_divInt (by omega)]
    have e1 : (sg minus n).natAbs = n := by unfold sg; cases minus <;> simp
    have e2 : (decide (sg minus n < 0) ≠ decide ((d : Int) < 0)) ↔ ((minus && decide ((n : Int) > 0)) = true) := by
      rw [decide_eq_false (show ¬ (d : Int) < 0 by omega)]
      unfold sg
      cases minus <;> simp <;> omega
    rw [e1, Int.natAbs_natCast]
    simp only [e2]
  rw [hm]
  cases minus with
  | true =>
    refine Ev.ite_pos rfl ?_
    refine Ev.bind (made_ev _ n d hd (by omega) (by omega)) (Ev.const ?_)
    rw [Bool.true_and]
  | false =>
    refine Ev.ite_neg (by simp) ?_
    refine Ev.bind (made_ev _ n d hd (by omega) (by omega)) (Ev.const ?_)
    rw [Bool.false_and]
theorem readR_j1 (minus : Bool) (l : List UInt8) (hl : l.length ≤ 9223372036854775000) (a : Nat) (ha : a ≤ l.length) : Ev (fun k => whittleref1_Read.j1 k (by' l) a minus) (bodyS minus (l.drop a)) := by
  refine Ev.step (fun k => by simp only [whittleref1_Read.j1]; rfl) ?_
  refine Ev.bind (piece_ev l hl a ha) ?_
  unfold bodyS
  have hla : (l.drop a).length = l.length - a := List.length_drop
  cases h1 : rd10 (l.drop a) 0 with
  | none => exact Ev.ite_neg (by simp [piS]) (Ev.now _)
  | some x =>
    obtain ⟨n, rest⟩ := x
    have b1 := rd10_le (l.drop a) 0 n rest h1 (by omega)
    have hsuf := rd10_suf (l.drop a) 0 n rest h1
    simp only [piS]
    by_cases hr : rest.length < (l.drop a).length
    · rw [if_pos hr]
      refine Ev.ite_pos (by rw [decide_eq_true_iff]; omega) ?_
      have hrest : rest = l.drop (l.length - rest.length) := by
        conv => lhs; rw [hsuf]
        rw [List.drop_drop, hla]
        congr 1; omega
      cases rest with
      | nil =>
        refine Ev.ite_pos (by rw [by_size]; simp) ?_
        exact made_sg minus n 1 (by omega) (by omega) (by omega)
      | cons c t =>
        have hlc : (c :: t).length = t.length + 1 := rfl
        rw [hlc] at hrest hr
        refine Ev.ite_neg (by rw [by_size, hlc]; omega) ?_
        rw [hlc]
        have hi : l.length - (t.length + 1) < l.length := by omega
        generalize hI : l.length - (t.length + 1) = I at *
        have hc : l[I] = c ∧ l.drop (I + 1) = t := by
          rw [List.drop_eq_getElem_cons hi] at hrest
          injection hrest with h1 h2
          exact ⟨h1.symm, h2.symm⟩
        rw [w64 (x := (I : Int) + 1) (by unfold I64; omega)]
        refine Ev.bind (piece_ev l hl (I + 1) (by omega)) ?_
        rw [hc.2]
        dsimp only
        have fail : ∀ x y : Int, Ev (fun k => whittleref1_Read.j2 k (by' l) minus n I x y true) (0, 0, false) := fun x y =>
          Ev.step (f := fun _ => some (0, 0, false)) (fun k => by simp only [whittleref1_Read.j2, if_true]) (Ev.now _)
        cases h2 : rd10 t 0 with
        | none => exact Ev.ite_neg (by simp [piS]) (fail _ _)
        | some y =>
          obtain ⟨m, e⟩ := y
          have b2 := rd10_le t 0 m e h2 (by omega)
          simp only [piS]
          by_cases he : e.length < t.length
          · refine Ev.ite_pos (by rw [decide_eq_true_iff]; omega) ?_
            by_cases e0 : e = []
            · rw [if_pos ⟨he, e0⟩, e0, List.length_nil, Nat.sub_zero, show (((l.length : Nat) : Int) != ((by' l).size : Int)) = false by rw [by_size]; simp]
              refine Ev.step (fun k => by simp only [whittleref1_Read.j2]; exact if_neg (by simp)) ?_
              refine Ev.ite_pos (by omega) (Ev.ite_pos (by rw [by_size]; omega) ?_)
              rw [by_bt l I hi, hc.1]
              by_cases hs : c = 47
              · rw [if_pos hs]
                refine Ev.ite_pos (by rw [hs]; rfl) ?_
                by_cases m0 : m = 0
                · refine Ev.ite_pos (by omega) ?_
                  rw [m0]
                  exact Ev.const (by unfold mk; rw [if_pos (by rfl)])
                · refine Ev.ite_neg (by omega) ?_
                  exact made_sg minus n m (by omega) (by omega) (by omega)
              · have hs' : ¬ (c.toNat : Int) = 47 := fun h => hs (UInt8.toNat_inj.1 (by show c.toNat = 47; omega))
                rw [if_neg hs]
                refine Ev.ite_neg hs' ?_
                have fail1 : ∀ x y : Int, Ev (fun k => whittleref1_Read.j3 k minus n I x y true) (0, 0, false) := fun x y =>
                  Ev.step (f := fun _ => some (0, 0, false)) (fun k => by simp only [whittleref1_Read.j3, if_true]) (Ev.now _)
                by_cases hp : c = 46
                · refine Ev.ite_pos (by rw [hp]; rfl) ?_
                  rw [w64 (x := ((l.length : Nat) : Int) - (I : Int)) (by unfold I64; omega), w64 (x := ((l.length : Nat) : Int) - (I : Int) - 1) (by unfold I64; omega), show ((l.length : Nat) : Int) - (I : Int) - 1 = (t.length : Int) by omega]
                  by_cases ht : t.length ≤ 6
                  · refine Ev.ite_neg (by omega) ?_
                    by_cases hn : n ≤ 1000000000000
                    · rw [if_pos ⟨hp, ht, hn⟩, decide_eq_false (by omega)]
                      refine Ev.step (fun k => by simp only [whittleref1_Read.j3]; exact if_neg (by simp)) ?_
                      rw [w64 (x := ((l.length : Nat) : Int) - (I : Int)) (by unfold I64; omega), w64 (x := ((l.length : Nat) : Int) - (I : Int) - 1) (by unfold I64; omega), show ((l.length : Nat) : Int) - (I : Int) - 1 = (t.length : Int) by omega]
                      refine Ev.bind (tenN_ev t.length ht) ?_
                      have hp10 : 10 ^ t.length ≤ 1000000 := Nat.le_trans (Nat.pow_le_pow_right (by omega) ht) (by decide)
                      have hp1 : 0 < 10 ^ t.length := Nat.pow_pos (by omega)
                      have hm := Nat.mul_le_mul hn hp10
                      rw [← Int.natCast_mul, u64n (x := n * 10 ^ t.length) (by omega), ← Int.natCast_add, u64n (x := n * 10 ^ t.length + m) (by omega)]
                      exact made_sg minus _ _ hp1 (by omega) (by omega)
                    · rw [if_neg (fun h => hn h.2.2), decide_eq_true (by omega)]; exact fail1 _ _
                  · rw [if_neg (fun h => ht h.2.1)]
                    exact Ev.ite_pos (by omega) (fail1 _ _)
                · rw [if_neg (fun h => hp h.1)]
                  exact Ev.ite_neg (fun h => hp (UInt8.toNat_inj.1 (by show c.toNat = 46; omega))) (fail1 _ _)
            · rw [if_neg (fun h => e0 h.2)]
              have he1 : 0 < e.length := List.length_pos_iff.2 e0
              rw [show (((l.length - e.length : Nat) : Int) != ((by' l).size : Int)) = true by rw [by_size, bne_iff_ne]; omega]
              exact fail _ _
          · rw [if_neg (fun h => he h.1)]
            exact Ev.ite_neg (by rw [decide_eq_true_iff]; omega) (fail _ _)
    · rw [if_neg hr]
      exact Ev.ite_neg (by rw [decide_eq_true_iff]; omega) (Ev.now _)
theorem readR_ev (l : List UInt8) (hl : l.length ≤ 9223372036854775000) : Ev (fun k => whittleref1_Read.f k (by' l)) (readS l) := by
  unfold whittleref1_Read.f
  cases l with
  | nil =>
    refine Ev.ite_neg (by rw [by_size]; simp) ?_
    refine Ev.step (fun k => by simp only [whittleref1_Read.j0]; exact if_neg (by simp)) ?_
    exact readR_j1 false [] (by simp) 0 (by simp)
  | cons c t =>
    refine Ev.ite_pos (by rw [by_size, List.length_cons]; omega) (Ev.ite_pos (by rw [by_size, List.length_cons]; omega) ?_)
    rw [by_bt0]
    show Ev _ (if c = 45 then bodyS true t else bodyS false (c :: t))
    by_cases hc : c = 45
    · rw [if_pos hc, show ((c.toNat : Int) == 45) = true by rw [hc]; rfl]
      refine Ev.step (fun k => by simp only [whittleref1_Read.j0, if_true]; rfl) ?_
      exact readR_j1 true (c :: t) hl 1 (by simp)
    · rw [if_neg hc, show ((c.toNat : Int) == 45) = false by
        rw [beq_eq_false_iff_ne]; exact fun h => hc (UInt8.toNat_inj.1 (by show c.toNat = 45; omega))]
      refine Ev.step (fun k => by simp only [whittleref1_Read.j0]; exact if_neg (by simp)) ?_
      exact readR_j1 false (c :: t) hl 0 (by simp)
end
end Go.Proofs.YtmakkdlkgfgaoaaGreatDoor.F
