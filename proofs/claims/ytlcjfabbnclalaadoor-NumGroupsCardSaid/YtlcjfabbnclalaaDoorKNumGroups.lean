/-
The plain lemmas that NumGroups leans on, out of what this repo keeps in wip.
-/
import Derived.Test.YtlcjfabbnclalaaDoorF5
import Derived.Test.YtlcjfabbnclalaaDoorF6
import Derived.Test.YtlcjfabbnclalaaDoorF15
import Derived.Test.YtlcjfabbnclalaaDoorF21
import Derived.Test.YtlcjfabbnclalaaDoorM2
namespace Go.Proofs.YtlcjfabbnclalaaDoor.F
set_option linter.unusedVariables false
set_option linter.unusedSimpArgs false
section
open Go.RowKit Go.Proofs.YtlcjfabbnclalaaDoorW.PrintWords NumM
theorem res_eta (x : Int × Int × Bool) : (x.1, x.2.1, x.2.2) = x := rfl
/-- the parts of a sum lie within an int -/
theorem add_parts (p q : Rat) (hp : Fits p) (hq : Fits q) : I64 (p.num * q.den) ∧ I64 (q.num * p.den) ∧ I64 (p.num * q.den + q.num * p.den) ∧ I64 ((p.den : Int) * q.den) ∧ (p.den : Int) * q.den ≠ 0 := by
  have b1 := fits_bounds hp
  have b2 := fits_bounds hq
  have m1 := mul_bounds ⟨b1.1, b1.2.1⟩ (d := (q.den : Int)) ⟨by omega, by omega⟩
  have m2 := mul_bounds ⟨b2.1, b2.2.1⟩ (d := (p.den : Int)) ⟨by omega, by omega⟩
  have m3 := den_bounds b1.2.2 b2.2.2
  unfold I64
  omega
theorem add_ev {n d m e : Int} (hn : I64 n) (hd : I64 d) (hm : I64 m) (he : I64 e) : Ev (fun k => num_Add.f k n d m e) (res (rat n d + rat m e)) := by
  unfold num_Add.f
  refine Ev.bind (taken_ev hn hd) (Ev.bind (taken_ev hm he) ?_)
  have hp := fits_rat n d
  have hq := fits_rat m e
  generalize rat n d = p at *
  generalize rat m e = q at *
  obtain ⟨h1, h2, h3, h4, h5⟩ := add_parts p q hp hq
  simp only [w64 h1, w64 h2, w64 h3, w64 h4]
  refine Ev.bind (make_ev h3 h4) (Ev.const ?_)
  rw [res_eta, add_formula]
  unfold mk
  rw [if_neg h5]
theorem able_now : whittlelaw1_able.f 60 = some true := by decide +kernel
theorem able_ev : Ev (fun k => whittlelaw1_able.f k) true := Ev.of (fun k => whittlelaw1_able.mono k) able_now
end
section
open Go.RowKit Go.Proofs.YtlcjfabbnclalaaDoorW.PrintWords NumM
theorem i64_num {q : Rat} (h : Fits q) : I64 q.num := by have := fits_bounds h; unfold I64; omega
theorem i64_den {q : Rat} (h : Fits q) : I64 (q.den : Int) := by have := fits_bounds h; unfold I64; omega
end
section
open Go.RowKit Go.Proofs.YtlcjfabbnclalaaDoorW.PrintWords NumM
/-- what is left of the parts of two, what divides both taken out -/
structure Cross (p q : Rat) (n m : Int) (d e : Nat) : Prop where
  en : n = p.num / (Nat.gcd p.num.natAbs q.den : Nat)
  em : m = q.num / (Nat.gcd q.num.natAbs p.den : Nat)
  ed : d = p.den / Nat.gcd q.num.natAbs p.den
  ee : e = q.den / Nat.gcd p.num.natAbs q.den
  num : (p * q).num = n * m
  den : (p * q).den = d * e
  na : n.natAbs = p.num.natAbs / Nat.gcd p.num.natAbs q.den
  ma : m.natAbs = q.num.natAbs / Nat.gcd q.num.natAbs p.den
  nb : n.natAbs ≤ p.num.natAbs
  mb : m.natAbs ≤ q.num.natAbs
  db : d ≤ p.den
  eb : e ≤ q.den
  dp : 0 < d
  ep : 0 < e
theorem gcd_dvd_num (n : Int) (d : Nat) : ((Nat.gcd n.natAbs d : Nat) : Int) ∣ n := Int.ofNat_dvd_left.2 (Nat.gcd_dvd_left _ _)
theorem cross (p q : Rat) : Cross p q (p.num / (Nat.gcd p.num.natAbs q.den : Nat)) (q.num / (Nat.gcd q.num.natAbs p.den : Nat)) (p.den / Nat.gcd q.num.natAbs p.den) (q.den / Nat.gcd p.num.natAbs q.den) := by
  have h := mul_num_den p q
  have n1 : (p.num / (Nat.gcd p.num.natAbs q.den : Nat)).natAbs = p.num.natAbs / Nat.gcd p.num.natAbs q.den := by
    rw [Int.natAbs_ediv_of_dvd (gcd_dvd_num _ _), Int.natAbs_natCast]
  have n2 : (q.num / (Nat.gcd q.num.natAbs p.den : Nat)).natAbs = q.num.natAbs / Nat.gcd q.num.natAbs p.den := by
    rw [Int.natAbs_ediv_of_dvd (gcd_dvd_num _ _), Int.natAbs_natCast]
  exact ⟨rfl, rfl, rfl, rfl, h.1, h.2, n1, n2, by rw [n1]; exact Nat.div_le_self _ _, by rw [n2]; exact Nat.div_le_self _ _, Nat.div_le_self _ _, Nat.div_le_self _ _, Nat.div_gcd_pos_of_pos_right _ p.den_pos, Nat.div_gcd_pos_of_pos_right _ q.den_pos⟩
theorem tdiv_gcd (n : Int) (d : Nat) : Int.tdiv n ((Nat.gcd n.natAbs d : Nat) : Int) = n / ((Nat.gcd n.natAbs d : Nat) : Int) := Int.tdiv_eq_ediv_of_dvd (gcd_dvd_num _ _)
/-- when a product of two is too great -/
theorem over_div (x y : Nat) (hy : 0 < y) (b : Nat) : x > b / y ↔ x * y > b := by
  rw [gt_iff_lt, gt_iff_lt, Nat.div_lt_iff_lt_mul hy]
theorem product_ev (p q : Rat) (hp : p.num.natAbs ≤ 1000000000000) (hpd : p.den ≤ 1000000) (hq : q.num.natAbs ≤ 1000000000000) (hqd : q.den ≤ 1000000000000) :
    Ev (fun k => num_product.f k p.num p.den q.num q.den) (res (p * q)) := by
  obtain ⟨-, -, -, -, hnum, hden, na, ma, nb, mb, db, eb, dp, ep⟩ := cross p q
  have p1 := p.den_pos
  have p2 := q.den_pos
  unfold num_product.f
  refine Ev.bind0 (size_eq (by unfold I64; omega)) ?_
  rw [u64n (x := q.den) (by omega), u64n (x := p.den) (by omega)]
  refine Ev.bind (gcd_ev p.num.natAbs q.den) ?_
  refine Ev.bind0 (size_eq (by unfold I64; omega)) ?_
  refine Ev.bind (gcd_ev q.num.natAbs p.den) ?_
  have hg : 0 < Nat.gcd p.num.natAbs q.den := Nat.gcd_pos_of_pos_right _ p2
  have hh : 0 < Nat.gcd q.num.natAbs p.den := Nat.gcd_pos_of_pos_right _ p1
  have hg2 : Nat.gcd p.num.natAbs q.den ≤ q.den := Nat.le_of_dvd p2 (Nat.gcd_dvd_right _ _)
  have hh2 : Nat.gcd q.num.natAbs p.den ≤ p.den := Nat.le_of_dvd p1 (Nat.gcd_dvd_right _ _)
  rw [w64 (x := ((Nat.gcd p.num.natAbs q.den : Nat) : Int)) (by unfold I64; omega), w64 (x := ((Nat.gcd q.num.natAbs p.den : Nat) : Int)) (by unfold I64; omega)]
  rw [tdiv_gcd, tdiv_gcd]
  rw [show Int.tdiv (p.den : Int) ((Nat.gcd q.num.natAbs p.den : Nat) : Int) = ((p.den / Nat.gcd q.num.natAbs p.den : Nat) : Int) from (Int.ofNat_tdiv _ _).symm, show Int.tdiv (q.den : Int) ((Nat.gcd p.num.natAbs q.den : Nat) : Int) = ((q.den / Nat.gcd p.num.natAbs q.den : Nat) : Int) from (Int.ofNat_tdiv _ _).symm]
  generalize hG : ((Nat.gcd p.num.natAbs q.den : Nat) : Int) = G at *
  generalize hH : ((Nat.gcd q.num.natAbs p.den : Nat) : Int) = H at *
  generalize p.num / G = n at *
  generalize q.num / H = m at *
  generalize p.den / Nat.gcd q.num.natAbs p.den = d at *
  generalize q.den / Nat.gcd p.num.natAbs q.den = e at *
  have de1 : d * e ≤ 1000000 * 1000000000000 := Nat.mul_le_mul (by omega) (by omega)
  rw [w64 (x := n) (by unfold I64; omega), w64 (x := m) (by unfold I64; omega), w64 (x := (d : Int)) (by unfold I64; omega), w64 (x := (e : Int)) (by unfold I64; omega)]
  rw [← Int.natCast_mul, w64 (x := ((d * e : Nat) : Int)) (by unfold I64; omega)]
  have hfit : Fits (p * q) ↔ n.natAbs * m.natAbs ≤ 1000000000000 ∧ d * e ≤ 1000000 := by
    unfold Fits; rw [hnum, hden, Int.natAbs_mul]
  have fail : ∀ K : Nat → Option (Int × Int × Bool), ¬ Fits (p * q) → (∀ k, K (k + 1) = some (0, 0, false)) → Ev K (res (p * q)) := by
    intro K h hK
    refine Ev.step (f := fun _ => some (0, 0, false)) hK ?_
    unfold res; rw [if_neg h]; exact Ev.now _
  have good : n.natAbs * m.natAbs ≤ 1000000000000 → Ev (fun k => num_product.j0 k n d m e (decide (((d * e : Nat) : Int) > 1000000))) (res (p * q)) := by
    intro hle
    by_cases hde : d * e ≤ 1000000
    · have hF := hfit.2 ⟨hle, hde⟩
      have hab : (n * m).natAbs ≤ 1000000000000 := by rw [Int.natAbs_mul]; exact hle
      refine Ev.step (f := fun _ => some (n * m, ((d * e : Nat) : Int), true)) (fun k => ?_) ?_
      · simp only [num_product.j0]
        rw [if_neg (by rw [decide_eq_true_iff]; omega), ← Int.natCast_mul, w64 (x := ((d * e : Nat) : Int)) (by unfold I64; omega), w64 (x := n * m) (by unfold I64; omega)]
        by_cases h0 : n * m = 0
        · rw [if_pos h0, h0]
          have hz : p * q = 0 := by rw [← Rat.num_eq_zero, hnum, h0]
          have : d * e = 1 := by rw [← hden, hz]; rfl
          rw [this]; rfl
        · rw [if_neg h0]
      · unfold res; rw [if_pos hF, hnum, hden]; exact Ev.now _
    · refine fail _ (fun h => hde (hfit.1 h).2) (fun k => ?_)
      simp only [num_product.j0]
      rw [if_pos (by rw [decide_eq_true_iff]; omega)]
  refine Ev.ite_neg (by omega) (Ev.ite_neg (by omega) ?_)
  by_cases hm : m = 0
  · refine Ev.ite_pos hm (good ?_)
    rw [hm]; simp
  · refine Ev.ite_neg hm ?_
    refine Ev.bind0 (size_eq (by unfold I64; omega)) (Ev.bind0 (size_eq (by unfold I64; omega)) ?_)
    refine Ev.ite_neg (by omega) ?_
    have ed : IntKind.u64.wrap (Int.tdiv 1000000000000 (m.natAbs : Int)) = ((1000000000000 / m.natAbs : Nat) : Int) := by
      rw [show (1000000000000 : Int) = ((1000000000000 : Nat) : Int) from rfl, ← Int.ofNat_tdiv]
      exact u64n (Nat.le_trans (Nat.div_le_self _ _) (by omega))
    rw [ed]
    have hov := over_div n.natAbs m.natAbs (by omega) 1000000000000
    by_cases hc : n.natAbs > 1000000000000 / m.natAbs
    · refine Ev.ite_pos (by omega) ?_
      refine fail _ (fun h => ?_) (fun k => ?_)
      · have := hov.1 hc; have := (hfit.1 h).1; omega
      · simp only [num_product.j0, if_true]
    · refine Ev.ite_neg (by omega) (good ?_)
      have := fun h => hc (hov.2 h)
      omega
theorem mul_ev {n d m e : Int} (hn : I64 n) (hd : I64 d) (hm : I64 m) (he : I64 e) : Ev (fun k => num_Mul.f k n d m e) (res (rat n d * rat m e)) := by
  unfold num_Mul.f
  refine Ev.bind (taken_ev hn hd) (Ev.bind (taken_ev hm he) ?_)
  have hp := fits_rat n d
  have hq := fits_rat m e
  unfold Fits at hp hq
  refine Ev.bind (product_ev _ _ (by omega) (by omega) (by omega) (by omega)) (Ev.const ?_)
  rw [res_eta]
end
section
open Go.RowKit Go.Proofs.YtlcjfabbnclalaaDoorW.PrintWords NumM
theorem rightL_loop (x y : Nat) : Ev (fun k => whittlelaw1_right.l0 k x y) (decide (Nat.gcd x y = 1)) := by
  induction x using Nat.strongRecOn generalizing y with
  | ind x ih =>
    by_cases hx : x = 0
    · subst hx
      refine Ev.step (f := fun _ => some ((y : Int) == 1)) (fun k => ?_) (Ev.const ?_)
      · simp only [whittlelaw1_right.l0]; exact if_pos rfl
      · congr 1
        rw [Bool.eq_iff_iff, beq_iff_eq, decide_eq_true_iff]
        have e := Nat.gcd_zero_left y
        constructor
        · intro h; rw [e]; omega
        · intro h; rw [e] at h; omega
    · refine Ev.step (fun k => by simp only [whittlelaw1_right.l0]; exact if_neg (by omega)) ?_
      rw [← Int.ofNat_tmod]
      refine cast (congrArg (Ev _) ?_) (ih (y % x) (Nat.mod_lt _ (by omega)) x)
      rw [Bool.eq_iff_iff, decide_eq_true_iff, decide_eq_true_iff]
      have e := Nat.gcd_rec x y
      constructor
      · intro h; rw [e]; exact h
      · intro h; rw [e] at h; exact h
theorem rightL_ev {n d : Int} (hn : I64 n) (hd : I64 d) : Ev (fun k => whittlelaw1_right.f k n d) (decide (RightP n d)) := by
  have key : ∀ x : Bool, (x = true → ¬ RightP n d) → (x = false → 1 ≤ d ∧ d ≤ 1000000 ∧ -1000000000000 ≤ n ∧ n ≤ 1000000000000) → Ev (fun k => whittlelaw1_right.j0 k x n d) (decide (RightP n d)) := by
    intro x h1 h2
    cases x with
    | true =>
      refine Ev.step (f := fun _ => some false) (fun k => by simp only [whittlelaw1_right.j0, if_true]) ?_
      rw [decide_eq_false (h1 rfl)]; exact Ev.now _
    | false =>
      obtain ⟨b1, b2, b3, b4⟩ := h2 rfl
      refine Ev.step (fun k => by simp only [whittlelaw1_right.j0]; exact if_neg (by simp)) ?_
      have fin : ∀ x : Int, x = (n.natAbs : Int) → Ev (fun k => whittlelaw1_right.j1 k x n d) (decide (RightP n d)) := by
        intro x hx
        refine Ev.step (fun k => by simp only [whittlelaw1_right.j1]; rfl) ?_
        have := rightL_loop n.natAbs d.toNat
        rw [hx, show d = ((d.toNat : Nat) : Int) by omega]
        refine cast (congrArg (Ev _) ?_) this
        rw [Bool.eq_iff_iff, decide_eq_true_iff, decide_eq_true_iff]
        unfold RightP
        rw [Int.toNat_natCast]
        omega
      by_cases hneg : n < 0
      · exact Ev.ite_pos hneg (fin _ (by rw [w64 (x := -n) (by unfold I64; omega)]; omega))
      · exact Ev.ite_neg hneg (fin _ (by omega))
  unfold whittlelaw1_right.f
  by_cases c1 : d < 1
  · exact Ev.ite_pos c1 (key true (fun _ h => by unfold RightP at h; omega) (fun h => by cases h))
  · refine Ev.ite_neg c1 ?_
    by_cases c2 : d > 1000000
    · exact Ev.ite_pos c2 (key true (fun _ h => by unfold RightP at h; omega) (fun h => by cases h))
    · refine Ev.ite_neg c2 ?_
      by_cases c3 : n < -1000000000000
      · exact Ev.ite_pos c3 (key true (fun _ h => by unfold RightP at h; omega) (fun h => by cases h))
      · refine Ev.ite_neg c3 (key _ (fun h0 h => ?_) (fun h => ?_))
        · rw [decide_eq_true_iff] at h0; unfold RightP at h; omega
        · have := of_decide_eq_false h; omega
end
section
open Go.RowKit Go.Proofs.YtlcjfabbnclalaaDoorW.PrintWords NumM
theorem res_pos {q : Rat} (h : Fits q) : res q = (q.num, (q.den : Int), true) := by unfold res; rw [if_pos h]
theorem rightF_ev {q : Rat} (h : Fits q) : Ev (fun k => whittlelaw1_right.f k q.num q.den) true := by
  have := rightL_ev (i64_num h) (i64_den h)
  rwa [decide_eq_true (right_of_fits h)] at this
end
section
open Go.RowKit Go.Proofs.YtlcjfabbnclalaaDoorW.PrintWords NumM
/-- what a call's answer counts as -/
def rr (q : Rat) : Rat := if Fits q then q else 0
theorem rr_pos {q : Rat} (h : Fits q) : rr q = q := by unfold rr; rw [if_pos h]
theorem res_i64 (q : Rat) : I64 (res q).1 ∧ I64 (res q).2.1 := by
  unfold res
  by_cases h : Fits q
  · rw [if_pos h]; exact ⟨i64_num h, i64_den h⟩
  · rw [if_neg h]; exact ⟨show I64 0 by unfold I64; omega, show I64 0 by unfold I64; omega⟩
theorem rat_res (q : Rat) : rat (res q).1 (res q).2.1 = rr q := by
  unfold res rr
  by_cases h : Fits q
  · rw [if_pos h, if_pos h]; exact rat_of_fits h
  · rw [if_neg h, if_neg h]; decide +kernel
theorem res_ok (q : Rat) : (res q).2.2 = true ↔ Fits q := by
  unfold res
  by_cases h : Fits q
  · rw [if_pos h]; exact ⟨fun _ => h, fun _ => rfl⟩
  · rw [if_neg h]; exact ⟨fun h' => (by cases h'), fun h' => absurd h' h⟩
theorem rightRes_ev {q : Rat} (h : Fits q) : Ev (fun k => whittlelaw1_right.f k (res q).1 (res q).2.1) true := by
  rw [res_pos h]; exact rightF_ev h
end
end Go.Proofs.YtlcjfabbnclalaaDoor.F
