/-
NumPowers, plainly: Pow is the product of its factors, and with a negative exponent 1 over that.
-/
import Derived.Test.YtlcjfabbnclalaaDoorF36
import Derived.Test.YtlcjfabbnclalaaDoorKNumPowers
namespace Go.Proofs.YtlcjfabbnclalaaDoor.F
open Go.RowKit Go.Proofs.YtlcjfabbnclalaaDoorW.PrintWords NumM
set_option linter.unusedVariables false
set_option linter.unusedSimpArgs false

theorem i64_and63 (n : Int) : bits .and .i64 n 63 = n % 64 := by
  have h63 : (BitVec.ofInt 64 63).toNat = 2 ^ 6 - 1 := by decide
  have key : (BitVec.ofInt 64 n &&& BitVec.ofInt 64 63).toNat = (n % ((2 ^ 64 : Nat) : Int)).toNat % 2 ^ 6 := by
    rw [BitVec.toNat_and, BitVec.toNat_ofInt, h63, Nat.and_two_pow_sub_one_eq_mod]
  show IntKind.i64.wrap ((BitVec.ofInt 64 n &&& BitVec.ofInt 64 63).toNat : Nat) = n % 64
  rw [key, IntKind.wrap_i64]
  omega

theorem fits_pow_mono {q : Rat} {i m : Nat} (hi : i ≤ m) (h : Fits (q ^ m)) : Fits (q ^ i) := by
  unfold Fits at *
  rw [Rat.num_pow, Rat.den_pow, Int.natAbs_pow] at *
  have d1 : q.den ^ i ≤ q.den ^ m := Nat.pow_le_pow_right q.den_pos hi
  rcases Nat.eq_zero_or_pos q.num.natAbs with h0 | h0
  · rw [h0]
    have : (0 : Nat) ^ i ≤ 1 := by cases i <;> simp
    omega
  · have := Nat.pow_le_pow_right h0 hi
    omega

theorem zero_pow_rat {m : Nat} (h : m ≠ 0) : (0 : Rat) ^ m = 0 := by
  obtain ⟨j, rfl⟩ := Nat.exists_eq_succ_of_ne_zero h
  rw [Rat.pow_succ, Rat.mul_zero]

theorem pow_ne_rat {q : Rat} (h : q ≠ 0) (m : Nat) : q ^ m ≠ 0 := by
  intro h0
  have h1 : (q ^ m).num = 0 := by rw [h0]; rfl
  rw [Rat.num_pow] at h1
  exact h (Rat.num_eq_zero.1 (Int.natAbs_eq_zero.1 (by
    have h2 := congrArg Int.natAbs h1
    rw [Int.natAbs_pow] at h2
    exact Nat.pow_eq_zero.1 h2 |>.1)))

theorem inv_pow_rat {q : Rat} (h : q ≠ 0) (m : Nat) : (q⁻¹) ^ m = 1 / q ^ m := by
  have h1 : (q⁻¹) ^ m * q ^ m = 1 := by
    induction m with
    | zero => rw [Rat.pow_zero, Rat.pow_zero, Rat.mul_one]
    | succ m ih =>
      rw [Rat.pow_succ, Rat.pow_succ]
      have := Rat.inv_mul_cancel q h
      grind
  have h2 := pow_ne_rat h m
  grind

theorem powQ_nat (q : Rat) (m : Nat) : powQ q m = res (q ^ m) := by
  unfold powQ
  by_cases m0 : m = 0
  · subst m0; rw [if_pos (by rfl), Rat.pow_zero]
  · rw [if_neg (by omega)]
    by_cases q0 : q = 0
    · rw [if_pos q0, if_neg (by omega), q0, zero_pow_rat m0]
    · rw [if_neg q0, if_neg (by omega), Int.natAbs_natCast]

theorem powQ_neg (q : Rat) (m : Nat) : powQ q (-(m : Int)) = if m ≠ 0 ∧ q = 0 then (0, 0, false) else res (1 / q ^ m) := by
  unfold powQ
  by_cases m0 : m = 0
  · subst m0; rw [if_pos (by omega), if_neg (by simp), Rat.pow_zero]; decide +kernel
  · rw [if_neg (by omega)]
    by_cases q0 : q = 0
    · rw [if_pos q0, if_pos (by omega), if_pos ⟨m0, q0⟩]
    · rw [if_neg q0, if_pos (by omega), if_neg (fun h => q0 h.2), Int.natAbs_neg, Int.natAbs_natCast, inv_pow_rat q0]

theorem powF_ev {q : Rat} {k : Int} (hq : Fits q) (hk : I64 k) : Ev (fun r => num_Pow.f r q.num q.den k) (powQ q k) := by
  have := pow_ev (i64_num hq) (i64_den hq) hk
  rwa [rat_of_fits hq] at this

theorem powers_j4t {q : Rat} {m : Nat} (x11 : Bool) (a b c d : Int) (h : x11 = true → m = 0 ∨ q.num ≠ 0) : Ev (fun k => whittlelaw1_NumPowers.j4 k m x11 true q.num q.den a b c d) true := by
  refine Ev.step (fun k => by simp only [whittlelaw1_NumPowers.j4, if_true]; rfl) ?_
  cases x11 with
  | true =>
    refine Ev.ite_pos (by simp) ?_
    by_cases m0 : m = 0
    · exact Ev.ite_pos (by omega) (Ev.now _)
    · refine Ev.ite_neg (by omega) (Ev.const ?_)
      rcases h rfl with h | h
      · exact absurd h m0
      · simpa using h
  | false => exact Ev.ite_neg (by simp) (Ev.now _)

theorem powers_j3t {q : Rat} {m : Nat} (hm : m ≤ 63) (hq : Fits q) (hx : Fits (q ^ m)) : Ev (fun k => whittlelaw1_NumPowers.j3 k m true false q.num q.den (q ^ m).num (q ^ m).den) true := by
  refine Ev.step (fun k => by simp only [whittlelaw1_NumPowers.j3]; exact if_neg (by simp)) ?_
  rw [w64 (x := -(m : Int)) (by unfold I64; omega)]
  refine Ev.bind (powF_ev hq (by unfold I64; omega)) (Ev.ite_pos (by simp) ?_)
  rw [powQ_neg]
  by_cases q0 : q = 0
  · rw [show (q.num == 0) = true by rw [q0]; rfl]
    refine powers_j4t _ _ _ _ _ fun h => ?_
    by_cases m0 : m = 0
    · exact Or.inl m0
    · rw [if_pos ⟨m0, q0⟩] at h; cases h
  · have hn : q.num ≠ 0 := fun h => q0 (Rat.num_eq_zero.1 h)
    rw [if_neg (fun h => q0 h.2), show (q.num == 0) = false by simpa using hn]
    refine Ev.step (fun k => by simp only [whittlelaw1_NumPowers.j4]; exact if_neg (by simp)) ?_
    refine Ev.bind0 (show whittlelaw1_one.f = some (1, 1) from rfl) ?_
    have := div_ev (n := 1) (d := 1) (by unfold I64; omega) (by unfold I64; omega) (i64_num hx) (i64_den hx)
    rw [rat_of_fits hx, if_neg (pow_ne_rat q0 m), show rat 1 1 = 1 by decide +kernel] at this
    refine Ev.bind this ?_
    refine Ev.ite_pos (by simp) ?_
    by_cases hf : Fits (1 / q ^ m)
    · rw [res_pos hf]; exact Ev.ite_pos (by simp) (Ev.const (by simp))
    · rw [res_neg hf]; exact Ev.ite_neg (by simp) (Ev.now _)

theorem powers_j2t {q : Rat} {m : Nat} (hm : m ≤ 63) (hq : Fits q) (hx : Fits (q ^ m)) : Ev (fun k => whittlelaw1_NumPowers.j2 k m true q.num q.den (q ^ m).num (q ^ m).den) true := by
  refine Ev.step (fun k => by simp only [whittlelaw1_NumPowers.j2]; rfl) ?_
  refine Ev.bind (powF_ev hq (by unfold I64; omega)) ?_
  rw [powQ_nat, res_pos hx]
  refine Ev.ite_neg (by simp) (Ev.ite_pos (by simp) ?_)
  rw [show (!((q ^ m).num == (q ^ m).num) || (!(((q ^ m).den : Int) == ((q ^ m).den : Int)))) = false by simp]
  exact powers_j3t hm hq hx

theorem powers_j2f {q : Rat} {m : Nat} (hm : m ≤ 63) (hq : Fits q) (hx : ¬ Fits (q ^ m)) (a b : Int) : Ev (fun k => whittlelaw1_NumPowers.j2 k m false q.num q.den a b) true := by
  refine Ev.step (fun k => by simp only [whittlelaw1_NumPowers.j2]; rfl) ?_
  refine Ev.bind (powF_ev hq (by unfold I64; omega)) ?_
  rw [powQ_nat, res_neg hx]
  refine Ev.ite_neg (by simp) (Ev.ite_neg (by simp) ?_)
  refine Ev.step (fun k => by simp only [whittlelaw1_NumPowers.j3]; exact if_neg (by simp)) ?_
  rw [w64 (x := -(m : Int)) (by unfold I64; omega)]
  refine Ev.bind (powF_ev hq (by unfold I64; omega)) (Ev.ite_neg (by simp) ?_)
  refine powers_j4t _ _ _ _ _ fun _ => ?_
  by_cases m0 : m = 0
  · exact Or.inl m0
  · refine Or.inr fun h => hx ?_
    rw [Rat.num_eq_zero.1 h, zero_pow_rat m0]; exact fits_zero

theorem powers_loop {q : Rat} {m : Nat} (hm : m ≤ 63) (hq : Fits q) : ∀ (j i : Nat), m - i = j → i ≤ m → Fits (q ^ i) → Ev (fun k => whittlelaw1_NumPowers.l0 k m true i q.num q.den (q ^ i).num (q ^ i).den) true := by
  intro j
  induction j with
  | zero =>
    intro i hj hi h
    have e : i = m := by omega
    subst e
    exact Ev.step (fun k => by simp only [whittlelaw1_NumPowers.l0]; exact if_neg (by omega)) (powers_j2t hm hq h)
  | succ j ih =>
    intro i hj hi h
    refine Ev.step (fun k => by simp only [whittlelaw1_NumPowers.l0]; exact if_pos (by omega)) ?_
    refine Ev.ite_pos (by simp) (Ev.bind (mulF_ev h hq) ?_)
    rw [← Rat.pow_succ, w64 (by unfold I64; omega), show ((i : Int) + 1) = ((i + 1 : Nat) : Int) from rfl]
    by_cases hf : Fits (q ^ (i + 1))
    · rw [res_pos hf]
      exact ih (i + 1) (by omega) (by omega) hf
    · rw [res_neg hf]
      have hx : ¬ Fits (q ^ m) := fun h => hf (fits_pow_mono (by omega) h)
      refine Ev.step (fun k => by simp only [whittlelaw1_NumPowers.l0]; rfl) ?_
      by_cases c : ((i + 1 : Nat) : Int) < (m : Int)
      · exact Ev.ite_pos c (Ev.ite_neg (by simp) (powers_j2f hm hq hx 0 0))
      · exact Ev.ite_neg c (powers_j2f hm hq hx 0 0)

theorem NumPowers_pure (n d k : Int) (hn : I64 n) (hd : I64 d) (hk : I64 k) : ∃ r, whittlelaw1_NumPowers.f r n d k = some true := by
  refine Ev.rounds ?_
  unfold whittlelaw1_NumPowers.f
  refine Ev.bind able_ev (Ev.ite_pos (by simp) (Ev.bind (rightL_ev hn hd) ?_))
  by_cases h : RightP n d
  · obtain ⟨q, hq, rfl, rfl⟩ := of_right h
    rw [decide_eq_true h, show (!true) = false from rfl]
    refine Ev.step (fun k => by simp only [whittlelaw1_NumPowers.j0]; exact if_neg (by simp)) ?_
    refine Ev.bind0 (show whittlelaw1_one.f = some (1, 1) from rfl) ?_
    rw [i64_and63]
    obtain ⟨m, hm⟩ : ∃ m : Nat, k % 64 = (m : Int) := ⟨(k % 64).toNat, by omega⟩
    rw [hm]
    have := powers_loop (q := q) (m := m) (by omega) hq m 0 (by omega) (by omega) (by rw [Rat.pow_zero]; exact fits_one)
    rw [Rat.pow_zero] at this
    exact this
  · rw [decide_eq_false h, show (!false) = true from rfl]
    refine Ev.step (fun k => by simp only [whittlelaw1_NumPowers.j0, if_true]) (Ev.bind able_ev (Ev.now _))
end Go.Proofs.YtlcjfabbnclalaaDoor.F
