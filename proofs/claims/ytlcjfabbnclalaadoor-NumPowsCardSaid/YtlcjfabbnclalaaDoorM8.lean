/-
Powers of the program and of the reference, as rationals.
-/
import Derived.Test.YtlcjfabbnclalaaDoorF26
import Derived.Test.YtlcjfabbnclalaaDoorF27
import Derived.Test.YtlcjfabbnclalaaDoorM4
namespace Go.Proofs.YtlcjfabbnclalaaDoor.F
open Go.RowKit Go.Proofs.YtlcjfabbnclalaaDoorW.PrintWords NumM
set_option linter.unusedVariables false
set_option linter.unusedSimpArgs false

/-- what Pow answers -/
def powQ (q : Rat) (k : Int) : Int × Int × Bool := if k = 0 then res 1 else if q = 0 then (if k < 0 then (0, 0, false) else res 0) else if k < 0 then res (q⁻¹ ^ k.natAbs) else res (q ^ k.natAbs)

theorem odd_eq (k : Int) : (Int.tmod k 2 != 0) = decide (k.natAbs % 2 = 1) := by
  rw [Bool.eq_iff_iff, bne_iff_ne, decide_eq_true_iff]
  rcases Int.lt_or_le k 0 with h | h
  · obtain ⟨m, rfl⟩ : ∃ m : Nat, k = -(m : Int) := ⟨k.natAbs, by omega⟩
    rw [Int.neg_tmod, show (2 : Int) = ((2 : Nat) : Int) from rfl, ← Int.ofNat_tmod]
    omega
  · obtain ⟨m, rfl⟩ : ∃ m : Nat, k = (m : Int) := ⟨k.natAbs, by omega⟩
    rw [show (2 : Int) = ((2 : Nat) : Int) from rfl, ← Int.ofNat_tmod]
    omega

theorem pow_sign (x : Int) (t : Nat) : x ^ t = if x < 0 ∧ t % 2 = 1 then -((x.natAbs ^ t : Nat) : Int) else ((x.natAbs ^ t : Nat) : Int) := by
  induction t with
  | zero => simp
  | succ t ih =>
    rw [Int.pow_succ, ih, Nat.pow_succ, Int.natCast_mul]
    generalize ((x.natAbs ^ t : Nat) : Int) = y
    rcases Int.lt_or_le x 0 with h | h
    · have e : ((x.natAbs : Nat) : Int) = -x := by omega
      rw [e]
      rcases Nat.mod_two_eq_zero_or_one t with h2 | h2
      · rw [if_neg (by omega), if_pos ⟨h, by omega⟩, Int.mul_neg, Int.neg_neg]
      · rw [if_pos ⟨h, h2⟩, if_neg (by omega), Int.neg_mul, Int.mul_neg]
    · have e : ((x.natAbs : Nat) : Int) = x := by omega
      rw [e, if_neg (by omega), if_neg (by omega)]

/-- what the two loops come to -/
def powOut (n d t : Nat) (minus : Bool) : Int × Int × Bool := if n ^ t ≤ 1000000000000 ∧ d ^ t ≤ 1000000 then ((if minus then -((n ^ t : Nat) : Int) else ((n ^ t : Nat) : Int)), ((d ^ t : Nat) : Int), true) else (0, 0, false)

theorem pow_out (b : Rat) (t : Nat) : res (b ^ t) = powOut b.num.natAbs b.den t (decide (b.num < 0) && decide (t % 2 = 1)) := by
  have h1 := Rat.num_pow b t
  have h2 := Rat.den_pow b t
  have hf : Fits (b ^ t) ↔ (b.num.natAbs ^ t ≤ 1000000000000 ∧ b.den ^ t ≤ 1000000) := by
    unfold Fits; rw [h1, h2, Int.natAbs_pow]
  unfold res powOut
  by_cases h : b.num.natAbs ^ t ≤ 1000000000000 ∧ b.den ^ t ≤ 1000000
  · rw [if_pos (hf.2 h), if_pos h, h1, h2, pow_sign]
    by_cases hc : b.num < 0 ∧ t % 2 = 1
    · rw [if_pos hc, if_pos (by simp [hc.1, hc.2])]
    · rw [if_neg hc, if_neg (by simpa using hc)]
  · rw [if_neg (fun h' => h (hf.1 h')), if_neg h]

theorem over_div' (x y : Nat) (hy : 0 < y) (b : Nat) : x > b / y ↔ x * y > b := by
  rw [gt_iff_lt, gt_iff_lt, Nat.div_lt_iff_lt_mul hy]

/-- one round more goes over, or not -/
theorem pow_over {n i t : Nat} (hn : 0 < n) (hi : i < t) (b : Nat) (h : n ^ i > b / n) : ¬ n ^ t ≤ b := by
  have h1 := (over_div' (n ^ i) n hn b).1 h
  have h2 : n ^ (i + 1) ≤ n ^ t := Nat.pow_le_pow_right hn hi
  rw [Nat.pow_succ] at h2
  omega

theorem pow_next {n i : Nat} (hn : 0 < n) (b : Nat) (h : ¬ n ^ i > b / n) : n ^ (i + 1) ≤ b := by
  rw [Nat.pow_succ]
  exact Nat.not_lt.1 fun h' => h ((over_div' (n ^ i) n hn b).2 h')

theorem div_lit (c n : Nat) (hc : c ≤ 18446744073709551615) : IntKind.u64.wrap (Int.tdiv (c : Int) (n : Int)) = ((c / n : Nat) : Int) := by
  rw [← Int.ofNat_tdiv]
  exact u64n (Nat.le_trans (Nat.div_le_self _ _) hc)

theorem powLoop_ev (odd : Bool) (n d t : Nat) (N D : Int) (hn : 0 < n) (hd : 0 < d) (hnd : n * d ≤ 18446744073709551615) (ht : t ≤ 18446744073709551615) :
    ∀ (j i : Nat), t - i = j → i ≤ t → n ^ i ≤ 1000000000000 → d ^ i ≤ 1000000 → Ev (fun k => num_Pow.l0 k odd n d t ((n ^ i : Nat) : Int) ((d ^ i : Nat) : Int) i N D) (powOut n d t (decide (N < 0) && odd)) := by
  intro j
  induction j with
  | zero =>
    intro i hj hi h1 h2
    have e : i = t := by omega
    subst e
    refine Ev.step (fun k => by simp only [num_Pow.l0]; exact if_neg (by omega)) ?_
    refine Ev.step (f := fun _ => some (powOut n d i (decide (N < 0) && odd))) (fun k => ?_) (Ev.now _)
    simp only [num_Pow.j4]
    rw [if_neg (by simp)]
    unfold powOut
    rw [if_pos (show n ^ i ≤ 1000000000000 ∧ d ^ i ≤ 1000000 from ⟨h1, h2⟩)]
    generalize n ^ i = X at *
    generalize d ^ i = Y at *
    rw [w64 (x := (X : Int)) (by unfold I64; omega), w64 (x := (Y : Int)) (by unfold I64; omega), w64 (x := -(X : Int)) (by unfold I64; omega)]
    by_cases hN : N < 0 <;> cases odd <;> simp [hN]
  | succ j ih =>
    intro i hj hi h1 h2
    refine Ev.step (fun k => by simp only [num_Pow.l0]; exact if_pos (by omega)) ?_
    rw [← Int.natCast_mul, u64n hnd]
    by_cases hbig : n * d > 1
    · rw [decide_eq_true (show ((n * d : Nat) : Int) > 1 by omega)]
      refine Ev.step (fun k => by simp only [num_Pow.j4, if_true]; rfl) ?_
      refine Ev.ite_neg (by omega) ?_
      rw [show (1000000000000 : Int) = ((1000000000000 : Nat) : Int) from rfl, div_lit _ _ (by omega), show (1000000 : Int) = ((1000000 : Nat) : Int) from rfl, div_lit _ _ (by omega)]
      have fail : ¬ (n ^ t ≤ 1000000000000 ∧ d ^ t ≤ 1000000) → Ev (fun _ => some ((0 : Int), (0 : Int), false)) (powOut n d t (decide (N < 0) && odd)) := by
        intro h; unfold powOut; rw [if_neg h]; exact Ev.now _
      by_cases c1 : n ^ i > 1000000000000 / n
      · exact Ev.ite_pos (by omega) (fail fun h => pow_over hn (by omega) _ c1 h.1)
      · refine Ev.ite_neg (by omega) (Ev.ite_neg (by omega) ?_)
        by_cases c2 : d ^ i > 1000000 / d
        · exact Ev.ite_pos (by omega) (fail fun h => pow_over hd (by omega) _ c2 h.2)
        · refine Ev.ite_neg (by omega) ?_
          have n1 := pow_next hn _ c1
          have n2 := pow_next hd _ c2
          have := ih (i + 1) (by omega) (by omega) n1 n2
          rw [← Int.natCast_mul, show n ^ i * n = n ^ (i + 1) from rfl, ← Int.natCast_mul, show d ^ i * d = d ^ (i + 1) from rfl, u64n (x := n ^ (i + 1)) (by omega), u64n (x := d ^ (i + 1)) (by omega), show ((i : Int) + 1) = ((i + 1 : Nat) : Int) from rfl, u64n (by omega)]
          exact this
    · rw [decide_eq_false (show ¬ ((n * d : Nat) : Int) > 1 by omega)]
      have hn1 : n = 1 := by
        rcases Nat.lt_or_ge n 2 with h | h
        · omega
        · have := Nat.mul_le_mul h (show 1 ≤ d from hd); omega
      have hd1 : d = 1 := by rw [hn1] at hbig; omega
      subst hn1 hd1
      refine Ev.step (f := fun _ => some (powOut 1 1 t (decide (N < 0) && odd))) (fun k => ?_) (Ev.now _)
      simp only [num_Pow.j4, Nat.one_pow]
      rw [if_neg (by simp)]
      unfold powOut
      simp only [Nat.one_pow]
      rw [if_pos (show 1 ≤ 1000000000000 ∧ 1 ≤ 1000000 from ⟨by omega, by omega⟩)]
      rw [show wrap64 ((1 : Nat) : Int) = 1 from w64 (by unfold I64; omega), show wrap64 (-1) = -1 from w64 (by unfold I64; omega)]
      by_cases hN : N < 0 <;> cases odd <;> simp [hN]

theorem inv_parts {q : Rat} (hq : q.num ≠ 0) : (q⁻¹).num.natAbs = q.den ∧ (q⁻¹).den = q.num.natAbs ∧ ((q⁻¹).num < 0 ↔ q.num < 0) := by
  have i1 := Rat.num_inv q
  have i2 := Rat.den_inv q
  rw [if_neg hq] at i2
  have q1 := q.den_pos
  rcases Int.lt_or_lt_of_ne hq with h | h
  · rw [Int.sign_eq_neg_one_of_neg h] at i1; exact ⟨by omega, i2, by omega⟩
  · rw [Int.sign_eq_one_of_pos h] at i1; exact ⟨by omega, i2, by omega⟩

theorem pow_ev {n d k : Int} (hn : I64 n) (hd : I64 d) (hk : I64 k) : Ev (fun r => num_Pow.f r n d k) (powQ (rat n d) k) := by
  unfold num_Pow.f
  refine Ev.bind (taken_ev hn hd) ?_
  have hq := fits_rat n d
  generalize rat n d = q at *
  have hb := fits_bounds hq
  have one : Ev (fun r => num_Pow.j0 r k (Int.tmod k 2 != 0) true q.num q.den) (res 1) :=
    Ev.step (f := fun _ => some (1, 1, true)) (fun r => by simp only [num_Pow.j0, if_true]) (Ev.now _)
  unfold powQ
  by_cases k0 : k = 0
  · rw [if_pos k0]
    exact Ev.ite_pos k0 one
  · rw [if_neg k0]
    refine Ev.ite_neg k0 ?_
    rw [odd_eq] at *
    have rest : ¬ (q.num = 1 ∧ q.den = 1) → Ev (fun r => num_Pow.j0 r k (decide (k.natAbs % 2 = 1)) false q.num q.den) (if q = 0 then (if k < 0 then (0, 0, false) else res 0) else if k < 0 then res (q⁻¹ ^ k.natAbs) else res (q ^ k.natAbs)) := by
      intro _
      refine Ev.step (fun r => by simp only [num_Pow.j0]; exact if_neg (by simp)) ?_
      by_cases q0 : q.num = 0
      · rw [if_pos (Rat.num_eq_zero.1 q0)]
        refine Ev.ite_pos q0 ?_
        by_cases kn : k < 0
        · rw [if_pos kn, decide_eq_true kn]
          exact Ev.step (f := fun _ => some (0, 0, false)) (fun r => by simp only [num_Pow.j1, if_true]) (Ev.now _)
        · rw [if_neg kn, decide_eq_false kn]
          refine Ev.step (f := fun _ => some (0, 1, true)) (fun r => ?_) (Ev.now _)
          simp only [num_Pow.j1]
          rw [if_neg (by simp), if_pos q0, Rat.num_eq_zero.1 q0]; rfl
      · rw [if_neg (fun h => q0 (Rat.num_eq_zero.2 h))]
        refine Ev.ite_neg q0 (Ev.step (fun r => by simp only [num_Pow.j1]; exact if_neg (by simp)) (Ev.ite_neg q0 ?_))
        unfold I64 at hk
        refine Ev.bind0 (size_eq (by unfold I64; omega)) (Ev.bind0 (size_eq hk) ?_)
        rw [u64n (x := q.den) (by omega)]
        have hnd : q.num.natAbs * q.den ≤ 1000000000000 * 1000000 := Nat.mul_le_mul (by omega) (by omega)
        by_cases kn : k < 0
        · rw [if_pos kn]
          refine Ev.ite_pos kn (Ev.step (fun r => by simp only [num_Pow.j2]; rfl) ?_)
          obtain ⟨i1, i2, i3⟩ := inv_parts q0
          have := powLoop_ev (decide (k.natAbs % 2 = 1)) q.den q.num.natAbs k.natAbs q.num q.den q.den_pos (by omega) (by rw [Nat.mul_comm]; omega) (by omega) k.natAbs 0 (by omega) (by omega) (by simp) (by simp)
          rw [pow_out, i1, i2, show decide ((q⁻¹).num < 0) = decide (q.num < 0) by rw [Bool.eq_iff_iff, decide_eq_true_iff, decide_eq_true_iff]; exact i3]
          exact this
        · rw [if_neg kn]
          refine Ev.ite_neg kn (Ev.step (fun r => by simp only [num_Pow.j2]; rfl) ?_)
          have := powLoop_ev (decide (k.natAbs % 2 = 1)) q.num.natAbs q.den k.natAbs q.num q.den (by omega) q.den_pos (by omega) (by omega) k.natAbs 0 (by omega) (by omega) (by simp) (by simp)
          rw [pow_out]
          exact this
    by_cases n1 : q.num = 1
    · refine Ev.ite_pos n1 ?_
      by_cases d1 : (q.den : Int) = 1
      · rw [show ((q.den : Int) == 1) = true by simpa using d1]
        have q1 : q = 1 := Rat.ext n1 (by show q.den = 1; omega)
        rw [if_neg (by rw [q1]; decide), q1]
        have hp : (1 : Rat) ^ k.natAbs = 1 := by
          generalize k.natAbs = t
          induction t with
          | zero => rfl
          | succ t ih => rw [Rat.pow_succ, ih, Rat.mul_one]
        have hi : (1 : Rat)⁻¹ = 1 := by decide +kernel
        rw [hi, hp, ite_self]
        exact Ev.step (f := fun _ => some (1, 1, true)) (fun r => by simp only [num_Pow.j0, if_true]) (Ev.now _)
      · rw [show ((q.den : Int) == 1) = false by simpa using d1]
        exact rest (fun h => d1 (by omega))
    · exact Ev.ite_neg n1 (rest (fun h => n1 h.1))

theorem powLoopR_ev (n d : Nat) (K : Int) (hK : I64 K) (N D : Int) (hn : 0 < n) (hd : 0 < d) (hc : ∀ t : Nat, Nat.gcd (n ^ t) (d ^ t) = 1) :
    ∀ (j i : Nat), K.natAbs - i = j → i ≤ K.natAbs → n ^ i ≤ 1000000000000 → d ^ i ≤ 1000000 → Ev (fun k => whittleref1_Pow.l0 k K ((n ^ i : Nat) : Int) ((d ^ i : Nat) : Int) n d i N D) (powOut n d K.natAbs (decide (N < 0) && decide (K.natAbs % 2 = 1))) := by
  have hK' := hK
  unfold I64 at hK'
  intro j
  induction j with
  | zero =>
    intro i hj hi h1 h2
    have e : i = K.natAbs := by omega
    subst e
    refine Ev.step (fun k => by simp only [whittleref1_Pow.l0]; rfl) ?_
    refine Ev.bind0 (far_eq hK) (Ev.ite_neg (by omega) ?_)
    have made : ∀ minus : Bool, Ev (fun k => (whittleref1_made.f k minus ((n ^ K.natAbs : Nat) : Int) ((d ^ K.natAbs : Nat) : Int)).bind fun b => some (b.1, b.2.1, b.2.2)) (powOut n d K.natAbs minus) := by
      intro minus
      refine Ev.bind (made_ev minus _ _ (Nat.pow_pos hd) (by omega) (by omega)) (Ev.const ?_)
      rw [hc, Nat.div_one, Nat.div_one]
      rfl
    rw [odd_eq]
    by_cases hN : N < 0
    · rw [decide_eq_true hN, Bool.true_and]; exact Ev.ite_pos hN (made _)
    · rw [decide_eq_false hN, Bool.false_and]; exact Ev.ite_neg hN (made _)
  | succ j ih =>
    intro i hj hi h1 h2
    refine Ev.step (fun k => by simp only [whittleref1_Pow.l0]; rfl) ?_
    refine Ev.bind0 (far_eq hK) (Ev.ite_pos (by omega) (Ev.ite_neg (by omega) ?_))
    rw [show (1000000000000 : Int) = ((1000000000000 : Nat) : Int) from rfl, div_lit _ _ (by omega), show (1000000 : Int) = ((1000000 : Nat) : Int) from rfl, div_lit _ _ (by omega)]
    have fail : ¬ (n ^ K.natAbs ≤ 1000000000000 ∧ d ^ K.natAbs ≤ 1000000) → Ev (fun _ => some ((0 : Int), (0 : Int), false)) (powOut n d K.natAbs (decide (N < 0) && decide (K.natAbs % 2 = 1))) := by
      intro h; unfold powOut; rw [if_neg h]; exact Ev.now _
    by_cases c1 : n ^ i > 1000000000000 / n
    · exact Ev.ite_pos (by omega) (fail fun h => pow_over hn (by omega) _ c1 h.1)
    · refine Ev.ite_neg (by omega) (Ev.ite_neg (by omega) ?_)
      by_cases c2 : d ^ i > 1000000 / d
      · exact Ev.ite_pos (by omega) (fail fun h => pow_over hd (by omega) _ c2 h.2)
      · refine Ev.ite_neg (by omega) ?_
        have n1 := pow_next hn _ c1
        have n2 := pow_next hd _ c2
        have := ih (i + 1) (by omega) (by omega) n1 n2
        rw [← Int.natCast_mul, show n ^ i * n = n ^ (i + 1) from rfl, ← Int.natCast_mul, show d ^ i * d = d ^ (i + 1) from rfl, u64n (x := n ^ (i + 1)) (by omega), u64n (x := d ^ (i + 1)) (by omega), show ((i : Int) + 1) = ((i + 1 : Nat) : Int) from rfl, u64n (by omega)]
        exact this

theorem one_pow_rat (t : Nat) : (1 : Rat) ^ t = 1 := by
  induction t with
  | zero => rfl
  | succ t ih => rw [Rat.pow_succ, ih, Rat.mul_one]

theorem minus_one_pow (t : Nat) : res ((-1 : Rat) ^ t) = if t % 2 = 1 then (-1, 1, true) else (1, 1, true) := by
  rw [pow_out]
  have e1 : (-1 : Rat).num = -1 := by decide +kernel
  have e2 : (-1 : Rat).den = 1 := by decide +kernel
  rw [e1, e2]
  unfold powOut
  rw [show Int.natAbs (-1) = 1 from rfl, Nat.one_pow, if_pos ⟨by omega, by omega⟩]
  by_cases h : t % 2 = 1 <;> simp [h]

theorem powR_ev {n d k : Int} (hn : I64 n) (hd : I64 d) (hk : I64 k) : Ev (fun r => whittleref1_Pow.f r n d k) (powQ (rat n d) k) := by
  unfold whittleref1_Pow.f
  refine Ev.bind (ofR_ev hn hd) ?_
  have hq := fits_rat n d
  generalize rat n d = q at *
  have hb := fits_bounds hq
  unfold powQ
  by_cases k0 : k = 0
  · rw [if_pos k0]
    exact Ev.ite_pos k0 (Ev.now _)
  · rw [if_neg k0]
    refine Ev.ite_neg k0 ?_
    by_cases q0 : q.num = 0
    · rw [if_pos (Rat.num_eq_zero.1 q0)]
      refine Ev.ite_pos q0 ?_
      by_cases kn : k < 0
      · rw [if_pos kn, if_pos kn]; exact Ev.now _
      · rw [if_neg kn, if_neg kn]
        refine Ev.const ?_
        rw [Rat.num_eq_zero.1 q0]; rfl
    · rw [if_neg (fun h => q0 (Rat.num_eq_zero.2 h))]
      refine Ev.ite_neg q0 ?_
      have hk' := hk
      unfold I64 at hk'
      have rest : Ev (fun r => whittleref1_Pow.j0 r k false q.num q.den 1 1) (if k < 0 then res (q⁻¹ ^ k.natAbs) else res (q ^ k.natAbs)) := by
        refine Ev.step (fun r => by simp only [whittleref1_Pow.j0]; exact if_neg (by simp)) ?_
        refine Ev.bind0 (far_eq (by unfold I64; omega)) ?_
        rw [u64n (x := q.den) (by omega)]
        by_cases kn : k < 0
        · rw [if_pos kn]
          refine Ev.ite_pos kn (Ev.bind0 (far_eq (by unfold I64; omega)) (Ev.step (fun r => by simp only [whittleref1_Pow.j1]; rfl) ?_))
          obtain ⟨i1, i2, i3⟩ := inv_parts q0
          have := powLoopR_ev q.den q.num.natAbs k hk q.num q.den q.den_pos (by omega) (fun t => by
            have := (q⁻¹ ^ t).reduced
            rw [Rat.num_pow, Rat.den_pow, Int.natAbs_pow, i1, i2] at this
            exact this) k.natAbs 0 (by omega) (by omega) (by simp) (by simp)
          rw [pow_out, i1, i2, show decide ((q⁻¹).num < 0) = decide (q.num < 0) by rw [Bool.eq_iff_iff, decide_eq_true_iff, decide_eq_true_iff]; exact i3]
          exact this
        · rw [if_neg kn]
          refine Ev.ite_neg kn (Ev.step (fun r => by simp only [whittleref1_Pow.j1]; rfl) ?_)
          have := powLoopR_ev q.num.natAbs q.den k hk q.num q.den (by omega) q.den_pos (fun t => by
            have := (q ^ t).reduced
            rw [Rat.num_pow, Rat.den_pow, Int.natAbs_pow] at this
            exact this) k.natAbs 0 (by omega) (by omega) (by simp) (by simp)
          rw [pow_out]
          exact this
      by_cases d1 : (q.den : Int) = 1
      · refine Ev.ite_pos d1 ?_
        by_cases n1 : q.num = 1
        · refine Ev.ite_pos n1 ?_
          have q1 : q = 1 := Rat.ext n1 (by show q.den = 1; omega)
          have hi : (1 : Rat)⁻¹ = 1 := by decide +kernel
          rw [q1, hi, one_pow_rat, ite_self]
          refine Ev.step (f := fun _ => some (1, 1, true)) (fun r => ?_) (Ev.now _)
          simp only [whittleref1_Pow.j0, if_true]
          rw [if_neg (by decide)]
        · refine Ev.ite_neg n1 ?_
          by_cases m1 : q.num = -1
          · rw [show (q.num == -1) = true by simpa using m1]
            have q1 : q = -1 := Rat.ext m1 (by show q.den = 1; omega)
            have hi : (-1 : Rat)⁻¹ = -1 := by decide +kernel
            rw [q1, hi, ite_self, minus_one_pow]
            refine Ev.step (f := fun _ => some (if k.natAbs % 2 = 1 then (-1, 1, true) else (1, 1, true))) (fun r => ?_) (Ev.now _)
            simp only [whittleref1_Pow.j0, if_true]
            rw [if_pos (by decide)]
            have ho := odd_eq k
            by_cases h2 : Int.tmod k 2 = 0
            · rw [if_pos h2, if_neg]
              rw [h2] at ho
              have := of_decide_eq_false ho.symm
              exact this
            · rw [if_neg h2, if_pos]
              · rfl
              · rw [bne_iff_ne.2 h2] at ho
                exact of_decide_eq_true ho.symm
          · rw [show (q.num == -1) = false by simpa using m1]; exact rest
      · exact Ev.ite_neg d1 rest
end Go.Proofs.YtlcjfabbnclalaaDoor.F
