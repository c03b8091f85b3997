/-
Plain lemmas on fractions (over Lean's own rationals), on rounding and on decimal digits. No program is in sight.
-/
import Derived.Lib.ItoaNum
import Derived.Lib.TrimByte
set_option linter.unusedVariables false
namespace Go.Proofs.YtlcjfabbnclalaaDoor.NumM

/-- a right number: its numerator and denominator are small and share no factor -/
def RightP (n d : Int) : Prop := -1000000000000 ≤ n ∧ n ≤ 1000000000000 ∧ 1 ≤ d ∧ d ≤ 1000000 ∧ Nat.gcd n.natAbs d.toNat = 1

instance (n d : Int) : Decidable (RightP n d) := by unfold RightP; infer_instance

def Fits (q : Rat) : Prop := q.num.natAbs ≤ 1000000000000 ∧ q.den ≤ 1000000

instance (q : Rat) : Decidable (Fits q) := by unfold Fits; infer_instance

/-- the number that a pair counts as -/
def rat (n d : Int) : Rat := if RightP n d then Rat.divInt n d else 0

theorem num_of_coprime {n : Int} {d : Nat} (hd : 0 < d) (h : Nat.gcd n.natAbs d = 1) : (Rat.divInt n d).num = n ∧ (Rat.divInt n d).den = d := by
  rw [Rat.divInt_ofNat, ← Rat.mk_eq_mkRat n d (by omega) h]
  exact ⟨rfl, rfl⟩

theorem rat_right {n d : Int} (h : RightP n d) : (rat n d).num = n ∧ (rat n d).den = d.toNat := by
  unfold rat
  rw [if_pos h]
  obtain ⟨h1, h2, h3, h4, h5⟩ := h
  have e : d = (d.toNat : Int) := by omega
  have := num_of_coprime (n := n) (d := d.toNat) (by omega) h5
  rw [← e] at this
  exact this

theorem rat_wrong {n d : Int} (h : ¬ RightP n d) : rat n d = 0 := by unfold rat; rw [if_neg h]

theorem fits_rat (n d : Int) : Fits (rat n d) := by
  by_cases h : RightP n d
  · have := rat_right h
    unfold Fits
    rw [this.1, this.2]
    obtain ⟨h1, h2, h3, h4, h5⟩ := h
    omega
  · rw [rat_wrong h]; decide

theorem right_of_fits {q : Rat} (h : Fits q) : RightP q.num q.den := by
  unfold Fits at h
  have := q.den_pos
  refine ⟨by omega, by omega, by omega, by omega, ?_⟩
  have := q.reduced
  simpa using this

theorem rat_of_fits {q : Rat} (h : Fits q) : rat q.num q.den = q := by
  have := rat_right (right_of_fits h)
  apply Rat.ext
  · exact this.1
  · rw [this.2]; simp

/-- n / d in lowest terms, the way the program makes it -/
theorem divInt_num (n d : Int) (hd : d ≠ 0) : (Rat.divInt n d).num = (if decide (n < 0) ≠ decide (d < 0) then -((n.natAbs / Nat.gcd n.natAbs d.natAbs : Nat) : Int) else ((n.natAbs / Nat.gcd n.natAbs d.natAbs : Nat) : Int)) ∧ (Rat.divInt n d).den = d.natAbs / Nat.gcd n.natAbs d.natAbs := by
  have hg : Int.gcd d n = Nat.gcd n.natAbs d.natAbs := by rw [Int.gcd, Nat.gcd_comm]
  have hgp : 0 < Nat.gcd n.natAbs d.natAbs := Nat.gcd_pos_of_pos_right _ (by omega)
  have hdv : (Nat.gcd n.natAbs d.natAbs : Int) ∣ n := Int.ofNat_dvd_left.2 (Nat.gcd_dvd_left _ _)
  obtain ⟨c, hc⟩ := hdv
  rw [Rat.num_divInt, Rat.den_divInt, if_neg hd, hg]
  generalize Nat.gcd n.natAbs d.natAbs = g at *
  refine ⟨?_, rfl⟩
  have hna : n.natAbs / g = c.natAbs := by
    rw [hc, Int.natAbs_mul, Int.natAbs_natCast, Nat.mul_div_cancel_left _ hgp]
  have hnc : d.sign * n / (g : Int) = d.sign * c := by
    rw [hc, show d.sign * ((g : Int) * c) = (g : Int) * (d.sign * c) by rw [← Int.mul_assoc, Int.mul_comm d.sign, Int.mul_assoc], Int.mul_ediv_cancel_left _ (by omega)]
  rw [hna, hnc]
  have hs : (n < 0 ↔ c < 0) := by
    constructor
    · intro h
      rcases Int.lt_or_le c 0 with h' | h'
      · exact h'
      · have := Int.mul_nonneg (a := (g : Int)) (by omega) h'; omega
    · intro h
      have := Int.mul_neg_of_pos_of_neg (a := (g : Int)) (by omega) h; omega
  rcases Int.lt_or_lt_of_ne hd with h | h
  · rw [Int.sign_eq_neg_one_of_neg h]
    have : decide (d < 0) = true := by simp [h]
    rw [this]
    by_cases hn : n < 0
    · have := hs.1 hn; simp [hn]; omega
    · have : ¬ c < 0 := fun h => hn (hs.2 h); simp [hn]; omega
  · rw [Int.sign_eq_one_of_pos h]
    have : decide (d < 0) = false := by simp; omega
    rw [this]
    by_cases hn : n < 0
    · have := hs.1 hn; simp [hn]; omega
    · have : ¬ c < 0 := fun h => hn (hs.2 h); simp [hn]; omega

end Go.Proofs.YtlcjfabbnclalaaDoor.NumM

namespace Go.Proofs.YtlcjfabbnclalaaDoor.NumM

theorem mul_num_den (a b : Rat) : (a * b).num = a.num / (Nat.gcd a.num.natAbs b.den : Nat) * (b.num / (Nat.gcd b.num.natAbs a.den : Nat)) ∧ (a * b).den = a.den / Nat.gcd b.num.natAbs a.den * (b.den / Nat.gcd a.num.natAbs b.den) := by
  have : a * b = Rat.mul a b := rfl
  rw [this]
  unfold Rat.mul
  constructor
  · dsimp only
    rw [Int.divExact_eq_ediv, Int.divExact_eq_ediv]
  · dsimp only
    rw [Nat.divExact_eq_div, Nat.divExact_eq_div]

theorem add_formula (a b : Rat) : a + b = Rat.divInt (a.num * b.den + b.num * a.den) (a.den * b.den) := by
  rw [Rat.add_def', ← Rat.divInt_ofNat, Int.natCast_mul]

theorem divInt_pos_floor (n d : Int) (hd : 0 < d) : (Rat.divInt n d).floor = n / d := by
  have key : ∀ x : Int, x ≤ (Rat.divInt n d).floor ↔ x ≤ n / d := by
    intro x
    rw [Rat.le_floor_iff, Rat.divInt_eq_div, Int.le_ediv_iff_mul_le hd]
    have hd' : (0 : Rat) < (d : Rat) := Rat.intCast_pos.2 hd
    rw [← Rat.intCast_le_intCast, Rat.intCast_mul]
    have e : ((n : Rat) / d) * d = n := Rat.div_mul_cancel (Rat.ne_of_gt hd')
    constructor
    · intro h
      have := Rat.mul_le_mul_of_nonneg_right h (Rat.le_of_lt hd')
      rwa [e] at this
    · intro h
      rw [← e] at h
      exact Rat.le_of_mul_le_mul_right h hd'
  have h1 := (key _).1 (Int.le_refl _)
  have h2 := (key _).2 (Int.le_refl _)
  omega

theorem divInt_floor (n d : Int) (hd : d ≠ 0) : (Rat.divInt n d).floor = n.fdiv d := by
  rcases Int.lt_or_lt_of_ne hd with h | h
  · rw [← Rat.neg_divInt_neg, divInt_pos_floor _ _ (by omega)]
    rw [← Int.fdiv_eq_ediv_of_nonneg _ (by omega), Int.neg_fdiv_neg]
  · rw [divInt_pos_floor _ _ h, Int.fdiv_eq_ediv_of_nonneg _ (by omega)]

theorem divInt_div (a b : Rat) (hb : b.num ≠ 0) : a / b = Rat.divInt (a.num * b.den) (b.num * a.den) := by
  have h1 : a = Rat.divInt a.num a.den := (Rat.num_divInt_den a).symm
  have h2 : b = Rat.divInt b.num b.den := (Rat.num_divInt_den b).symm
  rw [Rat.div_def]
  conv => lhs; rw [h1, h2]
  rw [Rat.inv_divInt, Rat.divInt_mul_divInt, Int.mul_comm (a.den : Int)]

theorem cmp_lt (a b : Rat) : a.num * b.den < b.num * a.den ↔ a < b := (Rat.lt_iff a b).symm
end Go.Proofs.YtlcjfabbnclalaaDoor.NumM

namespace Go.Proofs.YtlcjfabbnclalaaDoor.NumM

theorem modQ (a b : Rat) (hb : b.num ≠ 0) : a - b * ((a / b).floor : Rat) = Rat.divInt (a.num * b.den - b.num * a.den * (a.num * b.den).fdiv (b.num * a.den)) (a.den * b.den) := by
  have hy : b.num * (a.den : Int) ≠ 0 := Int.mul_ne_zero hb (by have := a.den_pos; omega)
  rw [divInt_div a b hb, divInt_floor _ _ hy]
  generalize hf : (a.num * (b.den : Int)).fdiv (b.num * (a.den : Int)) = f
  rw [Rat.divInt_eq_div]
  have h1 : a = (a.num : Rat) / (a.den : Rat) := by
    have := Rat.num_divInt_den a
    rw [Rat.divInt_eq_div] at this
    rw [← Rat.intCast_natCast]; exact this.symm
  have h2 : b = (b.num : Rat) / (b.den : Rat) := by
    have := Rat.num_divInt_den b
    rw [Rat.divInt_eq_div] at this
    rw [← Rat.intCast_natCast]; exact this.symm
  have d1 : (a.den : Rat) ≠ 0 := by have := a.den_pos; intro h; have := Rat.natCast_eq_zero_iff.1 h; omega
  have d2 : (b.den : Rat) ≠ 0 := by have := b.den_pos; intro h; have := Rat.natCast_eq_zero_iff.1 h; omega
  simp only [Rat.intCast_sub, Rat.intCast_mul, Rat.intCast_natCast]
  conv => lhs; rw [h1, h2]
  generalize (a.num : Rat) = an at *
  generalize (b.num : Rat) = bn at *
  generalize (a.den : Rat) = ad at *
  generalize (b.den : Rat) = bd at *
  generalize (f : Rat) = ff at *
  grind

theorem near_floor (n d up down : Nat) (hd : 0 < d) (hdn : 0 < down) : (((2 * (n * up) + d * down) / (2 * (d * down)) : Nat) : Int) = ((n : Rat) / d * ((up : Rat) / down) + 1 / 2).floor := by
  have hp : 0 < 2 * (d * down) := Nat.mul_pos (by omega) (Nat.mul_pos hd hdn)
  rw [Int.natCast_ediv, ← divInt_pos_floor _ _ (by omega), Rat.divInt_eq_div]
  congr 1
  simp only [Rat.intCast_natCast, Rat.natCast_add, Rat.natCast_mul]
  have d1 : (d : Rat) ≠ 0 := by intro h; have := Rat.natCast_eq_zero_iff.1 h; omega
  have d2 : (down : Rat) ≠ 0 := by intro h; have := Rat.natCast_eq_zero_iff.1 h; omega
  generalize (d : Rat) = x at *
  generalize (down : Rat) = y at *
  generalize (up : Rat) = z at *
  generalize (n : Rat) = m at *
  show (((2 : Nat) : Rat) * (m * z) + x * y) / (((2 : Nat) : Rat) * (x * y)) = _
  have e2 : ((2 : Nat) : Rat) = 2 := rfl
  rw [e2]
  grind
end Go.Proofs.YtlcjfabbnclalaaDoor.NumM

namespace Go.Proofs.YtlcjfabbnclalaaDoor.NumM

/-- the nearest whole number, of two as near the one further from 0, of q times t -/
def near (q t : Rat) : Int := if q < 0 then -((-q) * t + 1 / 2).floor else (q * t + 1 / 2).floor

theorem floor_eq {q : Rat} {k : Int} (h1 : (k : Rat) ≤ q) (h2 : q < (k : Rat) + 1) : q.floor = k := by
  have a1 := Rat.le_floor_iff.2 h1
  have h2' : q < ((k + 1 : Int) : Rat) := by rw [Rat.intCast_add]; exact h2
  have a2 := Rat.floor_lt_iff.2 h2'
  omega

theorem floor_half (k : Int) : ((k : Rat) + 1 / 2).floor = k := floor_eq (by grind) (by grind)

theorem near_zero (t : Rat) : near 0 t = 0 := by
  unfold near
  rw [if_neg (by grind), Rat.zero_mul, show (0 : Rat) + 1 / 2 = ((0 : Int) : Rat) + 1 / 2 from rfl, floor_half]

theorem near_neg (q t : Rat) : near (-q) t = -near q t := by
  by_cases h0 : q = 0
  · subst h0; rw [show (-0 : Rat) = 0 from rfl, near_zero]; rfl
  · unfold near
    by_cases h : q < 0
    · rw [if_pos h, if_neg (by grind)]; omega
    · rw [if_neg h, if_pos (by grind), Rat.neg_neg]

theorem near_nonneg {q t : Rat} (ht : 0 < t) (h : 0 ≤ q) : 0 ≤ near q t := by
  unfold near
  rw [if_neg (by grind)]
  have := Rat.mul_nonneg h (Rat.le_of_lt ht)
  exact Rat.le_floor_iff.2 (by show ((0 : Int) : Rat) ≤ _; rw [Rat.intCast_zero]; grind)

theorem near_mono {q r t : Rat} (ht : 0 < t) (h : q ≤ r) : near q t ≤ near r t := by
  by_cases hq : q < 0
  · by_cases hr : r < 0
    · have := Rat.mul_le_mul_of_nonneg_right (Rat.neg_le_neg h) (Rat.le_of_lt ht)
      unfold near
      rw [if_pos hq, if_pos hr]
      have : ((-r) * t + 1 / 2).floor ≤ ((-q) * t + 1 / 2).floor := Rat.floor_monotone (by grind)
      omega
    · have h1 := near_nonneg ht (show 0 ≤ -q by grind)
      rw [near_neg] at h1
      have h2 := near_nonneg ht (show 0 ≤ r by grind)
      omega
  · unfold near
    rw [if_neg hq, if_neg (by grind)]
    have := Rat.mul_le_mul_of_nonneg_right h (Rat.le_of_lt ht)
    exact Rat.floor_monotone (by grind)

/-- a whole number of parts stays -/
theorem near_whole (k : Int) {t : Rat} (ht : 0 < t) : near ((k : Rat) / t) t = k := by
  have ht' : t ≠ 0 := Rat.ne_of_gt ht
  have e : ((k : Rat) / t) * t = k := Rat.div_mul_cancel ht'
  have e' : -((k : Rat) / t) * t = ((-k : Int) : Rat) := by rw [Rat.neg_mul, e, Rat.intCast_neg]
  unfold near
  rw [e, e', floor_half, floor_half]
  split <;> omega

theorem near_one (q : Rat) : near q 1 = q.floor ∨ near q 1 = q.floor + 1 := by
  have h1 := Rat.floor_le q
  have h2 := Rat.lt_floor_add_one q
  rw [Rat.intCast_add] at h2
  have h2' : q < (q.floor : Rat) + 1 := h2
  unfold near
  split
  · rw [Rat.mul_one]
    by_cases hh : q.floor + (1/2 : Rat) < q
    · right
      have : (-q + 1/2).floor = -(q.floor + 1) := floor_eq (by rw [Rat.intCast_neg, Rat.intCast_add]; show -((q.floor : Rat) + 1) ≤ _; grind) (by rw [Rat.intCast_neg, Rat.intCast_add]; show _ < -((q.floor : Rat) + 1) + 1; grind)
      omega
    · left
      have : (-q + 1/2).floor = -q.floor := floor_eq (by rw [Rat.intCast_neg]; grind) (by rw [Rat.intCast_neg]; grind)
      omega
  · rw [Rat.mul_one]
    by_cases hh : q.floor + (1/2 : Rat) ≤ q
    · right
      exact floor_eq (by rw [Rat.intCast_add]; show ((q.floor : Rat) + 1) ≤ _; grind) (by rw [Rat.intCast_add]; show _ < ((q.floor : Rat) + 1) + 1; grind)
    · left
      exact floor_eq (by grind) (by grind)

theorem near_int (k : Int) : near (k : Rat) 1 = k := by
  have := near_whole k (t := 1) (by decide)
  rwa [show (k : Rat) / 1 = k by grind] at this

end Go.Proofs.YtlcjfabbnclalaaDoor.NumM

namespace Go.Proofs.YtlcjfabbnclalaaDoor.NumM
open Go.Lib

/-- reading digits: what they say, and what is behind them; none: more than 10^18 -/
def rd10 : List UInt8 → Nat → Option (Nat × List UInt8)
  | [], n => some (n, [])
  | c :: l, n => if 48 ≤ c.toNat ∧ c.toNat ≤ 57 then (if 10 * n + (c.toNat - 48) ≤ 1000000000000000000 then rd10 l (10 * n + (c.toNat - 48)) else none) else some (n, c :: l)

def isDig (c : UInt8) : Prop := 48 ≤ c.toNat ∧ c.toNat ≤ 57
instance (c : UInt8) : Decidable (isDig c) := by unfold isDig; infer_instance

def vl (n : Nat) (ds : List UInt8) : Nat := ds.foldl (fun n c => 10 * n + (c.toNat - 48)) n

theorem vl_cons (n : Nat) (c : UInt8) (ds : List UInt8) : vl n (c :: ds) = vl (10 * n + (c.toNat - 48)) ds := by unfold vl; rw [List.foldl_cons]
theorem vl_snoc (n : Nat) (c : UInt8) (ds : List UInt8) : vl n (ds ++ [c]) = 10 * vl n ds + (c.toNat - 48) := by simp [vl, List.foldl_append]
theorem vl_ge (n : Nat) (ds : List UInt8) : n ≤ vl n ds := by
  induction ds generalizing n with
  | nil => exact Nat.le_refl _
  | cons c ds ih => rw [vl_cons]; have := ih (10 * n + (c.toNat - 48)); omega

theorem rd10_app (ds rest : List UInt8) (n : Nat) (hd : ∀ c ∈ ds, isDig c) (h : vl n ds ≤ 1000000000000000000) : rd10 (ds ++ rest) n = rd10 rest (vl n ds) := by
  induction ds generalizing n with
  | nil => rfl
  | cons c ds ih =>
    have hc := hd c (by simp)
    unfold isDig at hc
    rw [vl_cons] at h
    have := vl_ge (10 * n + (c.toNat - 48)) ds
    rw [List.cons_append, rd10, if_pos hc, if_pos (by omega), ih _ (fun c hc => hd c (by simp [hc])) h, vl_cons]

theorem dig_toNat {u : Nat} (h : u < 10) : (UInt8.ofNat (48 + u)).toNat = 48 + u := by
  rw [UInt8.toNat_ofNat']; omega

theorem dec_dig (u : Nat) : ∀ c ∈ decDigits u, isDig c := by
  induction u using Nat.strongRecOn with
  | ind u ih =>
    intro c hc
    rw [decDigits] at hc
    unfold isDig
    split at hc
    · simp only [List.mem_singleton] at hc
      subst hc; rw [dig_toNat (by omega)]; omega
    · rw [List.mem_append] at hc
      rcases hc with hc | hc
      · exact ih (u / 10) (by omega) c hc
      · simp only [List.mem_singleton] at hc
        subst hc; rw [dig_toNat (by omega)]; omega

theorem dec_val (u : Nat) : vl 0 (decDigits u) = u := by
  induction u using Nat.strongRecOn with
  | ind u ih =>
    rw [decDigits]
    split
    · simp only [vl, List.foldl_cons, List.foldl_nil]; rw [dig_toNat (by omega)]; omega
    · rw [vl_snoc, ih (u / 10) (by omega), dig_toNat (by omega)]; omega

theorem dec_ne (u : Nat) : decDigits u ≠ [] := by
  rw [decDigits]; split <;> simp

/-- m digits of F, noughts ahead -/
def pad : Nat → Nat → List UInt8
  | 0, _ => []
  | m + 1, F => UInt8.ofNat (48 + F / 10 ^ m) :: pad m (F % 10 ^ m)

theorem pad_length (m F : Nat) : (pad m F).length = m := by
  induction m generalizing F with
  | zero => rfl
  | succ m ih => simp [pad, ih]

/-- the last digit split off -/
theorem pad_snoc (m F : Nat) (h : F < 10 ^ (m + 1)) : pad (m + 1) F = pad m (F / 10) ++ [UInt8.ofNat (48 + F % 10)] := by
  induction m generalizing F with
  | zero =>
    have : F < 10 := by simpa using h
    simp only [pad, List.nil_append, Nat.pow_zero, Nat.div_one]
    rw [Nat.mod_eq_of_lt this]
  | succ m ih =>
    rw [pad, ih (F % 10 ^ (m + 1)) (Nat.mod_lt _ (Nat.pow_pos (by omega)))]
    show _ = pad (m + 1) (F / 10) ++ _
    rw [pad, List.cons_append]
    have e1 : F / 10 / 10 ^ m = F / 10 ^ (m + 1) := by rw [Nat.div_div_eq_div_mul, Nat.pow_succ, Nat.mul_comm]
    have e2 : F % 10 ^ (m + 1) / 10 = F / 10 % 10 ^ m := by
      rw [Nat.pow_succ, Nat.mul_comm, Nat.mod_mul_right_div_self]
    have e3 : F % 10 ^ (m + 1) % 10 = F % 10 := by
      rw [Nat.pow_succ]; exact Nat.mod_mul_left_mod _ _ _
    rw [e1, e2, e3]

theorem dec_pad (m a F : Nat) (ha : 0 < a) (h : F < 10 ^ m) : decDigits (a * 10 ^ m + F) = decDigits a ++ pad m F := by
  induction m generalizing F with
  | zero => simp at h; subst h; simp [pad]
  | succ m ih =>
    have hp : 0 < 10 ^ m := Nat.pow_pos (by omega)
    have hpow : 10 ^ (m + 1) = 10 * 10 ^ m := by rw [Nat.pow_succ, Nat.mul_comm]
    rw [decDigits]
    have hm : a * 10 ^ (m + 1) = 10 * (a * 10 ^ m) := by rw [hpow, ← Nat.mul_assoc, Nat.mul_comm a 10, Nat.mul_assoc]
    have hge : 1 ≤ a * 10 ^ m := Nat.mul_pos ha hp
    rw [dif_neg (by omega), pad_snoc m F h, ← List.append_assoc]
    have e1 : (a * 10 ^ (m + 1) + F) / 10 = a * 10 ^ m + F / 10 := by omega
    have e2 : (a * 10 ^ (m + 1) + F) % 10 = F % 10 := by omega
    rw [e1, e2, ih (F / 10) (by omega)]

/-- what long division writes -/
def frac : Nat → Nat → List UInt8
  | 0, _ => []
  | m + 1, F => if F = 0 then [] else UInt8.ofNat (48 + F / 10 ^ m) :: frac m (F % 10 ^ m)

theorem trim_cons (c : UInt8) (l : List UInt8) : trimRightB (c :: l) 48 = if trimRightB l 48 = [] then (if c = 48 then [] else [c]) else c :: trimRightB l 48 := by
  unfold trimRightB
  rw [List.reverse_cons, List.dropWhile_append]
  by_cases h : l.reverse.dropWhile (· == 48) = []
  · rw [h]
    simp only [List.isEmpty_nil, if_true, List.reverse_nil]
    rw [List.dropWhile_cons]
    by_cases hc : c = 48 <;> simp [hc]
  · have : (l.reverse.dropWhile (· == 48)).isEmpty = false := by simpa using h
    rw [this]
    simp [h]

theorem trim_pad (m F : Nat) (h : F < 10 ^ m) : trimRightB (pad m F) 48 = frac m F ∧ (frac m F = [] ↔ F = 0) := by
  induction m generalizing F with
  | zero =>
    simp at h
    subst h
    exact ⟨rfl, by simp [frac]⟩
  | succ m ih =>
    have hp : 0 < 10 ^ m := Nat.pow_pos (by omega)
    obtain ⟨i1, i2⟩ := ih (F % 10 ^ m) (Nat.mod_lt _ hp)
    have hq : F / 10 ^ m < 10 := by
      rw [Nat.div_lt_iff_lt_mul hp]; rw [Nat.pow_succ] at h; omega
    have hc : (UInt8.ofNat (48 + F / 10 ^ m) = 48) ↔ F / 10 ^ m = 0 := by
      rw [← UInt8.toNat_inj, dig_toNat hq]; show 48 + F / 10 ^ m = 48 ↔ _; omega
    have hdm := Nat.div_add_mod F (10 ^ m)
    rw [pad, frac, trim_cons, i1]
    by_cases hF : F = 0
    · subst hF
      simp only [Nat.zero_mod, Nat.zero_div] at *
      have := i2.2 trivial
      simp [this]
    · rw [if_neg hF]
      refine ⟨?_, by simp [hF]⟩
      by_cases hr : F % 10 ^ m = 0
      · rw [if_pos (i2.2 hr), if_neg, i2.2 hr]
        rw [hc]
        intro h0
        rw [h0, hr] at hdm
        omega
      · rw [if_neg (fun h => hr (i2.1 h))]

theorem frac_dig (m F : Nat) (h : F < 10 ^ m) : ∀ c ∈ frac m F, isDig c := by
  induction m generalizing F with
  | zero => intro c hc; simp [frac] at hc
  | succ m ih =>
    intro c hc
    have hp : 0 < 10 ^ m := Nat.pow_pos (by omega)
    have hq : F / 10 ^ m < 10 := by
      rw [Nat.div_lt_iff_lt_mul hp]; rw [Nat.pow_succ] at h; omega
    rw [frac] at hc
    split at hc
    · simp at hc
    · rcases List.mem_cons.1 hc with hc | hc
      · subst hc; unfold isDig; rw [dig_toNat hq]; generalize F / 10 ^ m = q at hq; omega
      · exact ih _ (Nat.mod_lt _ hp) c hc

/-- the digits say F over 10^m -/
theorem frac_val (m F n : Nat) (h : F < 10 ^ m) : vl n (frac m F) * 10 ^ (m - (frac m F).length) = n * 10 ^ m + F ∧ (frac m F).length ≤ m := by
  induction m generalizing F n with
  | zero => simp at h; subst h; simp [frac, vl]
  | succ m ih =>
    have hp : 0 < 10 ^ m := Nat.pow_pos (by omega)
    have hq : F / 10 ^ m < 10 := by
      rw [Nat.div_lt_iff_lt_mul hp]; rw [Nat.pow_succ] at h; omega
    rw [frac]
    split
    · rename_i h0; subst h0; simp [vl]
    · obtain ⟨h1, h2⟩ := ih (F % 10 ^ m) (10 * n + F / 10 ^ m) (Nat.mod_lt _ hp)
      rw [vl_cons, dig_toNat hq, List.length_cons]
      have e1 : 48 + F / 10 ^ m - 48 = F / 10 ^ m := by generalize F / 10 ^ m = q; omega
      have e2 : m + 1 - ((frac m (F % 10 ^ m)).length + 1) = m - (frac m (F % 10 ^ m)).length := by omega
      rw [e1, e2, h1]
      have hdm := Nat.div_add_mod F (10 ^ m)
      have e3 : (10 * n + F / 10 ^ m) * 10 ^ m = n * 10 ^ (m + 1) + 10 ^ m * (F / 10 ^ m) := by
        rw [Nat.add_mul, Nat.pow_succ, Nat.mul_comm 10 n, Nat.mul_assoc, Nat.mul_comm 10 (10 ^ m), Nat.mul_comm (F / 10 ^ m)]
      refine ⟨by omega, by omega⟩
end Go.Proofs.YtlcjfabbnclalaaDoor.NumM

