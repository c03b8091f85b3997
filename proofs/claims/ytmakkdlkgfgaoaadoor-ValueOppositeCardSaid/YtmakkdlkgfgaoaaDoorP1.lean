/-
Plain lemmas on the program's numbers: each function of the package num answers what the rationals say.
-/
import Derived.Lib.ItoaNum
import Derived.Lib.TrimByte
import Derived.Test.YtmakkdlkgfgaoaaDoorF101
import Derived.Test.YtmakkdlkgfgaoaaDoorF102
import Derived.Test.YtmakkdlkgfgaoaaDoorG0
set_option linter.unusedVariables false
set_option linter.unusedSimpArgs false
namespace Go.Proofs.YtmakkdlkgfgaoaaDoor.NumM
section
open Go.Lib

/-- a right number: its numerator and denominator are small and share no factor -/
def RightP (n d : Int) : Prop := -1000000000000 ≤ n ∧ n ≤ 1000000000000 ∧ 1 ≤ d ∧ d ≤ 1000000 ∧ Nat.gcd n.natAbs d.toNat = 1
instance (n d : Int) : Decidable (RightP n d) := by unfold RightP; infer_instance
def Fits (q : Rat) : Prop := q.num.natAbs ≤ 1000000000000 ∧ q.den ≤ 1000000
instance (q : Rat) : Decidable (Fits q) := by unfold Fits; infer_instance
/-- the number that a pair counts as -/
def rat (n d : Int) : Rat := if RightP n d then Rat.divInt n d else 0
theorem num_of_coprime {n : Int} {d : Nat} (hd : 0 < d) (h : Nat.gcd n.natAbs d = 1) : (Rat.divInt n d).num = n ∧ (Rat.divInt n d).den = d := by
  rw [Rat.divInt_ofNat, ← Rat.mk_eq_mkRat n d (by omega) h]
  exact ⟨rfl, rfl⟩
theorem rat_right {n d : Int} (h : RightP n d) : (rat n d).num = n ∧ (rat n d).den = d.toNat := by
  unfold rat
  rw [if_pos h]
  obtain ⟨h1, h2, h3, h4, h5⟩ := h
  have e : d = (d.toNat : Int) := by omega
  have := num_of_coprime (n := n) (d := d.toNat) (by omega) h5
  rw [← e] at this
  exact this
theorem rat_wrong {n d : Int} (h : ¬ RightP n d) : rat n d = 0 := by unfold rat; rw [if_neg h]
theorem fits_rat (n d : Int) : Fits (rat n d) := by
  by_cases h : RightP n d
  · have := rat_right h
    unfold Fits
    rw [this.1, this.2]
    obtain ⟨h1, h2, h3, h4, h5⟩ := h
    omega
  · rw [rat_wrong h]; decide
theorem right_of_fits {q : Rat} (h : Fits q) : RightP q.num q.den := by
  unfold Fits at h
  have := q.den_pos
  refine ⟨by omega, by omega, by omega, by omega, ?_⟩
  have := q.reduced
  simpa using this
theorem rat_of_fits {q : Rat} (h : Fits q) : rat q.num q.den = q := by
  have := rat_right (right_of_fits h)
  apply Rat.ext
  · exact this.1
  · rw [this.2]; simp
/-- n / d in lowest terms, the way the program makes it -/
theorem divInt_num (n d : Int) (hd : d ≠ 0) : (Rat.divInt n d).num = (if decide (n < 0) ≠ decide (d < 0) then -((n.natAbs / Nat.gcd n.natAbs d.natAbs : Nat) : Int) else ((n.natAbs / Nat.gcd n.natAbs d.natAbs : Nat) : Int)) ∧ (Rat.divInt n d).den = d.natAbs / Nat.gcd n.natAbs d.natAbs := by
  have hg : Int.gcd d n = Nat.gcd n.natAbs d.natAbs := by rw [Int.gcd, Nat.gcd_comm]
  have hgp : 0 < Nat.gcd n.natAbs d.natAbs := Nat.gcd_pos_of_pos_right _ (by omega)
  have hdv : (Nat.gcd n.natAbs d.natAbs : Int) ∣ n := Int.ofNat_dvd_left.2 (Nat.gcd_dvd_left _ _)
  obtain ⟨c, hc⟩ := hdv
  rw [Rat.num_divInt, Rat.den_divInt, if_neg hd, hg]
  generalize Nat.gcd n.natAbs d.natAbs = g at *
  refine ⟨?_, rfl⟩
  have hna : n.natAbs / g = c.natAbs := by
    rw [hc, Int.natAbs_mul, Int.natAbs_natCast, Nat.mul_div_cancel_left _ hgp]
  have hnc : d.sign * n / (g : Int) = d.sign * c := by
    rw [hc, show d.sign * ((g : Int) * c) = (g : Int) * (d.sign * c) by rw [← Int.mul_assoc, Int.mul_comm d.sign, Int.mul_assoc], Int.mul_ediv_cancel_left _ (by omega)]
  rw [hna, hnc]
  have hs : (n < 0 ↔ c < 0) := by
    constructor
    · intro h
      rcases Int.lt_or_le c 0 with h' | h'
      · exact h'
      · have := Int.mul_nonneg (a := (g : Int)) (by omega) h'; omega
    · intro h
      have := Int.mul_neg_of_pos_of_neg (a := (g : Int)) (by omega) h; omega
  rcases Int.lt_or_lt_of_ne hd with h | h
  · rw [Int.sign_eq_neg_one_of_neg h]
    have : decide (d < 0) = true := by simp [h]
    rw [this]
    by_cases hn : n < 0
    · have := hs.1 hn; simp [hn]; omega
    · have : ¬ c < 0 := fun h => hn (hs.2 h); simp [hn]; omega
  · rw [Int.sign_eq_one_of_pos h]
    have : decide (d < 0) = false := by simp; omega
    rw [this]
    by_cases hn : n < 0
    · have := hs.1 hn; simp [hn]; omega
    · have : ¬ c < 0 := fun h => hn (hs.2 h); simp [hn]; omega
theorem mul_num_den (a b : Rat) : (a * b).num = a.num / (Nat.gcd a.num.natAbs b.den : Nat) * (b.num / (Nat.gcd b.num.natAbs a.den : Nat)) ∧ (a * b).den = a.den / Nat.gcd b.num.natAbs a.den * (b.den / Nat.gcd a.num.natAbs b.den) := by
  have : a * b = Rat.mul a b := rfl
  rw [this]
  unfold Rat.mul
  constructor
  · dsimp only
    rw [Int.divExact_eq_ediv, Int.divExact_eq_ediv]
  · dsimp only
    rw [Nat.divExact_eq_div, Nat.divExact_eq_div]
theorem add_formula (a b : Rat) : a + b = Rat.divInt (a.num * b.den + b.num * a.den) (a.den * b.den) := by
  rw [Rat.add_def', ← Rat.divInt_ofNat, Int.natCast_mul]
theorem cmp_lt (a b : Rat) : a.num * b.den < b.num * a.den ↔ a < b := (Rat.lt_iff a b).symm
/-- reading digits: what they say, and what is behind them; none: more than 10^18 -/
def rd10 : List UInt8 → Nat → Option (Nat × List UInt8)
  | [], n => some (n, [])
  | c :: l, n => if 48 ≤ c.toNat ∧ c.toNat ≤ 57 then (if 10 * n + (c.toNat - 48) ≤ 1000000000000000000 then rd10 l (10 * n + (c.toNat - 48)) else none) else some (n, c :: l)
def isDig (c : UInt8) : Prop := 48 ≤ c.toNat ∧ c.toNat ≤ 57
instance (c : UInt8) : Decidable (isDig c) := by unfold isDig; infer_instance
def vl (n : Nat) (ds : List UInt8) : Nat := ds.foldl (fun n c => 10 * n + (c.toNat - 48)) n
theorem vl_cons (n : Nat) (c : UInt8) (ds : List UInt8) : vl n (c :: ds) = vl (10 * n + (c.toNat - 48)) ds := by unfold vl; rw [List.foldl_cons]
theorem vl_snoc (n : Nat) (c : UInt8) (ds : List UInt8) : vl n (ds ++ [c]) = 10 * vl n ds + (c.toNat - 48) := by simp [vl, List.foldl_append]
theorem vl_ge (n : Nat) (ds : List UInt8) : n ≤ vl n ds := by
  induction ds generalizing n with
  | nil => exact Nat.le_refl _
  | cons c ds ih => rw [vl_cons]; have := ih (10 * n + (c.toNat - 48)); omega
theorem rd10_app (ds rest : List UInt8) (n : Nat) (hd : ∀ c ∈ ds, isDig c) (h : vl n ds ≤ 1000000000000000000) : rd10 (ds ++ rest) n = rd10 rest (vl n ds) := by
  induction ds generalizing n with
  | nil => rfl
  | cons c ds ih =>
    have hc := hd c (by simp)
    unfold isDig at hc
    rw [vl_cons] at h
    have := vl_ge (10 * n + (c.toNat - 48)) ds
    rw [List.cons_append, rd10, if_pos hc, if_pos (by omega), ih _ (fun c hc => hd c (by simp [hc])) h, vl_cons]
theorem dig_toNat {u : Nat} (h : u < 10) : (UInt8.ofNat (48 + u)).toNat = 48 + u := by
  rw [UInt8.toNat_ofNat']; omega
theorem dec_dig (u : Nat) : ∀ c ∈ decDigits u, isDig c := by
  induction u using Nat.strongRecOn with
  | ind u ih =>
    intro c hc
    rw [decDigits] at hc
    unfold isDig
    split at hc
    · simp only [List.mem_singleton] at hc
      subst hc; rw [dig_toNat (by omega)]; omega
    · rw [List.mem_append] at hc
      rcases hc with hc | hc
      · exact ih (u / 10) (by omega) c hc
      · simp only [List.mem_singleton] at hc
        subst hc; rw [dig_toNat (by omega)]; omega
theorem dec_val (u : Nat) : vl 0 (decDigits u) = u := by
  induction u using Nat.strongRecOn with
  | ind u ih =>
    rw [decDigits]
    split
    · simp only [vl, List.foldl_cons, List.foldl_nil]; rw [dig_toNat (by omega)]; omega
    · rw [vl_snoc, ih (u / 10) (by omega), dig_toNat (by omega)]; omega
theorem dec_ne (u : Nat) : decDigits u ≠ [] := by
  rw [decDigits]; split <;> simp
/-- m digits of F, noughts ahead -/
def pad : Nat → Nat → List UInt8
  | 0, _ => []
  | m + 1, F => UInt8.ofNat (48 + F / 10 ^ m) :: pad m (F % 10 ^ m)
theorem pad_length (m F : Nat) : (pad m F).length = m := by
  induction m generalizing F with
  | zero => rfl
  | succ m ih => simp [pad, ih]
/-- the last digit split off -/
theorem pad_snoc (m F : Nat) (h : F < 10 ^ (m + 1)) : pad (m + 1) F = pad m (F / 10) ++ [UInt8.ofNat (48 + F % 10)] := by
  induction m generalizing F with
  | zero =>
    have : F < 10 := by simpa using h
    simp only [pad, List.nil_append, Nat.pow_zero, Nat.div_one]
    rw [Nat.mod_eq_of_lt this]
  | succ m ih =>
    rw [pad, ih (F % 10 ^ (m + 1)) (Nat.mod_lt _ (Nat.pow_pos (by omega)))]
    show _ = pad (m + 1) (F / 10) ++ _
    rw [pad, List.cons_append]
    have e1 : F / 10 / 10 ^ m = F / 10 ^ (m + 1) := by rw [Nat.div_div_eq_div_mul, Nat.pow_succ, Nat.mul_comm]
    have e2 : F % 10 ^ (m + 1) / 10 = F / 10 % 10 ^ m := by
      rw [Nat.pow_succ, Nat.mul_comm, Nat.mod_mul_right_div_self]
    have e3 : F % 10 ^ (m + 1) % 10 = F % 10 := by
      rw [Nat.pow_succ]; exact Nat.mod_mul_left_mod _ _ _
    rw [e1, e2, e3]
theorem dec_pad (m a F : Nat) (ha : 0 < a) (h : F < 10 ^ m) : decDigits (a * 10 ^ m + F) = decDigits a ++ pad m F := by
  induction m generalizing F with
  | zero => simp at h; subst h; simp [pad]
  | succ m ih =>
    have hp : 0 < 10 ^ m := Nat.pow_pos (by omega)
    have hpow : 10 ^ (m + 1) = 10 * 10 ^ m := by rw [Nat.pow_succ, Nat.mul_comm]
    rw [decDigits]
    have hm : a * 10 ^ (m + 1) = 10 * (a * 10 ^ m) := by rw [hpow, ← Nat.mul_assoc, Nat.mul_comm a 10, Nat.mul_assoc]
    have hge : 1 ≤ a * 10 ^ m := Nat.mul_pos ha hp
    rw [dif_neg (by omega), pad_snoc m F h, ← List.append_assoc]
    have e1 : (a * 10 ^ (m + 1) + F) / 10 = a * 10 ^ m + F / 10 := by omega
    have e2 : (a * 10 ^ (m + 1) + F) % 10 = F % 10 := by omega
    rw [e1, e2, ih (F / 10) (by omega)]
/-- what long division writes -/
def frac : Nat → Nat → List UInt8
  | 0, _ => []
  | m + 1, F => if F = 0 then [] else UInt8.ofNat (48 + F / 10 ^ m) :: frac m (F % 10 ^ m)
theorem trim_cons (c : UInt8) (l : List UInt8) : trimRightB (c :: l) 48 = if trimRightB l 48 = [] then (if c = 48 then [] else [c]) else c :: trimRightB l 48 := by
  unfold trimRightB
  rw [List.reverse_cons, List.dropWhile_append]
  by_cases h : l.reverse.dropWhile (· == 48) = []
  · rw [h]
    simp only [List.isEmpty_nil, if_true, List.reverse_nil]
    rw [List.dropWhile_cons]
    by_cases hc : c = 48 <;> simp [hc]
  · have : (l.reverse.dropWhile (· == 48)).isEmpty = false := by simpa using h
    rw [this]
    simp [h]
theorem trim_pad (m F : Nat) (h : F < 10 ^ m) : trimRightB (pad m F) 48 = frac m F ∧ (frac m F = [] ↔ F = 0) := by
  induction m generalizing F with
  | zero =>
    simp at h
    subst h
    exact ⟨rfl, by simp [frac]⟩
  | succ m ih =>
    have hp : 0 < 10 ^ m := Nat.pow_pos (by omega)
    obtain ⟨i1, i2⟩ := ih (F % 10 ^ m) (Nat.mod_lt _ hp)
    have hq : F / 10 ^ m < 10 := by
      rw [Nat.div_lt_iff_lt_mul hp]; rw [Nat.pow_succ] at h; omega
    have hc : (UInt8.ofNat (48 + F / 10 ^ m) = 48) ↔ F / 10 ^ m = 0 := by
      rw [← UInt8.toNat_inj, dig_toNat hq]; show 48 + F / 10 ^ m = 48 ↔ _; omega
    have hdm := Nat.div_add_mod F (10 ^ m)
    rw [pad, frac, trim_cons, i1]
    by_cases hF : F = 0
    · subst hF
      simp only [Nat.zero_mod, Nat.zero_div] at *
      have := i2.2 trivial
      simp [this]
    · rw [if_neg hF]
      refine ⟨?_, by simp [hF]⟩
      by_cases hr : F % 10 ^ m = 0
      · rw [if_pos (i2.2 hr), if_neg, i2.2 hr]
        rw [hc]
        intro h0
        rw [h0, hr] at hdm
        omega
      · rw [if_neg (fun h => hr (i2.1 h))]
theorem frac_dig (m F : Nat) (h : F < 10 ^ m) : ∀ c ∈ frac m F, isDig c := by
  induction m generalizing F with
  | zero => intro c hc; simp [frac] at hc
  | succ m ih =>
    intro c hc
    have hp : 0 < 10 ^ m := Nat.pow_pos (by omega)
    have hq : F / 10 ^ m < 10 := by
      rw [Nat.div_lt_iff_lt_mul hp]; rw [Nat.pow_succ] at h; omega
    rw [frac] at hc
    split at hc
    · simp at hc
    · rcases List.mem_cons.1 hc with hc | hc
      · subst hc; unfold isDig; rw [dig_toNat hq]; generalize F / 10 ^ m = q at hq; omega
      · exact ih _ (Nat.mod_lt _ hp) c hc
/-- the digits say F over 10^m -/
theorem frac_val (m F n : Nat) (h : F < 10 ^ m) : vl n (frac m F) * 10 ^ (m - (frac m F).length) = n * 10 ^ m + F ∧ (frac m F).length ≤ m := by
  induction m generalizing F n with
  | zero => simp at h; subst h; simp [frac, vl]
  | succ m ih =>
    have hp : 0 < 10 ^ m := Nat.pow_pos (by omega)
    have hq : F / 10 ^ m < 10 := by
      rw [Nat.div_lt_iff_lt_mul hp]; rw [Nat.pow_succ] at h; omega
    rw [frac]
    split
    · rename_i h0; subst h0; simp [vl]
    · obtain ⟨h1, h2⟩ := ih (F % 10 ^ m) (10 * n + F / 10 ^ m) (Nat.mod_lt _ hp)
      rw [vl_cons, dig_toNat hq, List.length_cons]
      have e1 : 48 + F / 10 ^ m - 48 = F / 10 ^ m := by generalize F / 10 ^ m = q; omega
      have e2 : m + 1 - ((frac m (F % 10 ^ m)).length + 1) = m - (frac m (F % 10 ^ m)).length := by omega
      rw [e1, e2, h1]
      have hdm := Nat.div_add_mod F (10 ^ m)
      have e3 : (10 * n + F / 10 ^ m) * 10 ^ m = n * 10 ^ (m + 1) + 10 ^ m * (F / 10 ^ m) := by
        rw [Nat.add_mul, Nat.pow_succ, Nat.mul_comm 10 n, Nat.mul_assoc, Nat.mul_comm 10 (10 ^ m), Nat.mul_comm (F / 10 ^ m)]
      refine ⟨by omega, by omega⟩
end
end Go.Proofs.YtmakkdlkgfgaoaaDoor.NumM
namespace Go.Proofs.YtmakkdlkgfgaoaaDoor.F
section
open Go.RowKit Go.Proofs.YtmakkdlkgfgaoaaDoorW.PrintWords NumM
/-- an int of Go's -/
def I64 (a : Int) : Prop := -9223372036854775808 ≤ a ∧ a ≤ 9223372036854775807
theorem w64 {x : Int} (h : I64 x) : wrap64 x = x := by unfold I64 at h; unfold wrap64; omega
theorem u64 {x : Int} (h0 : 0 ≤ x) (h1 : x ≤ 18446744073709551615) : IntKind.u64.wrap x = x := by rw [IntKind.wrap_u64]; omega
theorem u64n {x : Nat} (h : x ≤ 18446744073709551615) : IntKind.u64.wrap (x : Int) = x := u64 (Int.natCast_nonneg _) (by omega)
theorem Ev.const {α : Type} {o : Option α} {r : α} (h : o = some r) : Ev (fun _ => o) r := ⟨0, fun _ _ => h⟩
theorem Ev.ite_pos {α : Type} {c : Prop} [Decidable c] {g f : Nat → Option α} {r : α} (h : c) (k : Ev g r) : Ev (fun n => if c then g n else f n) r := by
  obtain ⟨K, k⟩ := k
  exact ⟨K, fun n hn => (if_pos h).trans (k n hn)⟩
theorem Ev.ite_neg {α : Type} {c : Prop} [Decidable c] {g f : Nat → Option α} {r : α} (h : ¬ c) (k : Ev f r) : Ev (fun n => if c then g n else f n) r := by
  obtain ⟨K, k⟩ := k
  exact ⟨K, fun n hn => (if_neg h).trans (k n hn)⟩
/-- a call that takes no rounds -/
theorem Ev.bind0 {α β : Type} {o : Option α} {f : Nat → α → Option β} {a : α} {r : β} (h : o = some a) (k : Ev (fun n => f n a) r) : Ev (fun n => o.bind (f n)) r := by
  obtain ⟨K, k⟩ := k
  exact ⟨K, fun n hn => by rw [h]; exact k n hn⟩
theorem size_eq {a : Int} (h : I64 a) : num_size.f a = some (a.natAbs : Int) := by
  unfold num_size.f I64 at *
  simp only [IntKind.wrap_u64]
  split
  · congr 1; omega
  · congr 1; omega
theorem gcd_ev (a b : Nat) : Ev (fun k => num_gcd.f k a b) (Nat.gcd a b : Int) := by
  show Ev (fun k => num_gcd.l0 k a b) _
  induction b using Nat.strongRecOn generalizing a with
  | ind b ih =>
    by_cases hb : b = 0
    · subst hb
      refine Ev.step (f := fun _ => some (a : Int)) (fun k => ?_) (by rw [Nat.gcd_zero_right]; exact Ev.now _)
      simp only [num_gcd.l0]
      rw [if_neg (by simp)]
    · refine Ev.step (f := fun k => num_gcd.l0 k b ((a % b : Nat) : Int)) (fun k => ?_) ?_
      · simp only [num_gcd.l0]
        rw [if_pos (by omega), if_neg (by omega), Int.ofNat_tmod]
      · have := ih (a % b) (Nat.mod_lt _ (by omega)) b
        rw [show Nat.gcd a b = Nat.gcd b (a % b) by rw [Nat.gcd_comm a b, Nat.gcd_rec b a, Nat.gcd_comm]]
        exact this
/-- what a call answers of a fraction: it, if it fits -/
def res (q : Rat) : Int × Int × Bool := if Fits q then (q.num, (q.den : Int), true) else (0, 0, false)
/-- what Make answers -/
def mk (n d : Int) : Int × Int × Bool := if d = 0 then (0, 0, false) else res (Rat.divInt n d)
/-- a quotient of the two, put together -/
theorem res_divInt {n d : Int} (hd : d ≠ 0) : res (Rat.divInt n d) = (if n.natAbs / Nat.gcd n.natAbs d.natAbs ≤ 1000000000000 ∧ d.natAbs / Nat.gcd n.natAbs d.natAbs ≤ 1000000 then ((if decide (n < 0) ≠ decide (d < 0) then -((n.natAbs / Nat.gcd n.natAbs d.natAbs : Nat) : Int) else ((n.natAbs / Nat.gcd n.natAbs d.natAbs : Nat) : Int)), ((d.natAbs / Nat.gcd n.natAbs d.natAbs : Nat) : Int), true) else (0, 0, false)) := by
  obtain ⟨h1, h2⟩ := divInt_num n d hd
  generalize n.natAbs / Nat.gcd n.natAbs d.natAbs = x at *
  generalize d.natAbs / Nat.gcd n.natAbs d.natAbs = y at *
  have h3 : (Rat.divInt n d).num.natAbs = x := by
    rw [h1]; split <;> omega
  have hf : Fits (Rat.divInt n d) ↔ (x ≤ 1000000000000 ∧ y ≤ 1000000) := by
    unfold Fits
    rw [h3, h2]
  unfold res
  by_cases hc : x ≤ 1000000000000 ∧ y ≤ 1000000
  · rw [if_pos (hf.2 hc), if_pos hc, h1, h2]
  · rw [if_neg (fun h => hc (hf.1 h)), if_neg hc]
theorem make_ev {n d : Int} (hn : I64 n) (hd : I64 d) : Ev (fun k => num_Make.f k n d) (mk n d) := by
  unfold num_Make.f mk
  by_cases h0 : d = 0
  · rw [if_pos h0]
    exact Ev.ite_pos h0 (Ev.now _)
  · rw [if_neg h0]
    refine Ev.ite_neg h0 ?_
    refine Ev.bind0 (size_eq hn) (Ev.bind0 (size_eq hd) ?_)
    rw [res_divInt h0]
    unfold I64 at *
    refine Ev.bind (gcd_ev n.natAbs d.natAbs) ?_
    have hg : 0 < Nat.gcd n.natAbs d.natAbs := Nat.gcd_pos_of_pos_right _ (by omega)
    generalize hgg : Nat.gcd n.natAbs d.natAbs = g at *
    have q1 : n.natAbs / g ≤ n.natAbs := Nat.div_le_self _ _
    have q2 : d.natAbs / g ≤ d.natAbs := Nat.div_le_self _ _
    have e1 : IntKind.u64.wrap (Int.tdiv (n.natAbs : Int) (g : Int)) = ((n.natAbs / g : Nat) : Int) := by
      rw [← Int.ofNat_tdiv]; exact u64n (Nat.le_trans (Nat.div_le_self _ _) (by omega))
    have e2 : IntKind.u64.wrap (Int.tdiv (d.natAbs : Int) (g : Int)) = ((d.natAbs / g : Nat) : Int) := by
      rw [← Int.ofNat_tdiv]; exact u64n (Nat.le_trans (Nat.div_le_self _ _) (by omega))
    simp only [e1, e2]
    generalize n.natAbs / g = x at *
    generalize d.natAbs / g = y at *
    refine Ev.ite_neg (by omega) ?_
    by_cases hx : x > 1000000000000
    · refine Ev.ite_pos (by omega) (Ev.step (f := fun _ => some (0, 0, false)) (fun k => ?_) ?_)
      · simp only [num_Make.j0, if_true]
      · rw [if_neg (by omega)]; exact Ev.now _
    · refine Ev.ite_neg (by omega) ?_
      by_cases hy : y > 1000000
      · refine Ev.step (f := fun _ => some (0, 0, false)) (fun k => ?_) ?_
        · simp only [num_Make.j0]; rw [if_pos (by rw [decide_eq_true_iff]; omega)]
        · rw [if_neg (by omega)]; exact Ev.now _
      · rw [if_pos (by omega)]
        refine Ev.step (f := fun _ => some ((if decide (n < 0) ≠ decide (d < 0) then -(x : Int) else (x : Int)), (y : Int), true)) (fun k => ?_) (Ev.now _)
        simp only [num_Make.j0]
        rw [if_neg (by rw [decide_eq_true_iff]; omega), w64 (x := (x : Int)) (by unfold I64; omega), w64 (x := (y : Int)) (by unfold I64; omega), w64 (x := -(x : Int)) (by unfold I64; omega)]
        by_cases hs : decide (n < 0) = decide (d < 0) <;> simp [hs]
/-- Right tells whether it is right -/
theorem right_ev {n d : Int} (hn : I64 n) (hd : I64 d) : Ev (fun k => num_Right.f k n d) (decide (RightP n d)) := by
  have key : ∀ x : Bool, (x = true → ¬ RightP n d) → (x = false → 1 ≤ d ∧ d ≤ 1000000 ∧ -1000000000000 ≤ n ∧ n ≤ 1000000000000) → Ev (fun k => num_Right.j0 k x n d) (decide (RightP n d)) := by
    intro x h1 h2
    cases x with
    | true =>
      refine Ev.step (f := fun _ => some false) (fun k => by simp only [num_Right.j0, if_true]) ?_
      rw [decide_eq_false (h1 rfl)]; exact Ev.now _
    | false =>
      obtain ⟨b1, b2, b3, b4⟩ := h2 rfl
      refine Ev.step (fun k => by simp only [num_Right.j0]; exact if_neg (by simp)) ?_
      refine Ev.bind0 (size_eq hn) ?_
      have e : IntKind.u64.wrap d = ((d.toNat : Nat) : Int) := by rw [u64 (by omega) (by omega)]; omega
      rw [e]
      refine Ev.bind (gcd_ev n.natAbs d.toNat) (Ev.const ?_)
      congr 1
      rw [Bool.eq_iff_iff, beq_iff_eq, decide_eq_true_iff]
      unfold RightP
      omega
  unfold num_Right.f
  by_cases c1 : n < -1000000000000
  · exact Ev.ite_pos c1 (key true (fun _ h => by unfold RightP at h; omega) (fun h => by cases h))
  · refine Ev.ite_neg c1 ?_
    by_cases c2 : n > 1000000000000
    · exact Ev.ite_pos c2 (key true (fun _ h => by unfold RightP at h; omega) (fun h => by cases h))
    · refine Ev.ite_neg c2 ?_
      by_cases c3 : d < 1
      · exact Ev.ite_pos c3 (key true (fun _ h => by unfold RightP at h; omega) (fun h => by cases h))
      · refine Ev.ite_neg c3 (key _ (fun h0 h => ?_) (fun h => ?_))
        · rw [decide_eq_true_iff] at h0; unfold RightP at h; omega
        · have := of_decide_eq_false h; omega
theorem taken_ev {n d : Int} (hn : I64 n) (hd : I64 d) : Ev (fun k => num_taken.f k n d) ((rat n d).num, ((rat n d).den : Int)) := by
  unfold num_taken.f
  refine Ev.bind (right_ev hn hd) ?_
  by_cases h : RightP n d
  · rw [decide_eq_true h]
    refine Ev.ite_pos rfl (Ev.const ?_)
    have := rat_right h
    rw [this.1, this.2]
    obtain ⟨_, _, h3, _⟩ := h
    rw [show ((d.toNat : Nat) : Int) = d by omega]
  · rw [decide_eq_false h]
    refine Ev.ite_neg (by simp) (Ev.const ?_)
    rw [rat_wrong h]; rfl
/-- bounds of what counts -/
theorem fits_bounds {q : Rat} (h : Fits q) : -1000000000000 ≤ q.num ∧ q.num ≤ 1000000000000 ∧ 1 ≤ (q.den : Int) ∧ (q.den : Int) ≤ 1000000 := by
  unfold Fits at h
  have := q.den_pos
  omega
/-- products of parts -/
theorem mul_bounds {n d : Int} (hn : -1000000000000 ≤ n ∧ n ≤ 1000000000000) (hd : 0 ≤ d ∧ d ≤ 1000000) : -1000000000000000000 ≤ n * d ∧ n * d ≤ 1000000000000000000 := by
  have h1 : n * d ≤ 1000000000000 * d := Int.mul_le_mul_of_nonneg_right hn.2 hd.1
  have h2 : -1000000000000 * d ≤ n * d := Int.mul_le_mul_of_nonneg_right hn.1 hd.1
  omega
theorem den_bounds {d e : Int} (hd : 1 ≤ d ∧ d ≤ 1000000) (he : 1 ≤ e ∧ e ≤ 1000000) : 1 ≤ d * e ∧ d * e ≤ 1000000000000 := by
  have h1 : d * e ≤ 1000000 * e := Int.mul_le_mul_of_nonneg_right hd.2 (by omega)
  have h2 : 1 * e ≤ d * e := Int.mul_le_mul_of_nonneg_right hd.1 (by omega)
  omega
end
end Go.Proofs.YtmakkdlkgfgaoaaDoor.F
namespace Go.Proofs.YtmakkdlkgfgaoaaDoor.F
section
open Go.RowKit Go.Proofs.YtmakkdlkgfgaoaaDoorW.PrintWords NumM
/-- how two lie -/
def cmpQ (p q : Rat) : Int := if p < q then -1 else if q < p then 1 else 0
theorem cmp_parts (p q : Rat) (hp : Fits p) (hq : Fits q) : I64 (p.num * q.den) ∧ I64 (q.num * p.den) := by
  have b1 := fits_bounds hp
  have b2 := fits_bounds hq
  have m1 := mul_bounds ⟨b1.1, b1.2.1⟩ (d := (q.den : Int)) ⟨by omega, by omega⟩
  have m2 := mul_bounds ⟨b2.1, b2.2.1⟩ (d := (p.den : Int)) ⟨by omega, by omega⟩
  unfold I64
  omega
theorem cmp_ev {n d m e : Int} (hn : I64 n) (hd : I64 d) (hm : I64 m) (he : I64 e) : Ev (fun k => num_Cmp.f k n d m e) (cmpQ (rat n d) (rat m e)) := by
  unfold num_Cmp.f
  refine Ev.bind (taken_ev hn hd) (Ev.bind (taken_ev hm he) ?_)
  have hp := fits_rat n d
  have hq := fits_rat m e
  generalize rat n d = p at *
  generalize rat m e = q at *
  obtain ⟨h1, h2⟩ := cmp_parts p q hp hq
  simp only [w64 h1, w64 h2, cmp_lt, gt_iff_lt]
  refine Ev.const ?_
  unfold cmpQ
  split
  · rfl
  · split <;> rfl
theorem res_eta (x : Int × Int × Bool) : (x.1, x.2.1, x.2.2) = x := rfl
/-- the parts of a sum lie within an int -/
theorem add_parts (p q : Rat) (hp : Fits p) (hq : Fits q) : I64 (p.num * q.den) ∧ I64 (q.num * p.den) ∧ I64 (p.num * q.den + q.num * p.den) ∧ I64 ((p.den : Int) * q.den) ∧ (p.den : Int) * q.den ≠ 0 := by
  have b1 := fits_bounds hp
  have b2 := fits_bounds hq
  have m1 := mul_bounds ⟨b1.1, b1.2.1⟩ (d := (q.den : Int)) ⟨by omega, by omega⟩
  have m2 := mul_bounds ⟨b2.1, b2.2.1⟩ (d := (p.den : Int)) ⟨by omega, by omega⟩
  have m3 := den_bounds b1.2.2 b2.2.2
  unfold I64
  omega
theorem add_ev {n d m e : Int} (hn : I64 n) (hd : I64 d) (hm : I64 m) (he : I64 e) : Ev (fun k => num_Add.f k n d m e) (res (rat n d + rat m e)) := by
  unfold num_Add.f
  refine Ev.bind (taken_ev hn hd) (Ev.bind (taken_ev hm he) ?_)
  have hp := fits_rat n d
  have hq := fits_rat m e
  generalize rat n d = p at *
  generalize rat m e = q at *
  obtain ⟨h1, h2, h3, h4, h5⟩ := add_parts p q hp hq
  simp only [w64 h1, w64 h2, w64 h3, w64 h4]
  refine Ev.bind (make_ev h3 h4) (Ev.const ?_)
  rw [res_eta, add_formula]
  unfold mk
  rw [if_neg h5]
end
end Go.Proofs.YtmakkdlkgfgaoaaDoor.F
namespace Go.Proofs.YtmakkdlkgfgaoaaDoor.F
section
open Go.RowKit Go.Proofs.YtmakkdlkgfgaoaaDoorW.PrintWords NumM
/-- a rational as a pair of ints -/
def nd (q : Rat) : Int × Int := (q.num, (q.den : Int))
theorem fits_neg {q : Rat} (h : Fits q) : Fits (-q) := by
  unfold Fits at *
  rw [Rat.neg_num, Rat.neg_den, Int.natAbs_neg]
  exact h
theorem rat_nd {q : Rat} (h : Fits q) : rat (nd q).1 (nd q).2 = q := rat_of_fits h
theorem i64_num {q : Rat} (h : Fits q) : I64 q.num := by have := fits_bounds h; unfold I64; omega
theorem i64_den {q : Rat} (h : Fits q) : I64 (q.den : Int) := by have := fits_bounds h; unfold I64; omega
theorem neg_ev {n d : Int} (hn : I64 n) (hd : I64 d) : Ev (fun k => num_Neg.f k n d) (nd (-(rat n d))) := by
  unfold num_Neg.f
  refine Ev.bind (taken_ev hn hd) (Ev.const ?_)
  have h := fits_bounds (fits_rat n d)
  rw [w64 (x := -(rat n d).num) (by unfold I64; omega)]
  rfl
theorem sub_ev {n d m e : Int} (hn : I64 n) (hd : I64 d) (hm : I64 m) (he : I64 e) : Ev (fun k => num_Sub.f k n d m e) (res (rat n d - rat m e)) := by
  unfold num_Sub.f
  refine Ev.bind (neg_ev hm he) ?_
  have hf := fits_neg (fits_rat m e)
  refine Ev.bind (add_ev hn hd (i64_num hf) (i64_den hf)) (Ev.const ?_)
  rw [res_eta, rat_nd hf, Rat.sub_eq_add_neg]
end
end Go.Proofs.YtmakkdlkgfgaoaaDoor.F
namespace Go.Proofs.YtmakkdlkgfgaoaaDoor.F
section
open Go.RowKit Go.Proofs.YtmakkdlkgfgaoaaDoorW.PrintWords NumM
/-- what is left of the parts of two, what divides both taken out -/
structure Cross (p q : Rat) (n m : Int) (d e : Nat) : Prop where
  en : n = p.num / (Nat.gcd p.num.natAbs q.den : Nat)
  em : m = q.num / (Nat.gcd q.num.natAbs p.den : Nat)
  ed : d = p.den / Nat.gcd q.num.natAbs p.den
  ee : e = q.den / Nat.gcd p.num.natAbs q.den
  num : (p * q).num = n * m
  den : (p * q).den = d * e
  na : n.natAbs = p.num.natAbs / Nat.gcd p.num.natAbs q.den
  ma : m.natAbs = q.num.natAbs / Nat.gcd q.num.natAbs p.den
  nb : n.natAbs ≤ p.num.natAbs
  mb : m.natAbs ≤ q.num.natAbs
  db : d ≤ p.den
  eb : e ≤ q.den
  dp : 0 < d
  ep : 0 < e
theorem gcd_dvd_num (n : Int) (d : Nat) : ((Nat.gcd n.natAbs d : Nat) : Int) ∣ n := Int.ofNat_dvd_left.2 (Nat.gcd_dvd_left _ _)
theorem cross (p q : Rat) : Cross p q (p.num / (Nat.gcd p.num.natAbs q.den : Nat)) (q.num / (Nat.gcd q.num.natAbs p.den : Nat)) (p.den / Nat.gcd q.num.natAbs p.den) (q.den / Nat.gcd p.num.natAbs q.den) := by
  have h := mul_num_den p q
  have n1 : (p.num / (Nat.gcd p.num.natAbs q.den : Nat)).natAbs = p.num.natAbs / Nat.gcd p.num.natAbs q.den := by
    rw [Int.natAbs_ediv_of_dvd (gcd_dvd_num _ _), Int.natAbs_natCast]
  have n2 : (q.num / (Nat.gcd q.num.natAbs p.den : Nat)).natAbs = q.num.natAbs / Nat.gcd q.num.natAbs p.den := by
    rw [Int.natAbs_ediv_of_dvd (gcd_dvd_num _ _), Int.natAbs_natCast]
  exact ⟨rfl, rfl, rfl, rfl, h.1, h.2, n1, n2, by rw [n1]; exact Nat.div_le_self _ _, by rw [n2]; exact Nat.div_le_self _ _, Nat.div_le_self _ _, Nat.div_le_self _ _, Nat.div_gcd_pos_of_pos_right _ p.den_pos, Nat.div_gcd_pos_of_pos_right _ q.den_pos⟩
theorem tdiv_gcd (n : Int) (d : Nat) : Int.tdiv n ((Nat.gcd n.natAbs d : Nat) : Int) = n / ((Nat.gcd n.natAbs d : Nat) : Int) := Int.tdiv_eq_ediv_of_dvd (gcd_dvd_num _ _)
/-- when a product of two is too great -/
theorem over_div (x y : Nat) (hy : 0 < y) (b : Nat) : x > b / y ↔ x * y > b := by
  rw [gt_iff_lt, gt_iff_lt, Nat.div_lt_iff_lt_mul hy]
theorem product_ev (p q : Rat) (hp : p.num.natAbs ≤ 1000000000000) (hpd : p.den ≤ 1000000) (hq : q.num.natAbs ≤ 1000000000000) (hqd : q.den ≤ 1000000000000) :
    Ev (fun k => num_product.f k p.num p.den q.num q.den) (res (p * q)) := by
  obtain ⟨-, -, -, -, hnum, hden, na, ma, nb, mb, db, eb, dp, ep⟩ := cross p q
  have p1 := p.den_pos
  have p2 := q.den_pos
  unfold num_product.f
  refine Ev.bind0 (size_eq (by unfold I64; omega)) ?_
  rw [u64n (x := q.den) (by omega), u64n (x := p.den) (by omega)]
  refine Ev.bind (gcd_ev p.num.natAbs q.den) ?_
  refine Ev.bind0 (size_eq (by unfold I64; omega)) ?_
  refine Ev.bind (gcd_ev q.num.natAbs p.den) ?_
  have hg : 0 < Nat.gcd p.num.natAbs q.den := Nat.gcd_pos_of_pos_right _ p2
  have hh : 0 < Nat.gcd q.num.natAbs p.den := Nat.gcd_pos_of_pos_right _ p1
  have hg2 : Nat.gcd p.num.natAbs q.den ≤ q.den := Nat.le_of_dvd p2 (Nat.gcd_dvd_right _ _)
  have hh2 : Nat.gcd q.num.natAbs p.den ≤ p.den := Nat.le_of_dvd p1 (Nat.gcd_dvd_right _ _)
  rw [w64 (x := ((Nat.gcd p.num.natAbs q.den : Nat) : Int)) (by unfold I64; omega), w64 (x := ((Nat.gcd q.num.natAbs p.den : Nat) : Int)) (by unfold I64; omega)]
  rw [tdiv_gcd, tdiv_gcd]
  rw [show Int.tdiv (p.den : Int) ((Nat.gcd q.num.natAbs p.den : Nat) : Int) = ((p.den / Nat.gcd q.num.natAbs p.den : Nat) : Int) from (Int.ofNat_tdiv _ _).symm, show Int.tdiv (q.den : Int) ((Nat.gcd p.num.natAbs q.den : Nat) : Int) = ((q.den / Nat.gcd p.num.natAbs q.den : Nat) : Int) from (Int.ofNat_tdiv _ _).symm]
  generalize hG : ((Nat.gcd p.num.natAbs q.den : Nat) : Int) = G at *
  generalize hH : ((Nat.gcd q.num.natAbs p.den : Nat) : Int) = H at *
  generalize p.num / G = n at *
  generalize q.num / H = m at *
  generalize p.den / Nat.gcd q.num.natAbs p.den = d at *
  generalize q.den / Nat.gcd p.num.natAbs q.den = e at *
  have de1 : d * e ≤ 1000000 * 1000000000000 := Nat.mul_le_mul (by omega) (by omega)
  rw [w64 (x := n) (by unfold I64; omega), w64 (x := m) (by unfold I64; omega), w64 (x := (d : Int)) (by unfold I64; omega), w64 (x := (e : Int)) (by unfold I64; omega)]
  rw [← Int.natCast_mul, w64 (x := ((d * e : Nat) : Int)) (by unfold I64; omega)]
  have hfit : Fits (p * q) ↔ n.natAbs * m.natAbs ≤ 1000000000000 ∧ d * e ≤ 1000000 := by
    unfold Fits; rw [hnum, hden, Int.natAbs_mul]
  have fail : ∀ K : Nat → Option (Int × Int × Bool), ¬ Fits (p * q) → (∀ k, K (k + 1) = some (0, 0, false)) → Ev K (res (p * q)) := by
    intro K h hK
    refine Ev.step (f := fun _ => some (0, 0, false)) hK ?_
    unfold res; rw [if_neg h]; exact Ev.now _
  have good : n.natAbs * m.natAbs ≤ 1000000000000 → Ev (fun k => num_product.j0 k n d m e (decide (((d * e : Nat) : Int) > 1000000))) (res (p * q)) := by
    intro hle
    by_cases hde : d * e ≤ 1000000
    · have hF := hfit.2 ⟨hle, hde⟩
      have hab : (n * m).natAbs ≤ 1000000000000 := by rw [Int.natAbs_mul]; exact hle
      refine Ev.step (f := fun _ => some (n * m, ((d * e : Nat) : Int), true)) (fun k => ?_) ?_
      · simp only [num_product.j0]
        rw [if_neg (by rw [decide_eq_true_iff]; omega), ← Int.natCast_mul, w64 (x := ((d * e : Nat) : Int)) (by unfold I64; omega), w64 (x := n * m) (by unfold I64; omega)]
        by_cases h0 : n * m = 0
        · rw [if_pos h0, h0]
          have hz : p * q = 0 := by rw [← Rat.num_eq_zero, hnum, h0]
          have : d * e = 1 := by rw [← hden, hz]; rfl
          rw [this]; rfl
        · rw [if_neg h0]
      · unfold res; rw [if_pos hF, hnum, hden]; exact Ev.now _
    · refine fail _ (fun h => hde (hfit.1 h).2) (fun k => ?_)
      simp only [num_product.j0]
      rw [if_pos (by rw [decide_eq_true_iff]; omega)]
  refine Ev.ite_neg (by omega) (Ev.ite_neg (by omega) ?_)
  by_cases hm : m = 0
  · refine Ev.ite_pos hm (good ?_)
    rw [hm]; simp
  · refine Ev.ite_neg hm ?_
    refine Ev.bind0 (size_eq (by unfold I64; omega)) (Ev.bind0 (size_eq (by unfold I64; omega)) ?_)
    refine Ev.ite_neg (by omega) ?_
    have ed : IntKind.u64.wrap (Int.tdiv 1000000000000 (m.natAbs : Int)) = ((1000000000000 / m.natAbs : Nat) : Int) := by
      rw [show (1000000000000 : Int) = ((1000000000000 : Nat) : Int) from rfl, ← Int.ofNat_tdiv]
      exact u64n (Nat.le_trans (Nat.div_le_self _ _) (by omega))
    rw [ed]
    have hov := over_div n.natAbs m.natAbs (by omega) 1000000000000
    by_cases hc : n.natAbs > 1000000000000 / m.natAbs
    · refine Ev.ite_pos (by omega) ?_
      refine fail _ (fun h => ?_) (fun k => ?_)
      · have := hov.1 hc; have := (hfit.1 h).1; omega
      · simp only [num_product.j0, if_true]
    · refine Ev.ite_neg (by omega) (good ?_)
      have := fun h => hc (hov.2 h)
      omega
theorem mul_ev {n d m e : Int} (hn : I64 n) (hd : I64 d) (hm : I64 m) (he : I64 e) : Ev (fun k => num_Mul.f k n d m e) (res (rat n d * rat m e)) := by
  unfold num_Mul.f
  refine Ev.bind (taken_ev hn hd) (Ev.bind (taken_ev hm he) ?_)
  have hp := fits_rat n d
  have hq := fits_rat m e
  unfold Fits at hp hq
  refine Ev.bind (product_ev _ _ (by omega) (by omega) (by omega) (by omega)) (Ev.const ?_)
  rw [res_eta]
end
end Go.Proofs.YtmakkdlkgfgaoaaDoor.F
namespace Go.Proofs.YtmakkdlkgfgaoaaDoor.F
section
open Go.RowKit Go.Proofs.YtmakkdlkgfgaoaaDoorW.PrintWords NumM
theorem div_ev {n d m e : Int} (hn : I64 n) (hd : I64 d) (hm : I64 m) (he : I64 e) : Ev (fun k => num_Div.f k n d m e) (if rat m e = 0 then (0, 0, false) else res (rat n d / rat m e)) := by
  unfold num_Div.f
  refine Ev.bind (taken_ev hn hd) (Ev.bind (taken_ev hm he) ?_)
  have hp := fits_rat n d
  have hq := fits_rat m e
  generalize rat n d = p at *
  generalize rat m e = q at *
  unfold Fits at hp hq
  by_cases hq0 : q.num = 0
  · rw [if_pos (Rat.num_eq_zero.1 hq0)]
    exact Ev.ite_pos hq0 (Ev.now _)
  · rw [if_neg (fun h => hq0 (Rat.num_eq_zero.2 h)), Rat.div_def]
    refine Ev.ite_neg hq0 ?_
    have i1 := Rat.num_inv q
    have i2 := Rat.den_inv q
    rw [if_neg hq0] at i2
    have q1 := q.den_pos
    by_cases hneg : q.num < 0
    · rw [Int.sign_eq_neg_one_of_neg hneg] at i1
      refine Ev.ite_pos hneg ?_
      rw [w64 (x := -(q.den : Int)) (by unfold I64; omega), w64 (x := -q.num) (by unfold I64; omega)]
      rw [show -(q.den : Int) = q⁻¹.num by omega, show -q.num = ((q⁻¹.den : Nat) : Int) by omega]
      refine Ev.bind (product_ev p q⁻¹ (by omega) (by omega) (by omega) (by omega)) (Ev.const ?_)
      rw [res_eta]
    · rw [Int.sign_eq_one_of_pos (by omega)] at i1
      refine Ev.ite_neg hneg ?_
      rw [show (q.den : Int) = q⁻¹.num by omega, show q.num = ((q⁻¹.den : Nat) : Int) by omega]
      refine Ev.bind (product_ev p q⁻¹ (by omega) (by omega) (by omega) (by omega)) (Ev.const ?_)
      rw [res_eta]
end
end Go.Proofs.YtmakkdlkgfgaoaaDoor.F
namespace Go.Proofs.YtmakkdlkgfgaoaaDoor.F
section
open Go.RowKit Go.Proofs.YtmakkdlkgfgaoaaDoorW.PrintWords NumM
/-- what Pow answers -/
def powQ (q : Rat) (k : Int) : Int × Int × Bool := if k = 0 then res 1 else if q = 0 then (if k < 0 then (0, 0, false) else res 0) else if k < 0 then res (q⁻¹ ^ k.natAbs) else res (q ^ k.natAbs)
theorem odd_eq (k : Int) : (Int.tmod k 2 != 0) = decide (k.natAbs % 2 = 1) := by
  rw [Bool.eq_iff_iff, bne_iff_ne, decide_eq_true_iff]
  rcases Int.lt_or_le k 0 with h | h
  · obtain ⟨m, rfl⟩ : ∃ m : Nat, k = -(m : Int) := ⟨k.natAbs, by omega⟩
    rw [Int.neg_tmod, show (2 : Int) = ((2 : Nat) : Int) from rfl, ← Int.ofNat_tmod]
    omega
  · obtain ⟨m, rfl⟩ : ∃ m : Nat, k = (m : Int) := ⟨k.natAbs, by omega⟩
    rw [show (2 : Int) = ((2 : Nat) : Int) from rfl, ← Int.ofNat_tmod]
    omega
theorem pow_sign (x : Int) (t : Nat) : x ^ t = if x < 0 ∧ t % 2 = 1 then -((x.natAbs ^ t : Nat) : Int) else ((x.natAbs ^ t : Nat) : Int) := by
  induction t with
  | zero => simp
  | succ t ih =>
    rw [Int.pow_succ, ih, Nat.pow_succ, Int.natCast_mul]
    generalize ((x.natAbs ^ t : Nat) : Int) = y
    rcases Int.lt_or_le x 0 with h | h
    · have e : ((x.natAbs : Nat) : Int) = -x := by omega
      rw [e]
      rcases Nat.mod_two_eq_zero_or_one t with h2 | h2
      · rw [if_neg (by omega), if_pos ⟨h, by omega⟩, Int.mul_neg, Int.neg_neg]
      · rw [if_pos ⟨h, h2⟩, if_neg (by omega), Int.neg_mul, Int.mul_neg]
    · have e : ((x.natAbs : Nat) : Int) = x := by omega
      rw [e, if_neg (by omega), if_neg (by omega)]
/-- what the two loops come to -/
def powOut (n d t : Nat) (minus : Bool) : Int × Int × Bool := if n ^ t ≤ 1000000000000 ∧ d ^ t ≤ 1000000 then ((if minus then -((n ^ t : Nat) : Int) else ((n ^ t : Nat) : Int)), ((d ^ t : Nat) : Int), true) else (0, 0, false)
theorem pow_out (b : Rat) (t : Nat) : res (b ^ t) = powOut b.num.natAbs b.den t (decide (b.num < 0) && decide (t % 2 = 1)) := by
  have h1 := Rat.num_pow b t
  have h2 := Rat.den_pow b t
  have hf : Fits (b ^ t) ↔ (b.num.natAbs ^ t ≤ 1000000000000 ∧ b.den ^ t ≤ 1000000) := by
    unfold Fits; rw [h1, h2, Int.natAbs_pow]
  unfold res powOut
  by_cases h : b.num.natAbs ^ t ≤ 1000000000000 ∧ b.den ^ t ≤ 1000000
  · rw [if_pos (hf.2 h), if_pos h, h1, h2, pow_sign]
    by_cases hc : b.num < 0 ∧ t % 2 = 1
    · rw [if_pos hc, if_pos (by simp [hc.1, hc.2])]
    · rw [if_neg hc, if_neg (by simpa using hc)]
  · rw [if_neg (fun h' => h (hf.1 h')), if_neg h]
theorem over_div' (x y : Nat) (hy : 0 < y) (b : Nat) : x > b / y ↔ x * y > b := by
  rw [gt_iff_lt, gt_iff_lt, Nat.div_lt_iff_lt_mul hy]
/-- one round more goes over, or not -/
theorem pow_over {n i t : Nat} (hn : 0 < n) (hi : i < t) (b : Nat) (h : n ^ i > b / n) : ¬ n ^ t ≤ b := by
  have h1 := (over_div' (n ^ i) n hn b).1 h
  have h2 : n ^ (i + 1) ≤ n ^ t := Nat.pow_le_pow_right hn hi
  rw [Nat.pow_succ] at h2
  omega
theorem pow_next {n i : Nat} (hn : 0 < n) (b : Nat) (h : ¬ n ^ i > b / n) : n ^ (i + 1) ≤ b := by
  rw [Nat.pow_succ]
  exact Nat.not_lt.1 fun h' => h ((over_div' (n ^ i) n hn b).2 h')
theorem div_lit (c n : Nat) (hc : c ≤ 18446744073709551615) : IntKind.u64.wrap (Int.tdiv (c : Int) (n : Int)) = ((c / n : Nat) : Int) := by
  rw [← Int.ofNat_tdiv]
  exact u64n (Nat.le_trans (Nat.div_le_self _ _) hc)
theorem powLoop_ev (odd : Bool) (n d t : Nat) (N D : Int) (hn : 0 < n) (hd : 0 < d) (hnd : n * d ≤ 18446744073709551615) (ht : t ≤ 18446744073709551615) :
    ∀ (j i : Nat), t - i = j → i ≤ t → n ^ i ≤ 1000000000000 → d ^ i ≤ 1000000 → Ev (fun k => num_Pow.l0 k odd n d t ((n ^ i : Nat) : Int) ((d ^ i : Nat) : Int) i N D) (powOut n d t (decide (N < 0) && odd)) := by
  intro j
  induction j with
  | zero =>
    intro i hj hi h1 h2
    have e : i = t := by omega
    subst e
    refine Ev.step (fun k => by simp only [num_Pow.l0]; exact if_neg (by omega)) ?_
    refine Ev.step (f := fun _ => some (powOut n d i (decide (N < 0) && odd))) (fun k => ?_) (Ev.now _)
    simp only [num_Pow.j4]
    rw [if_neg (by simp)]
    unfold powOut
    rw [if_pos (show n ^ i ≤ 1000000000000 ∧ d ^ i ≤ 1000000 from ⟨h1, h2⟩)]
    generalize n ^ i = X at *
    generalize d ^ i = Y at *
    rw [w64 (x := (X : Int)) (by unfold I64; omega), w64 (x := (Y : Int)) (by unfold I64; omega), w64 (x := -(X : Int)) (by unfold I64; omega)]
    by_cases hN : N < 0 <;> cases odd <;> simp [hN]
  | succ j ih =>
    intro i hj hi h1 h2
    refine Ev.step (fun k => by simp only [num_Pow.l0]; exact if_pos (by omega)) ?_
    rw [← Int.natCast_mul, u64n hnd]
    by_cases hbig : n * d > 1
    · rw [decide_eq_true (show ((n * d : Nat) : Int) > 1 by omega)]
      refine Ev.step (fun k => by simp only [num_Pow.j4, if_true]; rfl) ?_
      refine Ev.ite_neg (by omega) ?_
      rw [show (1000000000000 : Int) = ((1000000000000 : Nat) : Int) from rfl, div_lit _ _ (by omega), show (1000000 : Int) = ((1000000 : Nat) : Int) from rfl, div_lit _ _ (by omega)]
      have fail : ¬ (n ^ t ≤ 1000000000000 ∧ d ^ t ≤ 1000000) → Ev (fun _ => some ((0 : Int), (0 : Int), false)) (powOut n d t (decide (N < 0) && odd)) := by
        intro h; unfold powOut; rw [if_neg h]; exact Ev.now _
      by_cases c1 : n ^ i > 1000000000000 / n
      · exact Ev.ite_pos (by omega) (fail fun h => pow_over hn (by omega) _ c1 h.1)
      · refine Ev.ite_neg (by omega) (Ev.ite_neg (by omega) ?_)
        by_cases c2 : d ^ i > 1000000 / d
        · exact Ev.ite_pos (by omega) (fail fun h => pow_over hd (by omega) _ c2 h.2)
        · refine Ev.ite_neg (by omega) ?_
          have n1 := pow_next hn _ c1
          have n2 := pow_next hd _ c2
          have := ih (i + 1) (by omega) (by omega) n1 n2
          rw [← Int.natCast_mul, show n ^ i * n = n ^ (i + 1) from rfl, ← Int.natCast_mul, show d ^ i * d = d ^ (i + 1) from rfl, u64n (x := n ^ (i + 1)) (by omega), u64n (x := d ^ (i + 1)) (by omega), show ((i : Int) + 1) = ((i + 1 : Nat) : Int) from rfl, u64n (by omega)]
          exact this
    · rw [decide_eq_false (show ¬ ((n * d : Nat) : Int) > 1 by omega)]
      have hn1 : n = 1 := by
        rcases Nat.lt_or_ge n 2 with h | h
        · omega
        · have := Nat.mul_le_mul h (show 1 ≤ d from hd); omega
      have hd1 : d = 1 := by rw [hn1] at hbig; omega
      subst hn1 hd1
      refine Ev.step (f := fun _ => some (powOut 1 1 t (decide (N < 0) && odd))) (fun k => ?_) (Ev.now _)
      simp only [num_Pow.j4, Nat.one_pow]
      rw [if_neg (by simp)]
      unfold powOut
      simp only [Nat.one_pow]
      rw [if_pos (show 1 ≤ 1000000000000 ∧ 1 ≤ 1000000 from ⟨by omega, by omega⟩)]
      rw [show wrap64 ((1 : Nat) : Int) = 1 from w64 (by unfold I64; omega), show wrap64 (-1) = -1 from w64 (by unfold I64; omega)]
      by_cases hN : N < 0 <;> cases odd <;> simp [hN]
theorem inv_parts {q : Rat} (hq : q.num ≠ 0) : (q⁻¹).num.natAbs = q.den ∧ (q⁻¹).den = q.num.natAbs ∧ ((q⁻¹).num < 0 ↔ q.num < 0) := by
  have i1 := Rat.num_inv q
  have i2 := Rat.den_inv q
  rw [if_neg hq] at i2
  have q1 := q.den_pos
  rcases Int.lt_or_lt_of_ne hq with h | h
  · rw [Int.sign_eq_neg_one_of_neg h] at i1; exact ⟨by omega, i2, by omega⟩
  · rw [Int.sign_eq_one_of_pos h] at i1; exact ⟨by omega, i2, by omega⟩
theorem pow_ev {n d k : Int} (hn : I64 n) (hd : I64 d) (hk : I64 k) : Ev (fun r => num_Pow.f r n d k) (powQ (rat n d) k) := by
  unfold num_Pow.f
  refine Ev.bind (taken_ev hn hd) ?_
  have hq := fits_rat n d
  generalize rat n d = q at *
  have hb := fits_bounds hq
  have one : Ev (fun r => num_Pow.j0 r k (Int.tmod k 2 != 0) true q.num q.den) (res 1) :=
    Ev.step (f := fun _ => some (1, 1, true)) (fun r => by simp only [num_Pow.j0, if_true]) (Ev.now _)
  unfold powQ
  by_cases k0 : k = 0
  · rw [if_pos k0]
    exact Ev.ite_pos k0 one
  · rw [if_neg k0]
    refine Ev.ite_neg k0 ?_
    rw [odd_eq] at *
    have rest : ¬ (q.num = 1 ∧ q.den = 1) → Ev (fun r => num_Pow.j0 r k (decide (k.natAbs % 2 = 1)) false q.num q.den) (if q = 0 then (if k < 0 then (0, 0, false) else res 0) else if k < 0 then res (q⁻¹ ^ k.natAbs) else res (q ^ k.natAbs)) := by
      intro _
      refine Ev.step (fun r => by simp only [num_Pow.j0]; exact if_neg (by simp)) ?_
      by_cases q0 : q.num = 0
      · rw [if_pos (Rat.num_eq_zero.1 q0)]
        refine Ev.ite_pos q0 ?_
        by_cases kn : k < 0
        · rw [if_pos kn, decide_eq_true kn]
          exact Ev.step (f := fun _ => some (0, 0, false)) (fun r => by simp only [num_Pow.j1, if_true]) (Ev.now _)
        · rw [if_neg kn, decide_eq_false kn]
          refine Ev.step (f := fun _ => some (0, 1, true)) (fun r => ?_) (Ev.now _)
          simp only [num_Pow.j1]
          rw [if_neg (by simp), if_pos q0, Rat.num_eq_zero.1 q0]; rfl
      · rw [if_neg (fun h => q0 (Rat.num_eq_zero.2 h))]
        refine Ev.ite_neg q0 (Ev.step (fun r => by simp only [num_Pow.j1]; exact if_neg (by simp)) (Ev.ite_neg q0 ?_))
        unfold I64 at hk
        refine Ev.bind0 (size_eq (by unfold I64; omega)) (Ev.bind0 (size_eq hk) ?_)
        rw [u64n (x := q.den) (by omega)]
        have hnd : q.num.natAbs * q.den ≤ 1000000000000 * 1000000 := Nat.mul_le_mul (by omega) (by omega)
        by_cases kn : k < 0
        · rw [if_pos kn]
          refine Ev.ite_pos kn (Ev.step (fun r => by simp only [num_Pow.j2]; rfl) ?_)
          obtain ⟨i1, i2, i3⟩ := inv_parts q0
          have := powLoop_ev (decide (k.natAbs % 2 = 1)) q.den q.num.natAbs k.natAbs q.num q.den q.den_pos (by omega) (by rw [Nat.mul_comm]; omega) (by omega) k.natAbs 0 (by omega) (by omega) (by simp) (by simp)
          rw [pow_out, i1, i2, show decide ((q⁻¹).num < 0) = decide (q.num < 0) by rw [Bool.eq_iff_iff, decide_eq_true_iff, decide_eq_true_iff]; exact i3]
          exact this
        · rw [if_neg kn]
          refine Ev.ite_neg kn (Ev.step (fun r => by simp only [num_Pow.j2]; rfl) ?_)
          have := powLoop_ev (decide (k.natAbs % 2 = 1)) q.num.natAbs q.den k.natAbs q.num q.den (by omega) q.den_pos (by omega) (by omega) k.natAbs 0 (by omega) (by omega) (by simp) (by simp)
          rw [pow_out]
          exact this
    by_cases n1 : q.num = 1
    · refine Ev.ite_pos n1 ?_
      by_cases d1 : (q.den : Int) = 1
      · rw [show ((q.den : Int) == 1) = true by simpa using d1]
        have q1 : q = 1 := Rat.ext n1 (by show q.den = 1; omega)
        rw [if_neg (by rw [q1]; decide), q1]
        have hp : (1 : Rat) ^ k.natAbs = 1 := by
          generalize k.natAbs = t
          induction t with
          | zero => rfl
          | succ t ih => rw [Rat.pow_succ, ih, Rat.mul_one]
        have hi : (1 : Rat)⁻¹ = 1 := by decide +kernel
        rw [hi, hp, ite_self]
        exact Ev.step (f := fun _ => some (1, 1, true)) (fun r => by simp only [num_Pow.j0, if_true]) (Ev.now _)
      · rw [show ((q.den : Int) == 1) = false by simpa using d1]
        exact rest (fun h => d1 (by omega))
    · exact Ev.ite_neg n1 (rest (fun h => n1 h.1))
end
end Go.Proofs.YtmakkdlkgfgaoaaDoor.F
namespace Go.Proofs.YtmakkdlkgfgaoaaDoor.F
section
open Go.RowKit Go.Proofs.YtmakkdlkgfgaoaaDoorW.PrintWords NumM
/-- what Whole answers -/
def wholeQ (q : Rat) : Int × Bool := if q.den = 1 then (q.num, true) else (0, false)
theorem whole_ev {n d : Int} (hn : I64 n) (hd : I64 d) : Ev (fun k => num_Whole.f k n d) (wholeQ (rat n d)) := by
  unfold num_Whole.f wholeQ
  refine Ev.bind (taken_ev hn hd) ?_
  generalize rat n d = q at *
  by_cases h : q.den = 1
  · rw [if_pos h]; exact Ev.ite_pos (by show (q.den : Int) = 1; omega) (Ev.now _)
  · rw [if_neg h]; exact Ev.ite_neg (by show ¬ (q.den : Int) = 1; omega) (Ev.now _)
end
end Go.Proofs.YtmakkdlkgfgaoaaDoor.F
namespace Go.Proofs.YtmakkdlkgfgaoaaDoor.F
section
open Go.RowKit Go.Proofs.YtmakkdlkgfgaoaaDoorW.PrintWords NumM
/-- the string of these bytes -/
def by' (l : List UInt8) : ByteArray := ⟨l.toArray⟩
theorem by_eta (s : ByteArray) : s = by' s.data.toList := by cases s; simp [by']
theorem by_size (l : List UInt8) : (by' l).size = l.length := by simp [by', ByteArray.size]
theorem by_data (l : List UInt8) : (by' l).data.toList = l := by simp [by']
theorem by_toList (l : List UInt8) : (by' l).toList = l := by rw [ByteArray.toList_eq]; exact by_data l
theorem by_ext {a b : ByteArray} (h : a.data.toList = b.data.toList) : a = b := by rw [by_eta a, by_eta b, h]
theorem by_app (l m : List UInt8) : by' l ++ by' m = by' (l ++ m) := by
  apply by_ext; rw [ByteArray.data_append, by_data, Array.toList_append, by_data, by_data]
theorem by_extract (l : List UInt8) (a b : Nat) : (by' l).extract a b = by' ((l.drop a).take (b - a)) := by
  apply by_ext; rw [ByteArray.data_extract, Array.toList_extract, by_data, by_data]
theorem by_tail (l : List UInt8) (a : Nat) : (by' l).extract a (by' l).size = by' (l.drop a) := by
  rw [by_extract, by_size, List.take_of_length_le (by simp)]
theorem by_bt (l : List UInt8) (i : Nat) (h : i < l.length) : bt (by' l) (i : Int) = (l[i].toNat : Int) := by
  unfold bt
  rw [dif_pos (by rw [Int.toNat_natCast, by_size]; exact h)]
  simp only [Int.toNat_natCast, by']
  rfl
theorem by_bt0 (c : UInt8) (l : List UInt8) : bt (by' (c :: l)) 0 = (c.toNat : Int) := by_bt (c :: l) 0 (by simp)
/-- what digits answers of what was read of l -/
def digS (l : List UInt8) : Option (Nat × List UInt8) → Int × ByteArray × Bool
  | none => (0, by' [], false)
  | some (n, rest) => (n, by' rest, decide (rest.length < l.length))
theorem digits_loop (l : List UInt8) (hl : l.length ≤ 9223372036854775807) : ∀ (j i v : Nat), l.length - i = j → i ≤ l.length → v ≤ 1000000000000000000 → Ev (fun k => num_digits.l0 k (by' l) v i) (digS l (rd10 (l.drop i) v)) := by
  intro j
  induction j with
  | zero =>
    intro i v hj hi hv
    have e : i = l.length := by omega
    subst e
    refine Ev.step (fun k => by simp only [num_digits.l0]; exact if_neg (by rw [by_size]; omega)) ?_
    refine Ev.step (f := fun _ => some ((v : Int), by' [], decide ((l.length : Int) > 0))) (fun k => ?_) ?_
    · simp only [num_digits.j1]
      rw [if_neg (by simp), if_pos (by omega), if_pos (by rw [by_size]; omega), Int.toNat_natCast, by_tail, List.drop_length]
    · rw [List.drop_length]
      simp only [rd10, digS]
      refine Ev.const ?_
      simp
  | succ j ih =>
    intro i v hj hi hv
    have hi' : i < l.length := by omega
    refine Ev.step (fun k => by simp only [num_digits.l0]; exact if_pos (by rw [by_size]; omega)) ?_
    refine Ev.ite_pos (by omega) ?_
    rw [by_bt l i hi', List.drop_eq_getElem_cons hi']
    generalize hc : l[i] = c
    have stop : ¬ (48 ≤ c.toNat ∧ c.toNat ≤ 57) → Ev (fun k => num_digits.j1 k (by' l) v i false) (digS l (rd10 (c :: l.drop (i + 1)) v)) := by
      intro h
      rw [rd10, if_neg h, ← hc, ← List.drop_eq_getElem_cons hi']
      refine Ev.step (f := fun _ => some ((v : Int), by' (l.drop i), decide ((i : Int) > 0))) (fun k => ?_) (Ev.const ?_)
      · simp only [num_digits.j1]
        rw [if_neg (by simp), if_pos (by omega), if_pos (by rw [by_size]; omega), Int.toNat_natCast, by_tail]
      · simp only [digS, List.length_drop]
        congr 3
        rw [decide_eq_decide]; omega
    by_cases c1 : 48 ≤ c.toNat
    · refine Ev.ite_pos (by omega) ?_
      by_cases c2 : c.toNat ≤ 57
      · rw [decide_eq_true (by omega), rd10, if_pos ⟨c1, c2⟩]
        refine Ev.step (fun k => by simp only [num_digits.j1, if_true]; rfl) ?_
        refine Ev.ite_pos (by omega) (Ev.ite_pos (by rw [by_size]; omega) ?_)
        rw [by_bt l i hi', hc, show ((c.toNat : Int) - 48) % 256 = ((c.toNat - 48 : Nat) : Int) by omega]
        have hx : c.toNat - 48 ≤ 9 := by omega
        generalize c.toNat - 48 = x at *
        by_cases c3 : 10 * v + x ≤ 1000000000000000000
        · rw [if_pos c3]
          refine Ev.ite_neg (by omega) ?_
          rw [w64 (x := 10 * (v : Int)) (by unfold I64; omega), w64 (x := 10 * (v : Int) + (x : Int)) (by unfold I64; omega), w64 (x := (i : Int) + 1) (by unfold I64; omega)]
          exact ih (i + 1) (10 * v + x) (by omega) (by omega) c3
        · rw [if_neg c3]
          exact Ev.ite_pos (by omega) (Ev.now _)
      · rw [decide_eq_false (by omega)]
        exact stop (by omega)
    · exact Ev.ite_neg (by omega) (stop (by omega))
theorem digits_ev (l : List UInt8) (hl : l.length ≤ 9223372036854775807) : Ev (fun k => num_digits.f k (by' l)) (digS l (rd10 l 0)) := digits_loop l hl l.length 0 0 rfl (by omega) (by omega)
theorem power_loop (t : Nat) (ht : t ≤ 6) : ∀ (j i : Nat), t - i = j → i ≤ t → Ev (fun k => num_power.l0 k ((10 ^ i : Nat) : Int) t i) ((10 ^ t : Nat) : Int) := by
  have hb : ∀ i, i ≤ t → 10 ^ i ≤ 1000000 := fun i hi => Nat.le_trans (Nat.pow_le_pow_right (by omega) (Nat.le_trans hi ht)) (by decide)
  intro j
  induction j with
  | zero =>
    intro i hj hi
    have e : i = t := by omega
    subst e
    exact Ev.step (f := fun _ => some ((10 ^ i : Nat) : Int)) (fun k => by simp only [num_power.l0]; exact if_neg (by omega)) (Ev.now _)
  | succ j ih =>
    intro i hj hi
    refine Ev.step (fun k => by simp only [num_power.l0]; exact if_pos (by omega)) ?_
    have := hb (i + 1) (by omega)
    rw [w64 (x := ((i : Nat) : Int) + 1) (by unfold I64; omega), show ((10 ^ i : Nat) : Int) * 10 = ((10 ^ (i + 1) : Nat) : Int) by rw [Nat.pow_succ, Int.natCast_mul]; rfl, w64 (x := ((10 ^ (i + 1) : Nat) : Int)) (by unfold I64; generalize 10 ^ (i + 1) = X at *; omega)]
    exact ih (i + 1) (by omega) (by omega)
theorem powerN_ev (t : Nat) (ht : t ≤ 6) : Ev (fun k => num_power.f k t) ((10 ^ t : Nat) : Int) := power_loop t ht t 0 rfl (by omega)
/-- a number with its sign -/
def sg (minus : Bool) (n : Nat) : Int := if minus then -(n : Int) else n
/-- what is read behind the sign -/
def bodyS (minus : Bool) (l : List UInt8) : Int × Int × Bool :=
  match rd10 l 0 with
  | none => (0, 0, false)
  | some (n, rest) => if rest.length < l.length then
      match rest with
      | [] => mk (sg minus n) 1
      | c :: t => match rd10 t 0 with
        | none => (0, 0, false)
        | some (m, e) => if e.length < t.length ∧ e = [] then
            (if c = 47 then mk (sg minus n) m else if c = 46 ∧ t.length ≤ 6 ∧ n ≤ 1000000000000 then mk (sg minus (n * 10 ^ t.length + m)) (10 ^ t.length : Nat) else (0, 0, false))
          else (0, 0, false)
    else (0, 0, false)
/-- what Read reads -/
def readS : List UInt8 → Int × Int × Bool
  | [] => bodyS false []
  | c :: l => if c = 45 then bodyS true l else bodyS false (c :: l)
/-- how far digits go -/
theorem rd10_le (l : List UInt8) : ∀ (n m : Nat) (r : List UInt8), rd10 l n = some (m, r) → n ≤ 1000000000000000000 → m ≤ 1000000000000000000 ∧ r.length ≤ l.length := by
  induction l with
  | nil => intro n m r h hn; simp [rd10] at h; obtain ⟨rfl, rfl⟩ := h; exact ⟨hn, Nat.le_refl _⟩
  | cons c l ih =>
    intro n m r h hn
    rw [rd10] at h
    split at h
    · split at h
      · rename_i h2
        have := ih _ _ _ h h2
        exact ⟨this.1, by simp; omega⟩
      · cases h
    · simp at h; obtain ⟨rfl, rfl⟩ := h; exact ⟨hn, Nat.le_refl _⟩
theorem make_sg {minus : Bool} {n : Nat} {d : Int} (hn : n ≤ 9223372036854775807) (hd : I64 d) : Ev (fun k => if minus = true then (num_Make.f k (wrap64 (-(n : Int))) d).bind fun b => some (b.1, b.2.1, b.2.2) else (num_Make.f k n d).bind fun b => some (b.1, b.2.1, b.2.2)) (mk (sg minus n) d) := by
  cases minus with
  | true =>
    refine Ev.ite_pos rfl ?_
    rw [w64 (by unfold I64; omega)]
    exact Ev.bind (make_ev (by unfold I64; omega) hd) (Ev.now _)
  | false =>
    exact Ev.ite_neg (by simp) (Ev.bind (make_ev (by unfold I64; omega) hd) (Ev.now _))
theorem cut_minus (l : List UInt8) : strings_CutPrefix.f (by' l) ⟨#[45]⟩ = some (match l with | [] => (by' [], false) | c :: t => if c = 45 then (by' t, true) else (by' (c :: t), false)) := by
  have e1 : (⟨#[45]⟩ : ByteArray) = by' [45] := rfl
  have s1 : ((by' [45]).size : Int) = 1 := rfl
  unfold strings_CutPrefix.f stringslite_CutPrefix.f stringslite_HasPrefix.f
  rw [e1]
  cases l with
  | nil =>
    rw [if_neg (by rw [by_size, by_size]; simp)]
    simp
  | cons c t =>
    rw [if_pos (by rw [by_size, by_size, List.length_cons, List.length_cons, List.length_nil]; omega), if_pos (by omega), if_pos (by rw [by_size, by_size, List.length_cons, List.length_cons, List.length_nil]; omega)]
    rw [s1, show Int.toNat 1 = 1 from rfl, by_extract, by_toList, by_toList]
    by_cases hc : c = 45
    · subst hc
      simp only [if_true, Option.bind_some]
      rw [if_pos (by simp), if_pos (by omega), if_pos (by rw [by_size, List.length_cons]; omega), by_tail]
      rfl
    · simp only [if_neg hc, Option.bind_some]
      rw [if_neg (by simpa using hc)]
      rfl
theorem read_body (minus : Bool) (l : List UInt8) (hl : l.length ≤ 9223372036854775807) : Ev (fun k => (num_digits.f k (by' l)).bind fun bt141 => (if bt141.2.2 = true then (if bt141.2.1.toList = ([] : List UInt8) then (if minus = true then ((num_Make.f k (wrap64 (-bt141.1)) 1).bind fun bt144 => (some (bt144.1, bt144.2.1, bt144.2.2))) else ((num_Make.f k bt141.1 1).bind fun bt147 => (some (bt147.1, bt147.2.1, bt147.2.2)))) else (if 1 ≤ (bt141.2.1.size : Int) then ((num_digits.f k (bt141.2.1.extract 1 bt141.2.1.size)).bind fun bt150 => (if bt150.2.2 = true then (num_Read.j0 k minus bt141.1 bt141.2.1 bt150.1 (bt150.2.1.toList != ([] : List UInt8))) else (num_Read.j0 k minus bt141.1 bt141.2.1 bt150.1 true))) else (none))) else (some (0, 0, false)))) (bodyS minus l) := by
  refine Ev.bind (digits_ev l hl) ?_
  unfold bodyS
  cases h1 : rd10 l 0 with
  | none => exact Ev.ite_neg (by simp [digS]) (Ev.now _)
  | some x =>
    obtain ⟨n, rest⟩ := x
    have b1 := rd10_le l 0 n rest h1 (by omega)
    simp only [digS]
    by_cases hr : rest.length < l.length
    · rw [if_pos hr]
      refine Ev.ite_pos (by simpa using hr) ?_
      cases rest with
      | nil =>
        refine Ev.ite_pos (by rw [by_toList]) ?_
        exact make_sg (by omega) (by unfold I64; omega)
      | cons c t =>
        refine Ev.ite_neg (by rw [by_toList]; simp) (Ev.ite_pos (by rw [by_size, List.length_cons]; omega) ?_)
        rw [by_tail, List.drop_one, List.tail_cons]
        refine Ev.bind (digits_ev t (by simp at hr; omega)) ?_
        have fail : ∀ a : Int, Ev (fun k => num_Read.j0 k minus n (by' (c :: t)) a true) (0, 0, false) := fun a =>
          Ev.step (f := fun _ => some (0, 0, false)) (fun k => by simp only [num_Read.j0, if_true]) (Ev.now _)
        dsimp only
        cases h2 : rd10 t 0 with
        | none => exact Ev.ite_neg (by simp [digS]) (fail _)
        | some y =>
          obtain ⟨m, e⟩ := y
          have b2 := rd10_le t 0 m e h2 (by omega)
          simp only [digS]
          by_cases he : e.length < t.length
          · refine Ev.ite_pos (by simpa using he) ?_
            rw [by_toList]
            by_cases e0 : e = []
            · rw [if_pos ⟨he, e0⟩, e0, show (([] : List UInt8) != []) = false from rfl]
              refine Ev.step (fun k => by simp only [num_Read.j0]; exact if_neg (by simp)) ?_
              refine Ev.ite_pos (by rw [by_size, List.length_cons]; omega) ?_
              rw [by_bt0, by_size, List.length_cons]
              by_cases hs : c = 47
              · rw [if_pos hs]
                refine Ev.ite_pos (by rw [hs]; rfl) ?_
                exact make_sg (by omega) (by unfold I64; omega)
              · have hs' : ¬ (c.toNat : Int) = 47 := fun h => hs (UInt8.toNat_inj.1 (by show c.toNat = 47; omega))
                rw [if_neg hs]
                refine Ev.ite_neg hs' ?_
                have fail1 : Ev (fun k => num_Read.j1 k minus n (by' (c :: t)) m true) (0, 0, false) :=
                  Ev.step (f := fun _ => some (0, 0, false)) (fun k => by simp only [num_Read.j1, if_true]) (Ev.now _)
                by_cases hp : c = 46
                · refine Ev.ite_pos (by rw [hp]; rfl) ?_
                  by_cases ht : t.length ≤ 6
                  · refine Ev.ite_neg (by omega) ?_
                    by_cases hn : n ≤ 1000000000000
                    · rw [if_pos ⟨hp, ht, hn⟩, decide_eq_false (by omega)]
                      refine Ev.step (fun k => by simp only [num_Read.j1]; exact if_neg (by simp)) ?_
                      rw [by_size, List.length_cons, show (((t.length + 1 : Nat) : Int) - 1) = (t.length : Int) by omega, w64 (by unfold I64; omega)]
                      refine Ev.bind (powerN_ev t.length ht) ?_
                      have hp10 : 10 ^ t.length ≤ 1000000 := Nat.le_trans (Nat.pow_le_pow_right (by omega) ht) (by decide)
                      have hm := Nat.mul_le_mul hn hp10
                      rw [← Int.natCast_mul, w64 (x := ((n * 10 ^ t.length : Nat) : Int)) (by unfold I64; omega), ← Int.natCast_add, w64 (x := ((n * 10 ^ t.length + m : Nat) : Int)) (by unfold I64; omega)]
                      exact make_sg (by omega) (by unfold I64; generalize 10 ^ t.length = X at *; omega)
                    · rw [if_neg (fun h => hn h.2.2), decide_eq_true (by omega)]; exact fail1
                  · rw [if_neg (fun h => ht h.2.1)]
                    exact Ev.ite_pos (by omega) fail1
                · rw [if_neg (fun h => hp h.1)]
                  exact Ev.ite_neg (fun h => hp (UInt8.toNat_inj.1 (by show c.toNat = 46; omega))) fail1
            · rw [if_neg (fun h => e0 h.2), show (e != []) = true by simpa using e0]
              exact fail _
          · rw [if_neg (fun h => he h.1)]
            exact Ev.ite_neg (by simpa using he) (fail _)
    · rw [if_neg hr]
      exact Ev.ite_neg (by simpa using hr) (Ev.now _)
theorem read_ev (l : List UInt8) (hl : l.length ≤ 9223372036854775807) : Ev (fun k => num_Read.f k (by' l)) (readS l) := by
  unfold num_Read.f
  refine Ev.bind0 (cut_minus l) ?_
  cases l with
  | nil => exact read_body false [] hl
  | cons c t =>
    unfold readS
    by_cases hc : c = 45
    · simp only [hc, if_true]
      exact read_body true t (by simp at hl; omega)
    · simp only [hc, if_false]
      exact read_body false (c :: t) hl
theorem res_cases (q : Rat) : res q = (0, 0, false) ∨ ∃ r, Fits r ∧ res q = (r.num, (r.den : Int), true) := by
  unfold res
  by_cases h : Fits q
  · rw [if_pos h]; exact Or.inr ⟨q, h, rfl⟩
  · rw [if_neg h]; exact Or.inl rfl
theorem mk_cases (n d : Int) : mk n d = (0, 0, false) ∨ ∃ r, Fits r ∧ mk n d = (r.num, (r.den : Int), true) := by
  unfold mk
  by_cases h : d = 0
  · rw [if_pos h]; exact Or.inl rfl
  · rw [if_neg h]; exact res_cases _
theorem bodyS_cases (minus : Bool) (l : List UInt8) : bodyS minus l = (0, 0, false) ∨ ∃ r, Fits r ∧ bodyS minus l = (r.num, (r.den : Int), true) := by
  unfold bodyS
  split
  · exact Or.inl rfl
  · split
    · split
      · exact mk_cases _ _
      · split
        · exact Or.inl rfl
        · split
          · split
            · exact mk_cases _ _
            · split
              · exact mk_cases _ _
              · exact Or.inl rfl
          · exact Or.inl rfl
    · exact Or.inl rfl
theorem readS_cases (l : List UInt8) : readS l = (0, 0, false) ∨ ∃ r, Fits r ∧ readS l = (r.num, (r.den : Int), true) := by
  unfold readS
  split
  · exact bodyS_cases _ _
  · split <;> exact bodyS_cases _ _
end
end Go.Proofs.YtmakkdlkgfgaoaaDoor.F
namespace Go.Proofs.YtmakkdlkgfgaoaaDoor.F
section
open Go.RowKit Go.Lib Go.Proofs.YtmakkdlkgfgaoaaDoorW.PrintWords NumM
/-- what Text writes -/
def textS (q : Rat) : List UInt8 := (if q.num < 0 then [45] else []) ++ (if 1000000 % q.den = 0 then decDigits (q.num.natAbs / q.den) ++ (if q.den = 1 then [] else 46 :: frac 6 (q.num.natAbs % q.den * (1000000 / q.den))) else decDigits q.num.natAbs ++ 47 :: decDigits q.den)
theorem dec_len (m u : Nat) (h : u < 10 ^ (m + 1)) : (decDigits u).length ≤ m + 1 := by
  induction m generalizing u with
  | zero => rw [decDigits, dif_pos (by simpa using h)]; simp
  | succ m ih =>
    rw [decDigits]
    split
    · simp
    · rw [List.length_append, List.length_singleton]
      have := ih (u / 10) (by rw [Nat.pow_succ] at h; omega)
      omega
theorem frac_len (m F : Nat) : (frac m F).length ≤ m := by
  induction m generalizing F with
  | zero => simp [frac]
  | succ m ih => rw [frac]; split <;> simp [ih]
theorem itoa_ev (n : Nat) (h : n ≤ 9223372036854775807) : strconv_Itoa.f (n : Int) = some (by' (decDigits n)) := by
  unfold strconv_Itoa.f
  rw [if_pos (by omega)]
  unfold itoa
  rw [if_neg (by omega), Int.toNat_natCast]
  rfl
theorem trim_ev (l : List UInt8) (h : l.length ≤ 9223372036854775807) : strings_TrimRight.f (by' l) ⟨#[48]⟩ = some (by' (trimRightB l 48)) := by
  unfold strings_TrimRight.f
  rw [if_pos (by rw [by_size]; exact h), by_data]
  rfl
/-- the digits behind the point -/
theorem frac_lt {n d : Nat} (hd : 0 < d) (hd' : d ≤ 1000000) : n % d * (1000000 / d) < 10 ^ 6 := by
  have h1 : n % d < d := Nat.mod_lt _ hd
  have h2 : 0 < 1000000 / d := Nat.div_pos hd' hd
  have h3 := Nat.mul_lt_mul_of_pos_right h1 h2
  have h4 := Nat.mul_div_le 1000000 d
  omega
theorem text_ev {n d : Int} (hn : I64 n) (hd : I64 d) : Ev (fun k => num_Text.f k n d) (by' (textS (rat n d))) := by
  unfold num_Text.f
  refine Ev.bind (taken_ev hn hd) ?_
  have hq := fits_rat n d
  generalize rat n d = q at *
  have hb := fits_bounds hq
  have hq' := hq
  unfold Fits at hq'
  have hden := q.den_pos
  refine Ev.bind0 (size_eq (by unfold I64; omega)) ?_
  rw [w64 (x := (q.num.natAbs : Int)) (by unfold I64; omega)]
  have dmod : ∀ D : Nat, ((1000000 : Int) % (D : Int)) = ((1000000 % D : Nat) : Int) := fun D => rfl
  have i64d : I64 ((q.num.natAbs / q.den : Nat) : Int) := by
    have := Nat.div_le_self q.num.natAbs q.den
    generalize q.num.natAbs / q.den = X at *
    unfold I64; omega
  have i64e : I64 ((1000000 / q.den : Nat) : Int) := by
    have := Nat.div_le_self 1000000 q.den
    generalize 1000000 / q.den = X at *
    unfold I64; omega
  have main : ∀ s : List UInt8, s.length ≤ 1 → Ev (fun k => num_Text.j0 k q.num.natAbs (by' s) q.num q.den) (by' (s ++ (if 1000000 % q.den = 0 then decDigits (q.num.natAbs / q.den) ++ (if q.den = 1 then [] else 46 :: frac 6 (q.num.natAbs % q.den * (1000000 / q.den))) else decDigits q.num.natAbs ++ 47 :: decDigits q.den))) := by
    intro s hs
    refine Ev.step (fun k => by simp only [num_Text.j0]; rfl) ?_
    refine Ev.ite_neg (by omega) ?_
    have l1 : (decDigits q.num.natAbs).length ≤ 13 := dec_len 12 _ (by omega)
    have l2 : (decDigits q.den).length ≤ 7 := dec_len 6 _ (by omega)
    have l3 : (decDigits (q.num.natAbs / q.den)).length ≤ 13 := dec_len 12 _ (by have := Nat.div_le_self q.num.natAbs q.den; omega)
    by_cases c : 1000000 % q.den = 0
    · rw [if_pos c]
      refine Ev.ite_pos (by rw [dmod, c]; rfl) ?_
      rw [← Int.ofNat_tdiv, w64 i64d]
      refine Ev.bind0 (itoa_ev _ (by have := Nat.div_le_self q.num.natAbs q.den; omega)) ?_
      refine Ev.ite_pos (by rw [by_size, by_size]; omega) ?_
      by_cases d1 : q.den = 1
      · rw [if_pos d1, List.append_nil]
        refine Ev.ite_pos (by omega) ?_
        rw [by_app]
        exact Ev.now _
      · rw [if_neg d1]
        refine Ev.ite_neg (by omega) ?_
        have hF := frac_lt (n := q.num.natAbs) hden hq'.2
        rw [← Int.ofNat_tmod, show Int.tdiv (1000000 : Int) (q.den : Int) = ((1000000 / q.den : Nat) : Int) from (Int.ofNat_tdiv 1000000 q.den).symm, w64 i64e, ← Int.natCast_mul]
        generalize hFF : q.num.natAbs % q.den * (1000000 / q.den) = F at *
        rw [w64 (x := (F : Int)) (by unfold I64; omega), show (1000000 + (F : Int)) = ((1 * 10 ^ 6 + F : Nat) : Int) by omega, w64 (by unfold I64; omega)]
        refine Ev.bind0 (itoa_ev _ (by omega)) ?_
        rw [by_app]
        refine Ev.ite_pos (by rw [by_size, List.length_append]; omega) ?_
        rw [dec_pad 6 1 F (by omega) hF]
        have e1 : decDigits 1 = [49] := by rw [decDigits, dif_pos (by omega)]; rfl
        rw [e1]
        refine Ev.ite_pos (by rw [by_size, List.length_append, List.length_singleton]; omega) ?_
        rw [by_tail, List.drop_one, List.cons_append, List.nil_append, List.tail_cons]
        refine Ev.bind0 (trim_ev _ (by rw [pad_length]; omega)) ?_
        rw [(trim_pad 6 F hF).1]
        have l4 := frac_len 6 F
        rw [show (⟨#[46]⟩ : ByteArray) = by' [46] from rfl, by_app]
        refine Ev.ite_pos (by rw [by_size, by_size, List.length_append, List.length_append, List.length_singleton]; omega) ?_
        rw [by_app]
        refine Ev.const ?_
        congr 2
        simp [List.append_assoc]
    · rw [if_neg c]
      refine Ev.ite_neg (by rw [dmod]; exact fun h => c (by exact_mod_cast h)) ?_
      refine Ev.bind0 (itoa_ev _ (by omega)) ?_
      refine Ev.ite_pos (by rw [by_size, by_size]; omega) ?_
      rw [by_app]
      refine Ev.ite_pos (by rw [by_size, List.length_append]; omega) ?_
      refine Ev.bind0 (itoa_ev _ (by omega)) ?_
      rw [show (⟨#[47]⟩ : ByteArray) = by' [47] from rfl, by_app]
      refine Ev.ite_pos (by rw [by_size, by_size, List.length_append, List.length_append, List.length_singleton]; omega) ?_
      rw [by_app]
      refine Ev.const ?_
      congr 2
      simp [List.append_assoc]
  unfold textS
  by_cases h : q.num < 0
  · rw [if_pos h]
    exact Ev.ite_pos h (main [45] (by simp))
  · rw [if_neg h]
    exact Ev.ite_neg h (main [] (by simp))
theorem textS_len {q : Rat} (hq : Fits q) : (textS q).length ≤ 100 := by
  have hb := hq
  unfold Fits at hb
  have l1 : (decDigits q.num.natAbs).length ≤ 13 := dec_len 12 _ (by omega)
  have l2 : (decDigits q.den).length ≤ 7 := dec_len 6 _ (by omega)
  have l3 : (decDigits (q.num.natAbs / q.den)).length ≤ 13 := dec_len 12 _ (by have := Nat.div_le_self q.num.natAbs q.den; omega)
  have l4 := frac_len 6 (q.num.natAbs % q.den * (1000000 / q.den))
  unfold textS
  rw [List.length_append]
  have l5 : (if q.num < 0 then [(45 : UInt8)] else []).length ≤ 1 := by split <;> simp
  have l6 : (if 1000000 % q.den = 0 then decDigits (q.num.natAbs / q.den) ++ (if q.den = 1 then [] else 46 :: frac 6 (q.num.natAbs % q.den * (1000000 / q.den))) else decDigits q.num.natAbs ++ 47 :: decDigits q.den).length ≤ 60 := by
    split
    · rw [List.length_append]
      split
      · simp; omega
      · simp; omega
    · simp; omega
  omega
/-- a sign and a number -/
theorem sg_q (q : Rat) : sg (decide (q.num < 0)) q.num.natAbs = q.num := by
  unfold sg
  by_cases h : q.num < 0
  · rw [decide_eq_true h, if_pos rfl]; omega
  · rw [decide_eq_false h, if_neg (by simp)]; omega
theorem rd10_dec (u : Nat) (rest : List UInt8) (h : u ≤ 1000000000000000000) : rd10 (decDigits u ++ rest) 0 = rd10 rest u := by
  have := rd10_app (decDigits u) rest 0 (dec_dig u) (by rw [dec_val]; exact h)
  rwa [dec_val] at this
theorem mk_num {q : Rat} (hq : Fits q) {n : Int} {d : Int} (hd : 0 < d) (h : n * q.den = q.num * d) : mk n d = (q.num, (q.den : Int), true) := by
  unfold mk
  rw [if_neg (by omega)]
  have e : Rat.divInt n d = q := by
    conv => rhs; rw [← Rat.num_divInt_den q]
    exact (Rat.divInt_eq_divInt_iff (by omega) (by have := q.den_pos; omega)).2 h
  rw [e]
  unfold res
  rw [if_pos hq]
theorem sg_mul (b : Bool) (n d : Nat) : sg b (n * d) = sg b n * d := by
  unfold sg
  cases b <;> simp [Int.neg_mul]
theorem body_text {q : Rat} (hq : Fits q) : bodyS (decide (q.num < 0)) (if 1000000 % q.den = 0 then decDigits (q.num.natAbs / q.den) ++ (if q.den = 1 then [] else 46 :: frac 6 (q.num.natAbs % q.den * (1000000 / q.den))) else decDigits q.num.natAbs ++ 47 :: decDigits q.den) = (q.num, (q.den : Int), true) := by
  have hb := hq
  unfold Fits at hb
  have hden := q.den_pos
  have pos : ∀ u, 0 < (decDigits u).length := fun u => List.length_pos_iff.2 (dec_ne u)
  by_cases c : 1000000 % q.den = 0
  · rw [if_pos c]
    have hdl := Nat.div_le_self q.num.natAbs q.den
    by_cases d1 : q.den = 1
    · rw [if_pos d1, List.append_nil]
      unfold bodyS
      have := rd10_dec (q.num.natAbs / q.den) [] (by omega)
      rw [List.append_nil] at this
      rw [this]
      simp only [rd10]
      rw [if_pos (by rw [List.length_nil]; exact pos _), d1, Nat.div_one, sg_q]
      refine mk_num hq (by omega) ?_ |>.trans (by rw [d1])
      rw [d1]; rfl
    · rw [if_neg d1]
      have hF := frac_lt (n := q.num.natAbs) hden hb.2
      have hdiv : q.den * (1000000 / q.den) = 1000000 := Nat.mul_div_cancel' (Nat.dvd_of_mod_eq_zero c)
      have hFd : q.num.natAbs % q.den * (1000000 / q.den) * q.den = q.num.natAbs % q.den * 1000000 := by rw [Nat.mul_assoc, Nat.mul_comm (1000000 / q.den), hdiv]
      have hF0 : q.num.natAbs % q.den * (1000000 / q.den) ≠ 0 := by
        intro h0
        rw [h0] at hFd
        have hz : q.num.natAbs % q.den = 0 := by omega
        have h1 := Nat.dvd_gcd (Nat.dvd_of_mod_eq_zero hz) (Nat.dvd_refl q.den)
        have h2 : Nat.gcd q.num.natAbs q.den = 1 := q.reduced
        rw [h2] at h1
        exact d1 (Nat.dvd_one.1 h1)
      have hdm := Nat.div_add_mod q.num.natAbs q.den
      generalize hFF : q.num.natAbs % q.den * (1000000 / q.den) = F at *
      generalize ha : q.num.natAbs / q.den = a at *
      generalize hr : q.num.natAbs % q.den = r at *
      unfold bodyS
      rw [rd10_dec _ _ (by omega)]
      rw [rd10, if_neg (by decide)]
      have hfd := frac_dig 6 F hF
      have hfv := frac_val 6 F 0 hF
      have hfn : frac 6 F ≠ [] := fun h => hF0 ((trim_pad 6 F hF).2.1 h)
      have hfp : 0 < (frac 6 F).length := List.length_pos_iff.2 hfn
      generalize frac 6 F = ds at *
      have hp10 : 0 < 10 ^ (6 - ds.length) := Nat.pow_pos (by omega)
      have hvl : vl 0 ds ≤ 1000000 := by
        have := Nat.le_mul_of_pos_right (vl 0 ds) hp10
        omega
      have hrd := rd10_app ds [] 0 hfd (by omega)
      rw [List.append_nil] at hrd
      dsimp only
      have hp := pos a
      rw [hrd, if_pos (by rw [List.length_append, List.length_cons]; omega)]
      simp only [rd10]
      rw [if_pos ⟨by simpa using hfp, trivial⟩, if_neg (by decide), if_pos ⟨by trivial, hfv.2, by omega⟩]
      have ht : 0 < 10 ^ ds.length := Nat.pow_pos (by omega)
      refine mk_num hq (by omega) ?_
      have key : (a * 10 ^ ds.length + vl 0 ds) * q.den = q.num.natAbs * 10 ^ ds.length := by
        apply Nat.eq_of_mul_eq_mul_right hp10
        have hpp : 10 ^ ds.length * 10 ^ (6 - ds.length) = 1000000 := by rw [← Nat.pow_add, show ds.length + (6 - ds.length) = 6 by omega]
        have e1 : (a * 10 ^ ds.length + vl 0 ds) * q.den * 10 ^ (6 - ds.length) = (a * (10 ^ ds.length * 10 ^ (6 - ds.length)) + vl 0 ds * 10 ^ (6 - ds.length)) * q.den := by grind
        have e2 : q.num.natAbs * 10 ^ ds.length * 10 ^ (6 - ds.length) = q.num.natAbs * (10 ^ ds.length * 10 ^ (6 - ds.length)) := by rw [Nat.mul_assoc]
        rw [e1, e2, hpp, hfv.1, ← hdm]
        grind
      rw [← sg_mul, key, sg_mul, sg_q]
  · rw [if_neg c]
    unfold bodyS
    rw [rd10_dec _ _ (by omega)]
    rw [rd10, if_neg (by decide)]
    have h2 := rd10_dec q.den [] (by omega)
    rw [List.append_nil] at h2
    have p1 := pos q.num.natAbs
    have p2 := pos q.den
    dsimp only
    rw [h2, if_pos (by rw [List.length_append, List.length_cons]; omega)]
    simp only [rd10]
    rw [if_pos ⟨by simpa using p2, trivial⟩, if_pos trivial, sg_q]
    exact mk_num hq (by omega) rfl
/-- what is written is read -/
theorem read_text {q : Rat} (hq : Fits q) : readS (textS q) = (q.num, (q.den : Int), true) := by
  have h := body_text hq
  unfold textS
  by_cases hn : q.num < 0
  · rw [if_pos hn]
    rw [decide_eq_true hn] at h
    rw [List.cons_append, List.nil_append]
    exact h
  · rw [if_neg hn, List.nil_append]
    rw [decide_eq_false hn] at h
    have hh : ∀ l : List UInt8, (∃ u rest, l = decDigits u ++ rest) → readS l = bodyS false l := by
      rintro l ⟨u, rest, rfl⟩
      have h1 := dec_dig u
      have h2 := dec_ne u
      generalize decDigits u = ds at *
      cases ds with
      | nil => exact absurd rfl h2
      | cons c t =>
        have := h1 c (by simp)
        rw [List.cons_append]
        show (if c = 45 then bodyS true (t ++ rest) else bodyS false (c :: (t ++ rest))) = _
        rw [if_neg]
        rintro rfl
        revert this; decide
    rw [hh _ ?_]
    · exact h
    · split
      · exact ⟨_, _, rfl⟩
      · exact ⟨_, _, rfl⟩
end
end Go.Proofs.YtmakkdlkgfgaoaaDoor.F
namespace Go.Proofs.YtmakkdlkgfgaoaaDoor.F
section
open Go.RowKit Go.Proofs.YtmakkdlkgfgaoaaDoorW.PrintWords NumM
theorem lt_or_ge (p q : Rat) : p < q ∨ q ≤ p := by
  rcases Decidable.em (p < q) with h | h
  · exact Or.inl h
  · exact Or.inr (Rat.not_lt.1 h)
end
end Go.Proofs.YtmakkdlkgfgaoaaDoor.F
