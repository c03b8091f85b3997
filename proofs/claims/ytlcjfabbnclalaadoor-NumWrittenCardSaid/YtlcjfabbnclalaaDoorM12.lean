/-
What Text of the program writes; what Read reads of it.
-/
import Derived.Test.YtlcjfabbnclalaaDoorM11
import Derived.Test.YtlcjfabbnclalaaDoorM3
namespace Go.Proofs.YtlcjfabbnclalaaDoor.F
open Go.RowKit Go.Lib Go.Proofs.YtlcjfabbnclalaaDoorW.PrintWords NumM
set_option linter.unusedVariables false
set_option linter.unusedSimpArgs false

/-- what Text writes -/
def textS (q : Rat) : List UInt8 := (if q.num < 0 then [45] else []) ++ (if 1000000 % q.den = 0 then decDigits (q.num.natAbs / q.den) ++ (if q.den = 1 then [] else 46 :: frac 6 (q.num.natAbs % q.den * (1000000 / q.den))) else decDigits q.num.natAbs ++ 47 :: decDigits q.den)

theorem dec_len (m u : Nat) (h : u < 10 ^ (m + 1)) : (decDigits u).length ≤ m + 1 := by
  induction m generalizing u with
  | zero => rw [decDigits, dif_pos (by simpa using h)]; simp
  | succ m ih =>
    rw [decDigits]
    split
    · simp
    · rw [List.length_append, List.length_singleton]
      have := ih (u / 10) (by rw [Nat.pow_succ] at h; omega)
      omega

theorem frac_len (m F : Nat) : (frac m F).length ≤ m := by
  induction m generalizing F with
  | zero => simp [frac]
  | succ m ih => rw [frac]; split <;> simp [ih]

theorem itoa_ev (n : Nat) (h : n ≤ 9223372036854775807) : strconv_Itoa.f (n : Int) = some (by' (decDigits n)) := by
  unfold strconv_Itoa.f
  rw [if_pos (by omega)]
  unfold itoa
  rw [if_neg (by omega), Int.toNat_natCast]
  rfl

theorem trim_ev (l : List UInt8) (h : l.length ≤ 9223372036854775807) : strings_TrimRight.f (by' l) ⟨#[48]⟩ = some (by' (trimRightB l 48)) := by
  unfold strings_TrimRight.f
  rw [if_pos (by rw [by_size]; exact h), by_data]
  rfl

/-- the digits behind the point -/
theorem frac_lt {n d : Nat} (hd : 0 < d) (hd' : d ≤ 1000000) : n % d * (1000000 / d) < 10 ^ 6 := by
  have h1 : n % d < d := Nat.mod_lt _ hd
  have h2 : 0 < 1000000 / d := Nat.div_pos hd' hd
  have h3 := Nat.mul_lt_mul_of_pos_right h1 h2
  have h4 := Nat.mul_div_le 1000000 d
  omega

theorem text_ev {n d : Int} (hn : I64 n) (hd : I64 d) : Ev (fun k => num_Text.f k n d) (by' (textS (rat n d))) := by
  unfold num_Text.f
  refine Ev.bind (taken_ev hn hd) ?_
  have hq := fits_rat n d
  generalize rat n d = q at *
  have hb := fits_bounds hq
  have hq' := hq
  unfold Fits at hq'
  have hden := q.den_pos
  refine Ev.bind0 (size_eq (by unfold I64; omega)) ?_
  rw [w64 (x := (q.num.natAbs : Int)) (by unfold I64; omega)]
  have dmod : ∀ D : Nat, ((1000000 : Int) % (D : Int)) = ((1000000 % D : Nat) : Int) := fun D => rfl
  have i64d : I64 ((q.num.natAbs / q.den : Nat) : Int) := by
    have := Nat.div_le_self q.num.natAbs q.den
    generalize q.num.natAbs / q.den = X at *
    unfold I64; omega
  have i64e : I64 ((1000000 / q.den : Nat) : Int) := by
    have := Nat.div_le_self 1000000 q.den
    generalize 1000000 / q.den = X at *
    unfold I64; omega
  have main : ∀ s : List UInt8, s.length ≤ 1 → Ev (fun k => num_Text.j0 k q.num.natAbs (by' s) q.num q.den) (by' (s ++ (if 1000000 % q.den = 0 then decDigits (q.num.natAbs / q.den) ++ (if q.den = 1 then [] else 46 :: frac 6 (q.num.natAbs % q.den * (1000000 / q.den))) else decDigits q.num.natAbs ++ 47 :: decDigits q.den))) := by
    intro s hs
    refine Ev.step (fun k => by simp only [num_Text.j0]; rfl) ?_
    refine Ev.ite_neg (by omega) ?_
    have l1 : (decDigits q.num.natAbs).length ≤ 13 := dec_len 12 _ (by omega)
    have l2 : (decDigits q.den).length ≤ 7 := dec_len 6 _ (by omega)
    have l3 : (decDigits (q.num.natAbs / q.den)).length ≤ 13 := dec_len 12 _ (by have := Nat.div_le_self q.num.natAbs q.den; omega)
    by_cases c : 1000000 % q.den = 0
    · rw [if_pos c]
      refine Ev.ite_pos (by rw [dmod, c]; rfl) ?_
      rw [← Int.ofNat_tdiv, w64 i64d]
      refine Ev.bind0 (itoa_ev _ (by have := Nat.div_le_self q.num.natAbs q.den; omega)) ?_
      refine Ev.ite_pos (by rw [by_size, by_size]; omega) ?_
      by_cases d1 : q.den = 1
      · rw [if_pos d1, List.append_nil]
        refine Ev.ite_pos (by omega) ?_
        rw [by_app]
        exact Ev.now _
      · rw [if_neg d1]
        refine Ev.ite_neg (by omega) ?_
        have hF := frac_lt (n := q.num.natAbs) hden hq'.2
        rw [← Int.ofNat_tmod, show Int.tdiv (1000000 : Int) (q.den : Int) = ((1000000 / q.den : Nat) : Int) from (Int.ofNat_tdiv 1000000 q.den).symm, w64 i64e, ← Int.natCast_mul]
        generalize hFF : q.num.natAbs % q.den * (1000000 / q.den) = F at *
        rw [w64 (x := (F : Int)) (by unfold I64; omega), show (1000000 + (F : Int)) = ((1 * 10 ^ 6 + F : Nat) : Int) by omega, w64 (by unfold I64; omega)]
        refine Ev.bind0 (itoa_ev _ (by omega)) ?_
        rw [by_app]
        refine Ev.ite_pos (by rw [by_size, List.length_append]; omega) ?_
        rw [dec_pad 6 1 F (by omega) hF]
        have e1 : decDigits 1 = [49] := by rw [decDigits, dif_pos (by omega)]; rfl
        rw [e1]
        refine Ev.ite_pos (by rw [by_size, List.length_append, List.length_singleton]; omega) ?_
        rw [by_tail, List.drop_one, List.cons_append, List.nil_append, List.tail_cons]
        refine Ev.bind0 (trim_ev _ (by rw [pad_length]; omega)) ?_
        rw [(trim_pad 6 F hF).1]
        have l4 := frac_len 6 F
        rw [show (⟨#[46]⟩ : ByteArray) = by' [46] from rfl, by_app]
        refine Ev.ite_pos (by rw [by_size, by_size, List.length_append, List.length_append, List.length_singleton]; omega) ?_
        rw [by_app]
        refine Ev.const ?_
        congr 2
        simp [List.append_assoc]
    · rw [if_neg c]
      refine Ev.ite_neg (by rw [dmod]; exact fun h => c (by exact_mod_cast h)) ?_
      refine Ev.bind0 (itoa_ev _ (by omega)) ?_
      refine Ev.ite_pos (by rw [by_size, by_size]; omega) ?_
      rw [by_app]
      refine Ev.ite_pos (by rw [by_size, List.length_append]; omega) ?_
      refine Ev.bind0 (itoa_ev _ (by omega)) ?_
      rw [show (⟨#[47]⟩ : ByteArray) = by' [47] from rfl, by_app]
      refine Ev.ite_pos (by rw [by_size, by_size, List.length_append, List.length_append, List.length_singleton]; omega) ?_
      rw [by_app]
      refine Ev.const ?_
      congr 2
      simp [List.append_assoc]
  unfold textS
  by_cases h : q.num < 0
  · rw [if_pos h]
    exact Ev.ite_pos h (main [45] (by simp))
  · rw [if_neg h]
    exact Ev.ite_neg h (main [] (by simp))

theorem textS_len {q : Rat} (hq : Fits q) : (textS q).length ≤ 100 := by
  have hb := hq
  unfold Fits at hb
  have l1 : (decDigits q.num.natAbs).length ≤ 13 := dec_len 12 _ (by omega)
  have l2 : (decDigits q.den).length ≤ 7 := dec_len 6 _ (by omega)
  have l3 : (decDigits (q.num.natAbs / q.den)).length ≤ 13 := dec_len 12 _ (by have := Nat.div_le_self q.num.natAbs q.den; omega)
  have l4 := frac_len 6 (q.num.natAbs % q.den * (1000000 / q.den))
  unfold textS
  rw [List.length_append]
  have l5 : (if q.num < 0 then [(45 : UInt8)] else []).length ≤ 1 := by split <;> simp
  have l6 : (if 1000000 % q.den = 0 then decDigits (q.num.natAbs / q.den) ++ (if q.den = 1 then [] else 46 :: frac 6 (q.num.natAbs % q.den * (1000000 / q.den))) else decDigits q.num.natAbs ++ 47 :: decDigits q.den).length ≤ 60 := by
    split
    · rw [List.length_append]
      split
      · simp; omega
      · simp; omega
    · simp; omega
  omega

/-- a sign and a number -/
theorem sg_q (q : Rat) : sg (decide (q.num < 0)) q.num.natAbs = q.num := by
  unfold sg
  by_cases h : q.num < 0
  · rw [decide_eq_true h, if_pos rfl]; omega
  · rw [decide_eq_false h, if_neg (by simp)]; omega

theorem rd10_dec (u : Nat) (rest : List UInt8) (h : u ≤ 1000000000000000000) : rd10 (decDigits u ++ rest) 0 = rd10 rest u := by
  have := rd10_app (decDigits u) rest 0 (dec_dig u) (by rw [dec_val]; exact h)
  rwa [dec_val] at this

theorem mk_num {q : Rat} (hq : Fits q) {n : Int} {d : Int} (hd : 0 < d) (h : n * q.den = q.num * d) : mk n d = (q.num, (q.den : Int), true) := by
  unfold mk
  rw [if_neg (by omega)]
  have e : Rat.divInt n d = q := by
    conv => rhs; rw [← Rat.num_divInt_den q]
    exact (Rat.divInt_eq_divInt_iff (by omega) (by have := q.den_pos; omega)).2 h
  rw [e]
  unfold res
  rw [if_pos hq]

theorem sg_mul (b : Bool) (n d : Nat) : sg b (n * d) = sg b n * d := by
  unfold sg
  cases b <;> simp [Int.neg_mul]

theorem body_text {q : Rat} (hq : Fits q) : bodyS (decide (q.num < 0)) (if 1000000 % q.den = 0 then decDigits (q.num.natAbs / q.den) ++ (if q.den = 1 then [] else 46 :: frac 6 (q.num.natAbs % q.den * (1000000 / q.den))) else decDigits q.num.natAbs ++ 47 :: decDigits q.den) = (q.num, (q.den : Int), true) := by
  have hb := hq
  unfold Fits at hb
  have hden := q.den_pos
  have pos : ∀ u, 0 < (decDigits u).length := fun u => List.length_pos_iff.2 (dec_ne u)
  by_cases c : 1000000 % q.den = 0
  · rw [if_pos c]
    have hdl := Nat.div_le_self q.num.natAbs q.den
    by_cases d1 : q.den = 1
    · rw [if_pos d1, List.append_nil]
      unfold bodyS
      have := rd10_dec (q.num.natAbs / q.den) [] (by omega)
      rw [List.append_nil] at this
      rw [this]
      simp only [rd10]
      rw [if_pos (by rw [List.length_nil]; exact pos _), d1, Nat.div_one, sg_q]
      refine mk_num hq (by omega) ?_ |>.trans (by rw [d1])
      rw [d1]; rfl
    · rw [if_neg d1]
      have hF := frac_lt (n := q.num.natAbs) hden hb.2
      have hdiv : q.den * (1000000 / q.den) = 1000000 := Nat.mul_div_cancel' (Nat.dvd_of_mod_eq_zero c)
      have hFd : q.num.natAbs % q.den * (1000000 / q.den) * q.den = q.num.natAbs % q.den * 1000000 := by rw [Nat.mul_assoc, Nat.mul_comm (1000000 / q.den), hdiv]
      have hF0 : q.num.natAbs % q.den * (1000000 / q.den) ≠ 0 := by
        intro h0
        rw [h0] at hFd
        have hz : q.num.natAbs % q.den = 0 := by omega
        have h1 := Nat.dvd_gcd (Nat.dvd_of_mod_eq_zero hz) (Nat.dvd_refl q.den)
        have h2 : Nat.gcd q.num.natAbs q.den = 1 := q.reduced
        rw [h2] at h1
        exact d1 (Nat.dvd_one.1 h1)
      have hdm := Nat.div_add_mod q.num.natAbs q.den
      generalize hFF : q.num.natAbs % q.den * (1000000 / q.den) = F at *
      generalize ha : q.num.natAbs / q.den = a at *
      generalize hr : q.num.natAbs % q.den = r at *
      unfold bodyS
      rw [rd10_dec _ _ (by omega)]
      rw [rd10, if_neg (by decide)]
      have hfd := frac_dig 6 F hF
      have hfv := frac_val 6 F 0 hF
      have hfn : frac 6 F ≠ [] := fun h => hF0 ((trim_pad 6 F hF).2.1 h)
      have hfp : 0 < (frac 6 F).length := List.length_pos_iff.2 hfn
      generalize frac 6 F = ds at *
      have hp10 : 0 < 10 ^ (6 - ds.length) := Nat.pow_pos (by omega)
      have hvl : vl 0 ds ≤ 1000000 := by
        have := Nat.le_mul_of_pos_right (vl 0 ds) hp10
        omega
      have hrd := rd10_app ds [] 0 hfd (by omega)
      rw [List.append_nil] at hrd
      dsimp only
      have hp := pos a
      rw [hrd, if_pos (by rw [List.length_append, List.length_cons]; omega)]
      simp only [rd10]
      rw [if_pos ⟨by simpa using hfp, trivial⟩, if_neg (by decide), if_pos ⟨by trivial, hfv.2, by omega⟩]
      have ht : 0 < 10 ^ ds.length := Nat.pow_pos (by omega)
      refine mk_num hq (by omega) ?_
      have key : (a * 10 ^ ds.length + vl 0 ds) * q.den = q.num.natAbs * 10 ^ ds.length := by
        apply Nat.eq_of_mul_eq_mul_right hp10
        have hpp : 10 ^ ds.length * 10 ^ (6 - ds.length) = 1000000 := by rw [← Nat.pow_add, show ds.length + (6 - ds.length) = 6 by omega]
        have e1 : (a * 10 ^ ds.length + vl 0 ds) * q.den * 10 ^ (6 - ds.length) = (a * (10 ^ ds.length * 10 ^ (6 - ds.length)) + vl 0 ds * 10 ^ (6 - ds.length)) * q.den := by grind
        have e2 : q.num.natAbs * 10 ^ ds.length * 10 ^ (6 - ds.length) = q.num.natAbs * (10 ^ ds.length * 10 ^ (6 - ds.length)) := by rw [Nat.mul_assoc]
        rw [e1, e2, hpp, hfv.1, ← hdm]
        grind
      rw [← sg_mul, key, sg_mul, sg_q]
  · rw [if_neg c]
    unfold bodyS
    rw [rd10_dec _ _ (by omega)]
    rw [rd10, if_neg (by decide)]
    have h2 := rd10_dec q.den [] (by omega)
    rw [List.append_nil] at h2
    have p1 := pos q.num.natAbs
    have p2 := pos q.den
    dsimp only
    rw [h2, if_pos (by rw [List.length_append, List.length_cons]; omega)]
    simp only [rd10]
    rw [if_pos ⟨by simpa using p2, trivial⟩, if_pos trivial, sg_q]
    exact mk_num hq (by omega) rfl

/-- what is written is read -/
theorem read_text {q : Rat} (hq : Fits q) : readS (textS q) = (q.num, (q.den : Int), true) := by
  have h := body_text hq
  unfold textS
  by_cases hn : q.num < 0
  · rw [if_pos hn]
    rw [decide_eq_true hn] at h
    rw [List.cons_append, List.nil_append]
    exact h
  · rw [if_neg hn, List.nil_append]
    rw [decide_eq_false hn] at h
    have hh : ∀ l : List UInt8, (∃ u rest, l = decDigits u ++ rest) → readS l = bodyS false l := by
      rintro l ⟨u, rest, rfl⟩
      have h1 := dec_dig u
      have h2 := dec_ne u
      generalize decDigits u = ds at *
      cases ds with
      | nil => exact absurd rfl h2
      | cons c t =>
        have := h1 c (by simp)
        rw [List.cons_append]
        show (if c = 45 then bodyS true (t ++ rest) else bodyS false (c :: (t ++ rest))) = _
        rw [if_neg]
        rintro rfl
        revert this; decide
    rw [hh _ ?_]
    · exact h
    · split
      · exact ⟨_, _, rfl⟩
      · exact ⟨_, _, rfl⟩
end Go.Proofs.YtlcjfabbnclalaaDoor.F
