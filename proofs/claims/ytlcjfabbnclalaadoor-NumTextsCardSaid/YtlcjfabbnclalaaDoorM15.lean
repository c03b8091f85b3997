/-
What digits and Text of the reference write.
-/
import Derived.Test.YtlcjfabbnclalaaDoorF10
import Derived.Test.YtlcjfabbnclalaaDoorM12
import Derived.Test.YtlcjfabbnclalaaDoorM4
namespace Go.Proofs.YtlcjfabbnclalaaDoor.F
open Go.RowKit Go.Lib Go.Proofs.YtlcjfabbnclalaaDoorW.PrintWords NumM
set_option linter.unusedVariables false
set_option linter.unusedSimpArgs false

theorem one_digit (n : Nat) : strOfNums [IntKind.u64.wrap (48 + Int.tmod (n : Int) 10) % 256] = by' [UInt8.ofNat (48 + n % 10)] := by
  have e : IntKind.u64.wrap (48 + Int.tmod (n : Int) 10) % 256 = ((48 + n % 10 : Nat) : Int) := by
    rw [show (10 : Int) = ((10 : Nat) : Int) from rfl, ← Int.ofNat_tmod, u64 (by omega) (by omega)]
    omega
  rw [e]
  rfl

theorem digitsR_loop (n : Nat) (hn : n ≤ 18446744073709551615) : ∀ (rest : List UInt8), rest.length + (decDigits n).length ≤ 9223372036854775807 → Ev (fun k => whittleref1_digits.l0 k n (by' rest)) (by' (decDigits n ++ rest)) := by
  induction n using Nat.strongRecOn with
  | ind n ih =>
    intro rest hr
    have h1 : 0 < (decDigits n).length := List.length_pos_iff.2 (dec_ne n)
    refine Ev.step (fun k => by simp only [whittleref1_digits.l0]; rfl) ?_
    refine Ev.bind0 rfl ?_
    rw [one_digit, by_app]
    refine Ev.ite_pos (by rw [by_size, by_size, List.length_singleton]; omega) ?_
    rw [show (10 : Int) = ((10 : Nat) : Int) from rfl, ← Int.ofNat_tdiv, u64n (by omega)]
    by_cases h : n < 10
    · refine Ev.ite_pos (by omega) (Ev.const ?_)
      rw [decDigits, dif_pos h, show n % 10 = n by omega]
    · refine Ev.ite_neg (by omega) ?_
      have e : decDigits n = decDigits (n / 10) ++ [UInt8.ofNat (48 + n % 10)] := by rw [decDigits, dif_neg h]
      have := ih (n / 10) (by omega) (by omega) ([UInt8.ofNat (48 + n % 10)] ++ rest) (by rw [e, List.length_append, List.length_singleton] at hr; rw [List.length_append, List.length_singleton]; omega)
      rw [e, List.append_assoc]
      exact this

theorem digitsR_ev (n : Nat) (hn : n ≤ 1000000000000000000) : Ev (fun k => whittleref1_digits.f k n) (by' (decDigits n)) := by
  have h := dec_len 18 n (by omega)
  have := digitsR_loop n (by omega) [] (by rw [List.length_nil]; omega)
  rw [List.append_nil] at this
  exact this

/-- long division writes the digits behind the point -/
theorem textR_loop (d : Nat) (hd : 0 < d) (hd' : d ≤ 1000000) : ∀ (m F r : Nat) (s : List UInt8), r < d → F * d = r * 10 ^ m → s.length + m ≤ 1000 → Ev (fun k => whittleref1_Text.l0 k d (by' s) r) (by' (s ++ frac m F)) := by
  intro m
  induction m with
  | zero =>
    intro F r s hr hF hs
    have hF' : F * d = r := by simpa using hF
    have F0 : F = 0 := by
      rcases Nat.eq_zero_or_pos F with h | h
      · exact h
      · have := Nat.le_mul_of_pos_left d h; omega
    subst F0
    have r0 : r = 0 := by omega
    subst r0
    exact Ev.step (f := fun _ => some (by' s)) (fun k => by simp only [whittleref1_Text.l0]; exact if_pos (by rfl)) (Ev.const (by simp [frac]))
  | succ m ih =>
    intro F r s hr hF hs
    have hp : 0 < 10 ^ m := Nat.pow_pos (by omega)
    by_cases r0 : r = 0
    · subst r0
      have F0 : F = 0 := by
        rcases Nat.eq_zero_or_pos F with h | h
        · exact h
        · have := Nat.mul_pos h hd; omega
      subst F0
      exact Ev.step (f := fun _ => some (by' s)) (fun k => by simp only [whittleref1_Text.l0]; exact if_pos (by rfl)) (Ev.const (by simp [frac]))
    · have F0 : F ≠ 0 := by
        rintro rfl
        have := Nat.mul_pos (Nat.pos_of_ne_zero r0) (show 0 < 10 ^ (m + 1) from Nat.pow_pos (by omega))
        omega
      refine Ev.step (fun k => by simp only [whittleref1_Text.l0]; exact if_neg (by omega)) ?_
      refine Ev.ite_neg (by omega) ?_
      rw [show (r : Int) * 10 = ((r * 10 : Nat) : Int) by omega, u64n (by omega), ← Int.ofNat_tdiv, ← Int.ofNat_tmod]
      have hq9 : r * 10 / d < 10 := by rw [Nat.div_lt_iff_lt_mul hd]; omega
      rw [u64n (by omega)]
      refine Ev.bind (digitsR_ev _ (by omega)) ?_
      have e1 : decDigits (r * 10 / d) = [UInt8.ofNat (48 + r * 10 / d)] := by rw [decDigits, dif_pos hq9]
      rw [e1]
      refine Ev.ite_pos (by rw [by_size, by_size, List.length_singleton]; omega) ?_
      rw [by_app]
      have hdm := Nat.div_add_mod (r * 10) d
      have hrl := Nat.mod_lt (r * 10) hd
      generalize hQ : r * 10 / d = Q at *
      generalize hR : r * 10 % d = R at *
      have hF2 : F * d = (Q * 10 ^ m) * d + R * 10 ^ m := by
        have : r * 10 ^ (m + 1) = (r * 10) * 10 ^ m := by rw [Nat.pow_succ, Nat.mul_comm (10 ^ m) 10, ← Nat.mul_assoc]
        rw [hF, this, ← hdm, Nat.add_mul, Nat.mul_comm d Q, Nat.mul_assoc, Nat.mul_comm d (10 ^ m), ← Nat.mul_assoc]
      have hge : Q * 10 ^ m ≤ F := by
        apply Nat.le_of_mul_le_mul_right _ hd
        omega
      obtain ⟨G, hG⟩ : ∃ G, F = Q * 10 ^ m + G := ⟨F - Q * 10 ^ m, by omega⟩
      have hGd : G * d = R * 10 ^ m := by rw [hG, Nat.add_mul] at hF2; omega
      have hGl : G < 10 ^ m := by
        apply Nat.lt_of_mul_lt_mul_right (a := d)
        rw [hGd, Nat.mul_comm (10 ^ m) d]
        exact Nat.mul_lt_mul_of_pos_right hrl hp
      have hFq : F / 10 ^ m = Q := by
        rw [hG, Nat.mul_comm Q, Nat.mul_add_div hp, Nat.div_eq_of_lt hGl, Nat.add_zero]
      have hFr : F % 10 ^ m = G := by
        rw [hG, Nat.mul_comm Q, Nat.mul_add_mod, Nat.mod_eq_of_lt hGl]
      have := ih G R (s ++ [UInt8.ofNat (48 + Q)]) hrl hGd (by rw [List.length_append, List.length_singleton]; omega)
      rw [frac, if_neg F0, hFq, hFr]
      rw [List.append_assoc] at this
      exact this

theorem textR_ev {n d : Int} (hn : I64 n) (hd : I64 d) : Ev (fun k => whittleref1_Text.f k n d) (by' (textS (rat n d))) := by
  unfold whittleref1_Text.f
  refine Ev.bind (ofR_ev hn hd) ?_
  have hq := fits_rat n d
  generalize rat n d = q at *
  have hb := fits_bounds hq
  have hq' := hq
  unfold Fits at hq'
  have hden := q.den_pos
  have dmod : ∀ D : Nat, ((1000000 : Int) % (D : Int)) = ((1000000 % D : Nat) : Int) := fun D => rfl
  have main : ∀ s : List UInt8, s.length ≤ 1 → Ev (fun k => whittleref1_Text.j0 k (by' s) q.num q.den) (by' (s ++ (if 1000000 % q.den = 0 then decDigits (q.num.natAbs / q.den) ++ (if q.den = 1 then [] else 46 :: frac 6 (q.num.natAbs % q.den * (1000000 / q.den))) else decDigits q.num.natAbs ++ 47 :: decDigits q.den))) := by
    intro s hs
    refine Ev.step (fun k => by simp only [whittleref1_Text.j0]; rfl) ?_
    refine Ev.bind0 (far_eq (by unfold I64; omega)) ?_
    rw [u64n (x := q.den) (by omega)]
    refine Ev.ite_neg (by omega) ?_
    have l1 : (decDigits q.num.natAbs).length ≤ 13 := dec_len 12 _ (by omega)
    have l2 : (decDigits q.den).length ≤ 7 := dec_len 6 _ (by omega)
    have hdl := Nat.div_le_self q.num.natAbs q.den
    have l3 : (decDigits (q.num.natAbs / q.den)).length ≤ 13 := dec_len 12 _ (by omega)
    by_cases c : 1000000 % q.den = 0
    · rw [if_pos c]
      refine Ev.ite_pos (by rw [dmod, c]; rfl) ?_
      rw [← Int.ofNat_tdiv, ← Int.ofNat_tmod]
      rw [u64n (x := q.num.natAbs / q.den) (by omega)]
      refine Ev.bind (digitsR_ev _ (by omega)) ?_
      refine Ev.ite_pos (by rw [by_size, by_size]; omega) ?_
      rw [by_app]
      have hdiv : q.den * (1000000 / q.den) = 1000000 := Nat.mul_div_cancel' (Nat.dvd_of_mod_eq_zero c)
      by_cases d1 : q.den = 1
      · rw [if_pos d1, List.append_nil]
        refine Ev.ite_pos ?_ (Ev.now _)
        rw [d1, Nat.mod_one]; rfl
      · have hr0 : q.num.natAbs % q.den ≠ 0 := by
          intro hz
          have h1 := Nat.dvd_gcd (Nat.dvd_of_mod_eq_zero hz) (Nat.dvd_refl q.den)
          have h2 : Nat.gcd q.num.natAbs q.den = 1 := q.reduced
          rw [h2] at h1
          exact d1 (Nat.dvd_one.1 h1)
        rw [if_neg d1]
        refine Ev.ite_neg (fun h => hr0 (by exact_mod_cast h)) ?_
        refine Ev.ite_pos (by rw [by_size, List.length_append]; omega) ?_
        rw [show (⟨#[46]⟩ : ByteArray) = by' [46] from rfl, by_app]
        have := textR_loop q.den hden hq'.2 6 (q.num.natAbs % q.den * (1000000 / q.den)) (q.num.natAbs % q.den) (s ++ decDigits (q.num.natAbs / q.den) ++ [46]) (Nat.mod_lt _ hden) (by rw [Nat.mul_assoc, Nat.mul_comm (1000000 / q.den), hdiv]) (by rw [List.length_append, List.length_append, List.length_singleton]; omega)
        have e : s ++ decDigits (q.num.natAbs / q.den) ++ [46] ++ frac 6 (q.num.natAbs % q.den * (1000000 / q.den)) = s ++ (decDigits (q.num.natAbs / q.den) ++ 46 :: frac 6 (q.num.natAbs % q.den * (1000000 / q.den))) := by simp [List.append_assoc]
        rw [e] at this
        exact this
    · rw [if_neg c]
      refine Ev.ite_neg (by rw [dmod]; exact fun h => c (by exact_mod_cast h)) ?_
      refine Ev.bind (digitsR_ev _ (by omega)) ?_
      refine Ev.ite_pos (by rw [by_size, by_size]; omega) ?_
      rw [by_app]
      refine Ev.ite_pos (by rw [by_size, List.length_append]; omega) ?_
      refine Ev.bind (digitsR_ev _ (by omega)) ?_
      rw [show (⟨#[47]⟩ : ByteArray) = by' [47] from rfl, by_app]
      refine Ev.ite_pos (by rw [by_size, by_size, List.length_append, List.length_append, List.length_singleton]; omega) ?_
      rw [by_app]
      refine Ev.const ?_
      congr 2
      simp [List.append_assoc]
  unfold textS
  by_cases h : q.num < 0
  · rw [if_pos h]
    exact Ev.ite_pos h (main [45] (by simp))
  · rw [if_neg h]
    exact Ev.ite_neg h (main [] (by simp))
end Go.Proofs.YtlcjfabbnclalaaDoor.F
