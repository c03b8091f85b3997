-- Laid by program (wip/tools/genv.sh, pack.py, merge.py of this repo) out of the translation; Lean checks it.
import Derived.Test.YtmakkdlkgfgaoaaGreatDoorF0
import Derived.Test.YtmakkdlkgfgaoaaGreatDoorC0
import Derived.Test.YtmakkdlkgfgaoaaGreatDoorF106
namespace Go.Proofs.YtmakkdlkgfgaoaaGreatDoor.F
open Go.RowKit Go.Proofs.YtmakkdlkgfgaoaaGreatDoorW.PrintWords Go.Proofs.YtmakkdlkgfgaoaaGreatDoorW.PrintLast Go.Proofs.YtmakkdlkgfgaoaaGreatDoorW.PrintMore
attribute [local go_sem] max2_int min2_int max_two min_two max_three min_three max_four min_four
attribute [local go_sem high] bx_cell bx_frozen
set_option linter.unusedVariables false
set_option linter.unusedSimpArgs false

section
/-! ### whittleref1_digits: function 80 -/
def whittleref1_digits.l0 : Nat → Int → ByteArray → Option (ByteArray)
 | 0, _, _ => none
 | k + 1, x0, x3 => (some (([(IntKind.u64.wrap (48 + (Int.tmod x0 10))) % 256] : List Int) : List Int)).bind fun y589 => (if (strOfNums y589).size + x3.size ≤ 9223372036854775807 then (if (IntKind.u64.wrap (Int.tdiv x0 10)) = 0 then (some ((strOfNums y589) ++ x3)) else (whittleref1_digits.l0 k (IntKind.u64.wrap (Int.tdiv x0 10)) ((strOfNums y589) ++ x3))) else (none))
def whittleref1_digits.f (k : Nat) (a0 : Int) : Option (ByteArray) := whittleref1_digits.l0 k a0 (⟨#[]⟩ : ByteArray)
theorem whittleref1_digits.mono_l : ∀ k, (∀ y0 y1, LeO (whittleref1_digits.l0 k y0 y1) (whittleref1_digits.l0 (k + 1) y0 y1))
 | 0 => fun _ _ r h => by simp [whittleref1_digits.l0] at h
 | k + 1 => by
  have ih0 := whittleref1_digits.mono_l k
  ·intro y0 y1
   unfold whittleref1_digits.l0
   repeat' first
   | (with_reducible exact ih0 _ _)
   | (with_reducible exact LeO.refl _)
   | (with_reducible exact LeO.none _)
   | (with_reducible refine LeO.ite ?_ ?_)
   | (with_reducible refine LeO.bind ?_ (fun _ => ?_))
   | exact ih0 _ _
   | exact LeO.none _
   | refine LeO.ite ?_ ?_
   | refine LeO.bind ?_ (fun _ => ?_)
theorem whittleref1_digits.mono : ∀ a0 k, LeO (whittleref1_digits.f k a0) (whittleref1_digits.f (k + 1) a0) := by
 intro a0 k
 have ih0 := whittleref1_digits.mono_l k
 unfold whittleref1_digits.f
 repeat' first
   | (with_reducible exact ih0 _ _)
   | (with_reducible exact LeO.refl _)
   | (with_reducible exact LeO.none _)
   | (with_reducible refine LeO.ite ?_ ?_)
   | (with_reducible refine LeO.bind ?_ (fun _ => ?_))
   | exact ih0 _ _
   | exact LeO.none _
   | refine LeO.ite ?_ ?_
   | refine LeO.bind ?_ (fun _ => ?_)
set_option maxHeartbeats 8000000 in
set_option maxRecDepth 100000 in
theorem whittleref1_digits.calls (k : Nat) (a0 : Int) (r : ByteArray) (w : World) (h : whittleref1_digits.f k a0 = some r) :
  Calls Tryz.prog 80 #[.int .u64 a0] w fun e w' => e = .returned (.string r) ∧ Below w.heap.size w w' := by
 have BX := Bx.start w
 have H : (whittleref1_digits.l0 k a0 (⟨#[]⟩ : ByteArray)) = some r := h
 clear h
 have H' := Aside0.mk H
 clear H
 go_enter Tryz.func80, Tryz.ntmps80
 go_wp2
 go_loopg [0, 3] k (fun kq v0 v3 w' => ∃ (x0_1 : Int) (x3_1 : ByteArray), v0 = .int .u64 x0_1 ∧ v3 = .string x3_1 ∧ Aside0 (whittleref1_digits.l0 kq x0_1 x3_1 = some r) ∧ Aside0 (kq ≤ k) ∧ Bx w w' [])
 case atStart => exact ⟨(a0), ((⟨#[]⟩ : ByteArray)), er, er, H', ⟨Nat.le_refl _⟩, bxs⟩
 case round =>
  clear H'
  obtain ⟨x0_1, x3_1, rfl, rfl, HA, HK1, BX⟩ := hrel
  cases gk with
  | zero => exact absurd HA.out (by simp [whittleref1_digits.l0])
  | succ k1 =>
   have H := HA.out
   clear HA
   simp only [whittleref1_digits.l0] at H
   obtain ⟨y589, hy589⟩ : ∃ y_ : List Int, y_ = (([(IntKind.u64.wrap (48 + (Int.tmod x0_1 10))) % 256] : List Int)) := ⟨_, rfl⟩
   replace H : (if (strOfNums y589).size + x3_1.size ≤ 9223372036854775807 then (if (IntKind.u64.wrap (Int.tdiv x0_1 10)) = 0 then (some ((strOfNums y589) ++ x3_1)) else (whittleref1_digits.l0 k1 (IntKind.u64.wrap (Int.tdiv x0_1 10)) ((strOfNums y589) ++ x3_1))) else (none)) = some r := by first | (rw [hy589]; with_reducible exact H) | (have H2_ := (Option.bind_some _ _).symm.trans H; rw [hy589]; with_reducible exact H2_) | (have H2_ := (Option.bind_some _ _).symm.trans H; with_reducible exact H2_) | with_reducible exact H | (rw [hy589]; exact H) | exact H
   have Ny589 := Aside0.mk hy589
   clear hy589
   by_cases c2 : (strOfNums y589).size + x3_1.size ≤ 9223372036854775807
   ·rw [if_pos c2] at H
    have c2b0 := eq_true c2
    have c2b1 : decide ((strOfNums y589).size + x3_1.size ≤ 9223372036854775807) = true := decide_eq_true c2
    try have c2b2 : (9223372036854775807 < (strOfNums y589).size + x3_1.size) = False := eq_false (Nat.not_lt.2 c2)
    by_cases c3 : (IntKind.u64.wrap (Int.tdiv x0_1 10)) = 0
    ·rw [if_pos c3] at H
     have c3b0 : ((IntKind.u64.wrap (Int.tdiv x0_1 10)) == 0) = true := beq_iff_eq.mpr c3
     have c3b1 : ((IntKind.u64.wrap (Int.tdiv x0_1 10)) != 0) = false := bne_eq_false_iff_eq.mpr c3
     clear c3
     obtain rfl := Option.some.inj H
     go_wp2_with (first | ((with_reducible refine gate_dst (N := 8) rfl ?_); refine Kd.R_lit (Kd.int .u8) _ 5 ?hg (N := 8) ?hd (xs := ([(IntKind.u64.wrap (48 + (Int.tmod x0_1 10))) % 256] : List Int)) (inner := [.int .u8 ((IntKind.u64.wrap (48 + (Int.tmod x0_1 10))) % 256)]) (ok := fun _ => True) (okp := fun _ => True) ?hr ?hp (fun _ hk => hk) trivial (Below.refl _ _) (Nat.le_refl _) (by simp) ?_; (case hd => rfl); (case hg => rfl); (case hr => first | (go_simp; done) | (go_simp; rfl)); (case hp => exact (Reps.one (show Kd.M (Kd.int .u8) _ _ _ ((IntKind.u64.wrap (48 + (Int.tmod x0_1 10))) % 256) [.int .u8 ((IntKind.u64.wrap (48 + (Int.tmod x0_1 10))) % 256)] from rfl) (Reps.none _ _))); intro v590 w4 ho5 hb hg_ hnew_; clear hg_ hnew_; (first | rw [← Ny589.out] at ho5 | (simp only [Int.reduceToNat] at ho5; rw [← Ny589.out] at ho5)); have n0_ := Aside0.mk (Kd.R_lower ho5 (below_size bx_bl)); replace BX := bx_call hb; have HO591 := n0_; clear n0_; clear hb ho5; have hcv6 := own_string (P := Tryz.prog) Tryz.underlying91 Tryz.underlying5 Tryz.underlying9 (Kd.own_of_R HO591.out)))
     go_ret
     exact ⟨er2, bx_bl⟩
    ·rw [if_neg c3] at H
     have c3b0 : ((IntKind.u64.wrap (Int.tdiv x0_1 10)) == 0) = false := beq_eq_false_iff_ne.mpr c3
     have c3b1 : ((IntKind.u64.wrap (Int.tdiv x0_1 10)) != 0) = true := bne_iff_ne.mpr c3
     have H' := Aside0.mk H
     clear H
     go_wp2_with (first | ((with_reducible refine gate_dst (N := 8) rfl ?_); refine Kd.R_lit (Kd.int .u8) _ 5 ?hg (N := 8) ?hd (xs := ([(IntKind.u64.wrap (48 + (Int.tmod x0_1 10))) % 256] : List Int)) (inner := [.int .u8 ((IntKind.u64.wrap (48 + (Int.tmod x0_1 10))) % 256)]) (ok := fun _ => True) (okp := fun _ => True) ?hr ?hp (fun _ hk => hk) trivial (Below.refl _ _) (Nat.le_refl _) (by simp) ?_; (case hd => rfl); (case hg => rfl); (case hr => first | (go_simp; done) | (go_simp; rfl)); (case hp => exact (Reps.one (show Kd.M (Kd.int .u8) _ _ _ ((IntKind.u64.wrap (48 + (Int.tmod x0_1 10))) % 256) [.int .u8 ((IntKind.u64.wrap (48 + (Int.tmod x0_1 10))) % 256)] from rfl) (Reps.none _ _))); intro v590 w7 ho8 hb hg_ hnew_; clear hg_ hnew_; (first | rw [← Ny589.out] at ho8 | (simp only [Int.reduceToNat] at ho8; rw [← Ny589.out] at ho8)); have n0_ := Aside0.mk (Kd.R_lower ho8 (below_size bx_bl)); replace BX := bx_call hb; have HO591 := n0_; clear n0_; clear hb ho8; have hcv9 := own_string (P := Tryz.prog) Tryz.underlying91 Tryz.underlying5 Tryz.underlying9 (Kd.own_of_R HO591.out)))
     go_roundg k1
     case measure => have := HK1.out; omega
     case rel => exact ⟨(IntKind.u64.wrap (Int.tdiv x0_1 10)), ((strOfNums y589) ++ x3_1), er, er, H', ⟨by have := HK1.out; omega⟩, bxs⟩
   ·rw [if_neg c2] at H
    exact absurd H (by simp)
end
section
/-! ### whittleref1_Text: function 50 -/
mutual
def whittleref1_Text.j0 : Nat → ByteArray → Int → Int → Option (ByteArray)
 | 0, _, _, _ => none
 | k + 1, x3, x593000, x593001 => (whittleref1_far.f x593000).bind fun t595 => (if (IntKind.u64.wrap (x593001)) = 0 then (none) else (if ((1000000 : Int) % (IntKind.u64.wrap (x593001))) = 0 then ((whittleref1_digits.f k (IntKind.u64.wrap (Int.tdiv t595 (IntKind.u64.wrap (x593001))))).bind fun t598 => (if x3.size + t598.size ≤ 9223372036854775807 then (if (Int.tmod t595 (IntKind.u64.wrap (x593001))) = 0 then (some (x3 ++ t598)) else (if (x3 ++ t598).size + 1 ≤ 9223372036854775807 then (whittleref1_Text.l0 k (IntKind.u64.wrap (x593001)) ((x3 ++ t598) ++ (⟨#[46]⟩ : ByteArray)) (Int.tmod t595 (IntKind.u64.wrap (x593001)))) else (none))) else (none))) else ((whittleref1_digits.f k t595).bind fun t596 => (if x3.size + t596.size ≤ 9223372036854775807 then (if (x3 ++ t596).size + 1 ≤ 9223372036854775807 then ((whittleref1_digits.f k (IntKind.u64.wrap (x593001))).bind fun t597 => (if ((x3 ++ t596) ++ (⟨#[47]⟩ : ByteArray)).size + t597.size ≤ 9223372036854775807 then (some (((x3 ++ t596) ++ (⟨#[47]⟩ : ByteArray)) ++ t597)) else (none))) else (none)) else (none)))))
def whittleref1_Text.l0 : Nat → Int → ByteArray → Int → Option (ByteArray)
 | 0, _, _, _ => none
 | k + 1, x5, x6, x7 => if x7 = 0 then (some x6) else (if x5 = 0 then (none) else ((whittleref1_digits.f k (IntKind.u64.wrap (Int.tdiv (IntKind.u64.wrap (x7 * 10)) x5))).bind fun t599 => (if x6.size + t599.size ≤ 9223372036854775807 then (whittleref1_Text.l0 k x5 (x6 ++ t599) (Int.tmod (IntKind.u64.wrap (x7 * 10)) x5)) else (none))))
end
def whittleref1_Text.f (k : Nat) (a0_0 : Int) (a0_1 : Int) : Option (ByteArray) := (whittleref1_Of.f k a0_0 a0_1).bind fun bt593 => (if bt593.1 < 0 then (whittleref1_Text.j0 k (⟨#[45]⟩ : ByteArray) bt593.1 bt593.2) else (whittleref1_Text.j0 k (⟨#[]⟩ : ByteArray) bt593.1 bt593.2))
theorem whittleref1_Text.mono_l : ∀ k, (∀ y0 y1 y2, LeO (whittleref1_Text.j0 k y0 y1 y2) (whittleref1_Text.j0 (k + 1) y0 y1 y2)) ∧ (∀ y0 y1 y2, LeO (whittleref1_Text.l0 k y0 y1 y2) (whittleref1_Text.l0 (k + 1) y0 y1 y2))
 | 0 => ⟨fun _ _ _ r h => by simp [whittleref1_Text.j0] at h, fun _ _ _ r h => by simp [whittleref1_Text.l0] at h⟩
 | k + 1 => by
  obtain ⟨ih0, ih1⟩ := whittleref1_Text.mono_l k
  refine ⟨?_, ?_⟩
  ·intro y0 y1 y2
   unfold whittleref1_Text.j0
   repeat' first
   | (with_reducible exact ih0 _ _ _)
   | (with_reducible exact ih1 _ _ _)
   | (with_reducible exact whittleref1_Of.mono _ _ _)
   | (with_reducible exact whittleref1_digits.mono _ _)
   | (with_reducible exact LeO.refl _)
   | (with_reducible exact LeO.none _)
   | (with_reducible refine LeO.ite ?_ ?_)
   | (with_reducible refine LeO.bind ?_ (fun _ => ?_))
   | exact ih0 _ _ _
   | exact ih1 _ _ _
   | exact whittleref1_Of.mono _ _ _
   | exact whittleref1_digits.mono _ _
   | exact LeO.none _
   | refine LeO.ite ?_ ?_
   | refine LeO.bind ?_ (fun _ => ?_)
  ·intro y0 y1 y2
   unfold whittleref1_Text.l0
   repeat' first
   | (with_reducible exact ih0 _ _ _)
   | (with_reducible exact ih1 _ _ _)
   | (with_reducible exact whittleref1_Of.mono _ _ _)
   | (with_reducible exact whittleref1_digits.mono _ _)
   | (with_reducible exact LeO.refl _)
   | (with_reducible exact LeO.none _)
   | (with_reducible refine LeO.ite ?_ ?_)
   | (with_reducible refine LeO.bind ?_ (fun _ => ?_))
   | exact ih0 _ _ _
   | exact ih1 _ _ _
   | exact whittleref1_Of.mono _ _ _
   | exact whittleref1_digits.mono _ _
   | exact LeO.none _
   | refine LeO.ite ?_ ?_
   | refine LeO.bind ?_ (fun _ => ?_)
theorem whittleref1_Text.mono : ∀ a0 a1 k, LeO (whittleref1_Text.f k a0 a1) (whittleref1_Text.f (k + 1) a0 a1) := by
 intro a0 a1 k
 obtain ⟨ih0, ih1⟩ := whittleref1_Text.mono_l k
 unfold whittleref1_Text.f
 repeat' first
   | (with_reducible exact ih0 _ _ _)
   | (with_reducible exact ih1 _ _ _)
   | (with_reducible exact whittleref1_Of.mono _ _ _)
   | (with_reducible exact whittleref1_digits.mono _ _)
   | (with_reducible exact LeO.refl _)
   | (with_reducible exact LeO.none _)
   | (with_reducible refine LeO.ite ?_ ?_)
   | (with_reducible refine LeO.bind ?_ (fun _ => ?_))
   | exact ih0 _ _ _
   | exact ih1 _ _ _
   | exact whittleref1_Of.mono _ _ _
   | exact whittleref1_digits.mono _ _
   | exact LeO.none _
   | refine LeO.ite ?_ ?_
   | refine LeO.bind ?_ (fun _ => ?_)
set_option maxHeartbeats 8000000 in
set_option maxRecDepth 100000 in
theorem whittleref1_Text.calls (k : Nat) (a0_0 : Int) (a0_1 : Int) (r : ByteArray) (w : World) (h : whittleref1_Text.f k a0_0 a0_1 = some r) :
  Calls Tryz.prog 50 #[.agg #[.int .i64 a0_0, .int .i64 a0_1]] w fun e w' => e = .returned (.string r) ∧ Below w.heap.size w w' := by
 have hu23 := Tryz.underlying23
 have BX := Bx.start w
 have H : ((whittleref1_Of.f k a0_0 a0_1).bind fun bt593 => (if bt593.1 < 0 then (whittleref1_Text.j0 k (⟨#[45]⟩ : ByteArray) bt593.1 bt593.2) else (whittleref1_Text.j0 k (⟨#[]⟩ : ByteArray) bt593.1 bt593.2))) = some r := h
 clear h
 replace H := Option.bind_eq_some_iff.mp H
 obtain ⟨⟨t593, t594⟩, A20, H⟩ := H
 replace H : (if t593 < 0 then (whittleref1_Text.j0 k (⟨#[45]⟩ : ByteArray) t593 t594) else (whittleref1_Text.j0 k (⟨#[]⟩ : ByteArray) t593 t594)) = some r := H
 have A2 := Aside0.mk A20
 clear A20
 have HC3 := Aside0.mk H
 clear H
 go_enter Tryz.func50, Tryz.ntmps50
 go_upto_if 12 with (first | ((with_reducible refine gate_dst (N := 1) rfl ?_); refine bxe 1 #[.int .i64 a0_0, .int .i64 a0_1] 23 rfl rfl gr ?_; clear BX; intro gb592 w4 GE592 BX) | ((with_reducible refine gate_callee (f := 78) rfl ?_); refine goesL_ (some 9) rfl rfl Tryz.func78 kr rfl #[.agg #[.int .i64 a0_0, .int .i64 a0_1]] rfl ga ?_; (with_reducible refine (whittleref1_Of.calls k a0_0 a0_1 t593 t594 _ A2.out).mono ?_); rintro e w6 ⟨rfl, hb⟩; refine ⟨_, rfl, ?_⟩; replace BX := bx_call hb; clear hb))
 (try simp only [Act.put, List.setIfInBounds_toArray, List.set_cons_zero, List.set_cons_succ])
 go_cut [3] (fun v3 wc => ∃ (kq : Nat) (x3_2 : ByteArray), v3 = .string x3_2 ∧ Aside0 (whittleref1_Text.j0 kq x3_2 t593 t594 = some r) ∧ Aside0 (kq ≤ k) ∧ Bx w wc [(gb592, 23, #[.int .i64 t593, .int .i64 t594])])
 case first =>
  have H := HC3.out
  clear HC3
  by_cases c8 : t593 < 0
  ·rw [if_pos c8] at H
   have c8b0 : decide (t593 < 0) = true := decide_eq_true c8
   clear c8
   (first | rw [c8b0] | (simp only [i64_w, i32_w]; rw [c8b0]) | skip)
   have H' := Aside0.mk H
   clear H
   go_wp2
   go_meet
   case rel => exact ⟨_, ((⟨#[45]⟩ : ByteArray)), er, H', ⟨by first | omega | exact Nat.le_refl _⟩, bxs⟩
  ·rw [if_neg c8] at H
   have c8b0 : decide (t593 < 0) = false := decide_eq_false c8
   clear c8
   (first | rw [c8b0] | (simp only [i64_w, i32_w]; rw [c8b0]) | skip)
   have H' := Aside0.mk H
   clear H
   go_wp2
   go_meet
   case rel => exact ⟨_, ((⟨#[]⟩ : ByteArray)), er, H', ⟨by first | omega | exact Nat.le_refl _⟩, bxs⟩
 case rest =>
  clear HC3
  try clear p2
  try clear c5
  try clear c7
  try clear c8
  try clear c8b0
  obtain ⟨kq, x3_2, rfl, HA, HJ2, BX⟩ := hcut
  cases kq with
  | zero => exact absurd HA.out (by simp [whittleref1_Text.j0])
  | succ kj2 =>
   have H := HA.out
   clear HA
   simp only [whittleref1_Text.j0] at H
   replace H := Option.bind_eq_some_iff.mp H
   obtain ⟨t595, A90, H⟩ := H
   replace H : (if (IntKind.u64.wrap (t594)) = 0 then (none) else (if ((1000000 : Int) % (IntKind.u64.wrap (t594))) = 0 then ((whittleref1_digits.f kj2 (IntKind.u64.wrap (Int.tdiv t595 (IntKind.u64.wrap (t594))))).bind fun t598 => (if x3_2.size + t598.size ≤ 9223372036854775807 then (if (Int.tmod t595 (IntKind.u64.wrap (t594))) = 0 then (some (x3_2 ++ t598)) else (if (x3_2 ++ t598).size + 1 ≤ 9223372036854775807 then (whittleref1_Text.l0 kj2 (IntKind.u64.wrap (t594)) ((x3_2 ++ t598) ++ (⟨#[46]⟩ : ByteArray)) (Int.tmod t595 (IntKind.u64.wrap (t594)))) else (none))) else (none))) else ((whittleref1_digits.f kj2 t595).bind fun t596 => (if x3_2.size + t596.size ≤ 9223372036854775807 then (if (x3_2 ++ t596).size + 1 ≤ 9223372036854775807 then ((whittleref1_digits.f kj2 (IntKind.u64.wrap (t594))).bind fun t597 => (if ((x3_2 ++ t596) ++ (⟨#[47]⟩ : ByteArray)).size + t597.size ≤ 9223372036854775807 then (some (((x3_2 ++ t596) ++ (⟨#[47]⟩ : ByteArray)) ++ t597)) else (none))) else (none)) else (none))))) = some r := H
   have A9 := Aside0.mk A90
   clear A90
   by_cases c10 : (IntKind.u64.wrap (t594)) = 0
   ·rw [if_pos c10] at H
    exact absurd H (by simp)
   ·rw [if_neg c10] at H
    have c10b0 : ((IntKind.u64.wrap (t594)) == 0) = false := beq_eq_false_iff_ne.mpr c10
    have c10b1 : ((IntKind.u64.wrap (t594)) != 0) = true := bne_iff_ne.mpr c10
    by_cases c11 : ((1000000 : Int) % (IntKind.u64.wrap (t594))) = 0
    ·rw [if_pos c11] at H
     have c11b0 : (((1000000 : Int) % (IntKind.u64.wrap (t594))) == 0) = true := beq_iff_eq.mpr c11
     have c11b1 : (((1000000 : Int) % (IntKind.u64.wrap (t594))) != 0) = false := bne_eq_false_iff_eq.mpr c11
     clear c11
     replace H := Option.bind_eq_some_iff.mp H
     obtain ⟨t598, A120, H⟩ := H
     replace H : (if x3_2.size + t598.size ≤ 9223372036854775807 then (if (Int.tmod t595 (IntKind.u64.wrap (t594))) = 0 then (some (x3_2 ++ t598)) else (if (x3_2 ++ t598).size + 1 ≤ 9223372036854775807 then (whittleref1_Text.l0 kj2 (IntKind.u64.wrap (t594)) ((x3_2 ++ t598) ++ (⟨#[46]⟩ : ByteArray)) (Int.tmod t595 (IntKind.u64.wrap (t594)))) else (none))) else (none)) = some r := H
     have A12 := Aside0.mk A120
     clear A120
     by_cases c13 : x3_2.size + t598.size ≤ 9223372036854775807
     ·rw [if_pos c13] at H
      have c13b0 := eq_true c13
      have c13b1 : decide (x3_2.size + t598.size ≤ 9223372036854775807) = true := decide_eq_true c13
      try have c13b2 : (9223372036854775807 < x3_2.size + t598.size) = False := eq_false (Nat.not_lt.2 c13)
      by_cases c14 : (Int.tmod t595 (IntKind.u64.wrap (t594))) = 0
      ·rw [if_pos c14] at H
       have c14b0 : ((Int.tmod t595 (IntKind.u64.wrap (t594))) == 0) = true := beq_iff_eq.mpr c14
       have c14b1 : ((Int.tmod t595 (IntKind.u64.wrap (t594))) != 0) = false := bne_eq_false_iff_eq.mpr c14
       clear c14
       obtain rfl := Option.some.inj H
       go_wp2_with (first | ((with_reducible refine gate_callee (f := 79) rfl ?_); refine goesL_ (some 15) rfl rfl Tryz.func79 kr rfl #[.int .i64 t593] rfl ga ?_; (with_reducible refine (whittleref1_far.calls t593 t595 _ A9.out).mono ?_); rintro e w' ⟨rfl, ⟨nd, rfl⟩⟩; refine ⟨_, rfl, ?_⟩) | ((with_reducible refine gate_callee (f := 80) rfl ?_); refine goesL_ (some 34) rfl rfl Tryz.func80 kr rfl #[.int .u64 (IntKind.u64.wrap (Int.tdiv t595 (IntKind.u64.wrap (t594))))] rfl ga ?_; (with_reducible refine (whittleref1_digits.calls kj2 (IntKind.u64.wrap (Int.tdiv t595 (IntKind.u64.wrap (t594)))) t598 _ A12.out).mono ?_); rintro e w16 ⟨rfl, hb⟩; refine ⟨_, rfl, ?_⟩; replace BX := bx_call hb; clear hb))
       go_ret
       exact ⟨er2, bx_bl⟩
      ·rw [if_neg c14] at H
       have c14b0 : ((Int.tmod t595 (IntKind.u64.wrap (t594))) == 0) = false := beq_eq_false_iff_ne.mpr c14
       have c14b1 : ((Int.tmod t595 (IntKind.u64.wrap (t594))) != 0) = true := bne_iff_ne.mpr c14
       by_cases c17 : (x3_2 ++ t598).size + 1 ≤ 9223372036854775807
       ·rw [if_pos c17] at H
        have c17b0 := eq_true c17
        have c17b1 : decide ((x3_2 ++ t598).size + 1 ≤ 9223372036854775807) = true := decide_eq_true c17
        try have c17b2 : (9223372036854775807 < (x3_2 ++ t598).size + 1) = False := eq_false (Nat.not_lt.2 c17)
        have c17b3 : x3_2.size + t598.size + 1 ≤ 9223372036854775807 := by have h_ := c17; simp only [ByteArray.size_append] at h_; exact h_
        have c17b4 : (9223372036854775807 < x3_2.size + t598.size + 1) = False := eq_false (Nat.not_lt.2 c17b3)
        replace c17b3 : decide (x3_2.size + t598.size + 1 ≤ 9223372036854775807) = true := decide_eq_true c17b3
        have H' := Aside0.mk H
        clear H
        go_wp2_with (first | ((with_reducible refine gate_callee (f := 79) rfl ?_); refine goesL_ (some 15) rfl rfl Tryz.func79 kr rfl #[.int .i64 t593] rfl ga ?_; (with_reducible refine (whittleref1_far.calls t593 t595 _ A9.out).mono ?_); rintro e w' ⟨rfl, ⟨nd, rfl⟩⟩; refine ⟨_, rfl, ?_⟩) | ((with_reducible refine gate_callee (f := 80) rfl ?_); refine goesL_ (some 34) rfl rfl Tryz.func80 kr rfl #[.int .u64 (IntKind.u64.wrap (Int.tdiv t595 (IntKind.u64.wrap (t594))))] rfl ga ?_; (with_reducible refine (whittleref1_digits.calls kj2 (IntKind.u64.wrap (Int.tdiv t595 (IntKind.u64.wrap (t594)))) t598 _ A12.out).mono ?_); rintro e w19 ⟨rfl, hb⟩; refine ⟨_, rfl, ?_⟩; replace BX := bx_call hb; clear hb))
        go_loopg [6, 7] kj2 (fun kq v6 v7 w' => ∃ (x6_2 : ByteArray) (x7_2 : Int), v6 = .string x6_2 ∧ v7 = .int .u64 x7_2 ∧ Aside0 (whittleref1_Text.l0 kq (IntKind.u64.wrap (t594)) x6_2 x7_2 = some r) ∧ Aside0 (kq ≤ kj2) ∧ Bx w w' [(gb592, 23, #[.int .i64 t593, .int .i64 t594])])
        case atStart => exact ⟨((x3_2 ++ t598) ++ (⟨#[46]⟩ : ByteArray)), (Int.tmod t595 (IntKind.u64.wrap (t594))), er, er, H', ⟨Nat.le_refl _⟩, bxs⟩
        case round =>
         clear H'
         try clear c1
         try clear p2
         try clear c5
         try clear c7
         try clear c8
         try clear c8b0
         try clear c10
         try clear c10b0
         try clear c10b1
         try clear c11
         try clear c11b0
         try clear c11b1
         try clear c13
         try clear c13b0
         try clear c13b1
         try clear c13b2
         try clear c14
         try clear c14b0
         try clear c14b1
         try clear c17
         try clear c17b0
         try clear c17b1
         try clear c17b2
         try clear p2
         obtain ⟨x6_2, x7_2, rfl, rfl, HA, HK2, BX⟩ := hrel
         cases gk with
         | zero => exact absurd HA.out (by simp [whittleref1_Text.l0])
         | succ k2 =>
          have H := HA.out
          clear HA
          simp only [whittleref1_Text.l0] at H
          by_cases c20 : x7_2 = 0
          ·rw [if_pos c20] at H
           have c20b0 : (x7_2 == 0) = true := beq_iff_eq.mpr c20
           have c20b1 : (x7_2 != 0) = false := bne_eq_false_iff_eq.mpr c20
           clear c20
           obtain rfl := Option.some.inj H
           go_wp2
           go_ret
           exact ⟨er2, bx_bl⟩
          ·rw [if_neg c20] at H
           have c20b0 : (x7_2 == 0) = false := beq_eq_false_iff_ne.mpr c20
           have c20b1 : (x7_2 != 0) = true := bne_iff_ne.mpr c20
           by_cases c21 : (IntKind.u64.wrap (t594)) = 0
           ·rw [if_pos c21] at H
            exact absurd H (by simp)
           ·rw [if_neg c21] at H
            have c21b0 : ((IntKind.u64.wrap (t594)) == 0) = false := beq_eq_false_iff_ne.mpr c21
            have c21b1 : ((IntKind.u64.wrap (t594)) != 0) = true := bne_iff_ne.mpr c21
            replace H := Option.bind_eq_some_iff.mp H
            obtain ⟨t599, A220, H⟩ := H
            replace H : (if x6_2.size + t599.size ≤ 9223372036854775807 then (whittleref1_Text.l0 k2 (IntKind.u64.wrap (t594)) (x6_2 ++ t599) (Int.tmod (IntKind.u64.wrap (x7_2 * 10)) (IntKind.u64.wrap (t594)))) else (none)) = some r := H
            have A22 := Aside0.mk A220
            clear A220
            by_cases c23 : x6_2.size + t599.size ≤ 9223372036854775807
            ·rw [if_pos c23] at H
             have c23b0 := eq_true c23
             have c23b1 : decide (x6_2.size + t599.size ≤ 9223372036854775807) = true := decide_eq_true c23
             try have c23b2 : (9223372036854775807 < x6_2.size + t599.size) = False := eq_false (Nat.not_lt.2 c23)
             have H' := Aside0.mk H
             clear H
             go_wp2_with (first | ((with_reducible refine gate_callee (f := 80) rfl ?_); refine goesL_ (some 52) rfl rfl Tryz.func80 kr rfl #[.int .u64 (IntKind.u64.wrap (Int.tdiv (IntKind.u64.wrap (x7_2 * 10)) (IntKind.u64.wrap (t594))))] rfl ga ?_; (with_reducible refine (whittleref1_digits.calls k2 (IntKind.u64.wrap (Int.tdiv (IntKind.u64.wrap (x7_2 * 10)) (IntKind.u64.wrap (t594)))) t599 _ A22.out).mono ?_); rintro e w24 ⟨rfl, hb⟩; refine ⟨_, rfl, ?_⟩; replace BX := bx_call hb; clear hb))
             go_roundg k2
             case measure => have := HJ2.out; have := HK2.out; omega
             case rel => exact ⟨(x6_2 ++ t599), (Int.tmod (IntKind.u64.wrap (x7_2 * 10)) (IntKind.u64.wrap (t594))), er, er, H', ⟨by have := HJ2.out; have := HK2.out; omega⟩, bxs⟩
            ·rw [if_neg c23] at H
             exact absurd H (by simp)
       ·rw [if_neg c17] at H
        exact absurd H (by simp)
     ·rw [if_neg c13] at H
      exact absurd H (by simp)
    ·rw [if_neg c11] at H
     have c11b0 : (((1000000 : Int) % (IntKind.u64.wrap (t594))) == 0) = false := beq_eq_false_iff_ne.mpr c11
     have c11b1 : (((1000000 : Int) % (IntKind.u64.wrap (t594))) != 0) = true := bne_iff_ne.mpr c11
     replace H := Option.bind_eq_some_iff.mp H
     obtain ⟨t596, A250, H⟩ := H
     replace H : (if x3_2.size + t596.size ≤ 9223372036854775807 then (if (x3_2 ++ t596).size + 1 ≤ 9223372036854775807 then ((whittleref1_digits.f kj2 (IntKind.u64.wrap (t594))).bind fun t597 => (if ((x3_2 ++ t596) ++ (⟨#[47]⟩ : ByteArray)).size + t597.size ≤ 9223372036854775807 then (some (((x3_2 ++ t596) ++ (⟨#[47]⟩ : ByteArray)) ++ t597)) else (none))) else (none)) else (none)) = some r := H
     have A25 := Aside0.mk A250
     clear A250
     by_cases c26 : x3_2.size + t596.size ≤ 9223372036854775807
     ·rw [if_pos c26] at H
      have c26b0 := eq_true c26
      have c26b1 : decide (x3_2.size + t596.size ≤ 9223372036854775807) = true := decide_eq_true c26
      try have c26b2 : (9223372036854775807 < x3_2.size + t596.size) = False := eq_false (Nat.not_lt.2 c26)
      by_cases c27 : (x3_2 ++ t596).size + 1 ≤ 9223372036854775807
      ·rw [if_pos c27] at H
       have c27b0 := eq_true c27
       have c27b1 : decide ((x3_2 ++ t596).size + 1 ≤ 9223372036854775807) = true := decide_eq_true c27
       try have c27b2 : (9223372036854775807 < (x3_2 ++ t596).size + 1) = False := eq_false (Nat.not_lt.2 c27)
       have c27b3 : x3_2.size + t596.size + 1 ≤ 9223372036854775807 := by have h_ := c27; simp only [ByteArray.size_append] at h_; exact h_
       have c27b4 : (9223372036854775807 < x3_2.size + t596.size + 1) = False := eq_false (Nat.not_lt.2 c27b3)
       replace c27b3 : decide (x3_2.size + t596.size + 1 ≤ 9223372036854775807) = true := decide_eq_true c27b3
       replace H := Option.bind_eq_some_iff.mp H
       obtain ⟨t597, A280, H⟩ := H
       replace H : (if ((x3_2 ++ t596) ++ (⟨#[47]⟩ : ByteArray)).size + t597.size ≤ 9223372036854775807 then (some (((x3_2 ++ t596) ++ (⟨#[47]⟩ : ByteArray)) ++ t597)) else (none)) = some r := H
       have A28 := Aside0.mk A280
       clear A280
       by_cases c29 : ((x3_2 ++ t596) ++ (⟨#[47]⟩ : ByteArray)).size + t597.size ≤ 9223372036854775807
       ·rw [if_pos c29] at H
        have c29b0 := eq_true c29
        have c29b1 : decide (((x3_2 ++ t596) ++ (⟨#[47]⟩ : ByteArray)).size + t597.size ≤ 9223372036854775807) = true := decide_eq_true c29
        try have c29b2 : (9223372036854775807 < ((x3_2 ++ t596) ++ (⟨#[47]⟩ : ByteArray)).size + t597.size) = False := eq_false (Nat.not_lt.2 c29)
        have c29b3 : x3_2.size + t596.size + 1 + t597.size ≤ 9223372036854775807 := by have h_ := c29; simp only [ByteArray.size_append] at h_; exact h_
        have c29b4 : (9223372036854775807 < x3_2.size + t596.size + 1 + t597.size) = False := eq_false (Nat.not_lt.2 c29b3)
        replace c29b3 : decide (x3_2.size + t596.size + 1 + t597.size ≤ 9223372036854775807) = true := decide_eq_true c29b3
        obtain rfl := Option.some.inj H
        go_wp2_with (first | ((with_reducible refine gate_callee (f := 79) rfl ?_); refine goesL_ (some 15) rfl rfl Tryz.func79 kr rfl #[.int .i64 t593] rfl ga ?_; (with_reducible refine (whittleref1_far.calls t593 t595 _ A9.out).mono ?_); rintro e w' ⟨rfl, ⟨nd, rfl⟩⟩; refine ⟨_, rfl, ?_⟩) | ((with_reducible refine gate_callee (f := 80) rfl ?_); refine goesL_ (some 24) rfl rfl Tryz.func80 kr rfl #[.int .u64 t595] rfl ga ?_; (with_reducible refine (whittleref1_digits.calls kj2 t595 t596 _ A25.out).mono ?_); rintro e w31 ⟨rfl, hb⟩; refine ⟨_, rfl, ?_⟩; replace BX := bx_call hb; clear hb) | ((with_reducible refine gate_callee (f := 80) rfl ?_); refine goesL_ (some 28) rfl rfl Tryz.func80 kr rfl #[.int .u64 (IntKind.u64.wrap (t594))] rfl ga ?_; (with_reducible refine (whittleref1_digits.calls kj2 (IntKind.u64.wrap (t594)) t597 _ A28.out).mono ?_); rintro e w32 ⟨rfl, hb⟩; refine ⟨_, rfl, ?_⟩; replace BX := bx_call hb; clear hb))
        go_ret
        exact ⟨er2, bx_bl⟩
       ·rw [if_neg c29] at H
        exact absurd H (by simp)
      ·rw [if_neg c27] at H
       exact absurd H (by simp)
     ·rw [if_neg c26] at H
      exact absurd H (by simp)
end
section
/-! ### whittleref1_piece: function 81 -/
mutual
def whittleref1_piece.l0 : Nat → ByteArray → Int → Int → Int → Option (Int × Int × Bool)
 | 0, _, _, _, _ => none
 | k + 1, x0, x1, x7, x8 => if x8 < (x0.size : Int) then (if 0 ≤ x8 then (if (bt x0 x8) ≥ 48 then (whittleref1_piece.j1 k x0 x1 x7 x8 (decide ((bt x0 x8) ≤ 57))) else (whittleref1_piece.j1 k x0 x1 x7 x8 false)) else (none)) else (whittleref1_piece.j1 k x0 x1 x7 x8 false)
def whittleref1_piece.j1 : Nat → ByteArray → Int → Int → Int → Bool → Option (Int × Int × Bool)
 | 0, _, _, _, _, _ => none
 | k + 1, x0, x1, x7, x8, x25 => if x25 = true then (if x7 > 100000000000000000 then (some (0, 0, false)) else (if 0 ≤ x8 then (if x8 < (x0.size : Int) then (if (IntKind.u64.wrap ((IntKind.u64.wrap (x7 * 10)) + (((bt x0 x8) - 48) % 256))) > 1000000000000000000 then (some (0, 0, false)) else (whittleref1_piece.l0 k x0 x1 (IntKind.u64.wrap ((IntKind.u64.wrap (x7 * 10)) + (((bt x0 x8) - 48) % 256))) (wrap64 (x8 + 1)))) else (none)) else (none))) else (some (x7, x8, decide (x8 > x1)))
end
def whittleref1_piece.f (k : Nat) (a0 : ByteArray) (a1 : Int) : Option (Int × Int × Bool) := whittleref1_piece.l0 k a0 a1 0 a1
theorem whittleref1_piece.mono_l : ∀ k, (∀ y0 y1 y2 y3, LeO (whittleref1_piece.l0 k y0 y1 y2 y3) (whittleref1_piece.l0 (k + 1) y0 y1 y2 y3)) ∧ (∀ y0 y1 y2 y3 y4, LeO (whittleref1_piece.j1 k y0 y1 y2 y3 y4) (whittleref1_piece.j1 (k + 1) y0 y1 y2 y3 y4))
 | 0 => ⟨fun _ _ _ _ r h => by simp [whittleref1_piece.l0] at h, fun _ _ _ _ _ r h => by simp [whittleref1_piece.j1] at h⟩
 | k + 1 => by
  obtain ⟨ih0, ih1⟩ := whittleref1_piece.mono_l k
  refine ⟨?_, ?_⟩
  ·intro y0 y1 y2 y3
   unfold whittleref1_piece.l0
   repeat' first
   | (with_reducible exact ih0 _ _ _ _)
   | (with_reducible exact ih1 _ _ _ _ _)
   | (with_reducible exact LeO.refl _)
   | (with_reducible exact LeO.none _)
   | (with_reducible refine LeO.ite ?_ ?_)
   | (with_reducible refine LeO.bind ?_ (fun _ => ?_))
   | exact ih0 _ _ _ _
   | exact ih1 _ _ _ _ _
   | exact LeO.none _
   | refine LeO.ite ?_ ?_
   | refine LeO.bind ?_ (fun _ => ?_)
  ·intro y0 y1 y2 y3 y4
   unfold whittleref1_piece.j1
   repeat' first
   | (with_reducible exact ih0 _ _ _ _)
   | (with_reducible exact ih1 _ _ _ _ _)
   | (with_reducible exact LeO.refl _)
   | (with_reducible exact LeO.none _)
   | (with_reducible refine LeO.ite ?_ ?_)
   | (with_reducible refine LeO.bind ?_ (fun _ => ?_))
   | exact ih0 _ _ _ _
   | exact ih1 _ _ _ _ _
   | exact LeO.none _
   | refine LeO.ite ?_ ?_
   | refine LeO.bind ?_ (fun _ => ?_)
theorem whittleref1_piece.mono : ∀ a0 a1 k, LeO (whittleref1_piece.f k a0 a1) (whittleref1_piece.f (k + 1) a0 a1) := by
 intro a0 a1 k
 obtain ⟨ih0, ih1⟩ := whittleref1_piece.mono_l k
 unfold whittleref1_piece.f
 repeat' first
   | (with_reducible exact ih0 _ _ _ _)
   | (with_reducible exact ih1 _ _ _ _ _)
   | (with_reducible exact LeO.refl _)
   | (with_reducible exact LeO.none _)
   | (with_reducible refine LeO.ite ?_ ?_)
   | (with_reducible refine LeO.bind ?_ (fun _ => ?_))
   | exact ih0 _ _ _ _
   | exact ih1 _ _ _ _ _
   | exact LeO.none _
   | refine LeO.ite ?_ ?_
   | refine LeO.bind ?_ (fun _ => ?_)
set_option maxHeartbeats 8000000 in
set_option maxRecDepth 100000 in
theorem whittleref1_piece.calls (k : Nat) (a0 : ByteArray) (a1 : Int) (r1 : Int) (r2 : Int) (r3 : Bool) (w : World) (h : whittleref1_piece.f k a0 a1 = some (r1, r2, r3)) :
  Calls Tryz.prog 81 #[.string a0, .int .i64 a1] w fun e w' => e = .returned (.tuple #[.int .u64 r1, .int .i64 r2, .bool r3]) ∧ Drawn0 w w' := by
 have H : (whittleref1_piece.l0 k a0 a1 0 a1) = some (r1, r2, r3) := h
 clear h
 have H' := Aside0.mk H
 clear H
 go_enter Tryz.func81, Tryz.ntmps81
 go_wp2
 go_loopg [7, 8] k (fun kq v7 v8 w' => ∃ (x7_1 : Int) (x8_1 : Int), v7 = .int .u64 x7_1 ∧ v8 = .int .i64 x8_1 ∧ Aside0 (whittleref1_piece.l0 kq a0 a1 x7_1 x8_1 = some (r1, r2, r3)) ∧ Aside0 (kq ≤ k) ∧ Drawn0 w w')
 case atStart => exact ⟨(0), (a1), er, er, H', ⟨Nat.le_refl _⟩, dr⟩
 case round =>
  clear H'
  try clear p2
  obtain ⟨x7_1, x8_1, rfl, rfl, HA, HK1, ⟨m1, rfl⟩⟩ := hrel
  cases gk with
  | zero => exact absurd HA.out (by simp [whittleref1_piece.l0])
  | succ k1 =>
   have H := HA.out
   clear HA
   simp only [whittleref1_piece.l0] at H
   have HC3 := Aside0.mk H
   clear H
   go_upto_region 3 with (fail)
   go_cut [25] (fun v25 wc => ∃ (kq : Nat) (x25_2 : Bool), v25 = .bool x25_2 ∧ Aside0 (whittleref1_piece.j1 kq a0 a1 x7_1 x8_1 x25_2 = some (r1, r2, r3)) ∧ Aside0 (kq ≤ k1) ∧ Drawn0 w wc)
   case first =>
    have H := HC3.out
    clear HC3
    by_cases c4 : x8_1 < (a0.size : Int)
    ·rw [if_pos c4] at H
     have c4b0 : decide (x8_1 < (a0.size : Int)) = true := decide_eq_true c4
     clear c4
     (first | rw [c4b0] | (simp only [i64_w, i32_w]; rw [c4b0]) | skip)
     by_cases c5 : 0 ≤ x8_1
     ·rw [if_pos c5] at H
      have c5b0 : decide (0 ≤ x8_1) = true := decide_eq_true c5
      clear c5
      by_cases c7 : (bt a0 x8_1) ≥ 48
      ·rw [if_pos c7] at H
       have c7b0 : decide (48 ≤ (bt a0 x8_1)) = true := decide_eq_true c7
       clear c7
       have H' := Aside0.mk H
       clear H
       have p6 : 0 ≤ (x8_1 : Int) := of_decide_eq_true (by first | (with_reducible assumption) | assumption)
       have q6 : x8_1 < (a0.size : Int) := of_decide_eq_true (by first | (with_reducible assumption) | assumption)
       have hx6 := bt_at a0 x8_1
       replace p6 := eq_true p6
       replace q6 := eq_true q6
       have p8 : 0 ≤ (x8_1 : Int) := of_decide_eq_true (by first | (with_reducible assumption) | assumption)
       have q8 : x8_1 < (a0.size : Int) := of_decide_eq_true (by first | (with_reducible assumption) | assumption)
       have hx8 := bt_at a0 x8_1
       replace p8 := eq_true p8
       replace q8 := eq_true q8
       go_wp2
       go_meet
       case rel => exact ⟨_, (decide ((bt a0 x8_1) ≤ 57)), er, H', ⟨by have := HK1.out; first | omega | exact Nat.le_refl _⟩, dr⟩
      ·rw [if_neg c7] at H
       have c7b0 : decide (48 ≤ (bt a0 x8_1)) = false := decide_eq_false c7
       clear c7
       have H' := Aside0.mk H
       clear H
       have p6 : 0 ≤ (x8_1 : Int) := of_decide_eq_true (by first | (with_reducible assumption) | assumption)
       have q6 : x8_1 < (a0.size : Int) := of_decide_eq_true (by first | (with_reducible assumption) | assumption)
       have hx6 := bt_at a0 x8_1
       replace p6 := eq_true p6
       replace q6 := eq_true q6
       go_wp2
       go_meet
       case rel => exact ⟨_, (false), er, H', ⟨by have := HK1.out; first | omega | exact Nat.le_refl _⟩, dr⟩
     ·rw [if_neg c5] at H
      exact absurd H (by simp)
    ·rw [if_neg c4] at H
     have c4b0 : decide (x8_1 < (a0.size : Int)) = false := decide_eq_false c4
     clear c4
     (first | rw [c4b0] | (simp only [i64_w, i32_w]; rw [c4b0]) | skip)
     have H' := Aside0.mk H
     clear H
     go_wp2
     go_meet
     case rel => exact ⟨_, (false), er, H', ⟨by have := HK1.out; first | omega | exact Nat.le_refl _⟩, dr⟩
   case rest =>
    clear HC3
    try clear p2
    try clear c4
    try clear c4b0
    try clear c5
    try clear c5b0
    try clear p6
    try clear q6
    try clear hx6
    try clear c7
    try clear c7b0
    try clear c8
    try clear p8
    try clear q8
    try clear hx8
    try clear p2
    try clear p6
    try clear p8
    try clear q6
    try clear q8
    obtain ⟨kq, x25_2, rfl, HA, HJ2, ⟨mc2, rfl⟩⟩ := hcut
    cases kq with
    | zero => exact absurd HA.out (by simp [whittleref1_piece.j1])
    | succ kj2 =>
     have H := HA.out
     clear HA
     simp only [whittleref1_piece.j1] at H
     by_cases c9 : x25_2 = true
     ·subst c9
      have H1 : (if x7_1 > 100000000000000000 then (some (0, 0, false)) else (if 0 ≤ x8_1 then (if x8_1 < (a0.size : Int) then (if (IntKind.u64.wrap ((IntKind.u64.wrap (x7_1 * 10)) + (((bt a0 x8_1) - 48) % 256))) > 1000000000000000000 then (some (0, 0, false)) else (whittleref1_piece.l0 kj2 a0 a1 (IntKind.u64.wrap ((IntKind.u64.wrap (x7_1 * 10)) + (((bt a0 x8_1) - 48) % 256))) (wrap64 (x8_1 + 1)))) else (none)) else (none))) = some (r1, r2, r3) := by rw [if_pos rfl] at H; exact H
      clear H
      have H := H1
      clear H1
      by_cases c10 : x7_1 > 100000000000000000
      ·rw [if_pos c10] at H
       have c10b0 : decide (100000000000000000 < x7_1) = true := decide_eq_true c10
       clear c10
       simp only [Option.some.injEq, Prod.mk.injEq] at H
       obtain ⟨rfl, rfl, rfl⟩ := H
       go_wp2
       go_ret3
       exact ⟨er, dr⟩
      ·rw [if_neg c10] at H
       have c10b0 : decide (100000000000000000 < x7_1) = false := decide_eq_false c10
       clear c10
       by_cases c11 : 0 ≤ x8_1
       ·rw [if_pos c11] at H
        have c11b0 : decide (0 ≤ x8_1) = true := decide_eq_true c11
        clear c11
        by_cases c12 : x8_1 < (a0.size : Int)
        ·rw [if_pos c12] at H
         have c12b0 : decide (x8_1 < (a0.size : Int)) = true := decide_eq_true c12
         clear c12
         by_cases c14 : (IntKind.u64.wrap ((IntKind.u64.wrap (x7_1 * 10)) + (((bt a0 x8_1) - 48) % 256))) > 1000000000000000000
         ·rw [if_pos c14] at H
          have c14b0 : decide (1000000000000000000 < (IntKind.u64.wrap ((IntKind.u64.wrap (x7_1 * 10)) + (((bt a0 x8_1) - 48) % 256)))) = true := decide_eq_true c14
          clear c14
          simp only [Option.some.injEq, Prod.mk.injEq] at H
          obtain ⟨rfl, rfl, rfl⟩ := H
          have p13 : 0 ≤ (x8_1 : Int) := of_decide_eq_true (by first | (with_reducible assumption) | assumption)
          have q13 : x8_1 < (a0.size : Int) := of_decide_eq_true (by first | (with_reducible assumption) | assumption)
          have hx13 := bt_at a0 x8_1
          replace p13 := eq_true p13
          replace q13 := eq_true q13
          go_wp2
          go_ret3
          exact ⟨er, dr⟩
         ·rw [if_neg c14] at H
          have c14b0 : decide (1000000000000000000 < (IntKind.u64.wrap ((IntKind.u64.wrap (x7_1 * 10)) + (((bt a0 x8_1) - 48) % 256)))) = false := decide_eq_false c14
          clear c14
          have H' := Aside0.mk H
          clear H
          have p13 : 0 ≤ (x8_1 : Int) := of_decide_eq_true (by first | (with_reducible assumption) | assumption)
          have q13 : x8_1 < (a0.size : Int) := of_decide_eq_true (by first | (with_reducible assumption) | assumption)
          have hx13 := bt_at a0 x8_1
          replace p13 := eq_true p13
          replace q13 := eq_true q13
          go_wp2
          go_roundg kj2
          case measure => have := HK1.out; have := HJ2.out; omega
          case rel => exact ⟨(IntKind.u64.wrap ((IntKind.u64.wrap (x7_1 * 10)) + (((bt a0 x8_1) - 48) % 256))), (wrap64 (x8_1 + 1)), er, er, H', ⟨by have := HK1.out; have := HJ2.out; omega⟩, dr⟩
        ·rw [if_neg c12] at H
         exact absurd H (by simp)
       ·rw [if_neg c11] at H
        exact absurd H (by simp)
     ·replace c9 := Bool.eq_false_iff.mpr c9
      subst c9
      have H1 : (some (x7_1, x8_1, decide (x8_1 > a1))) = some (r1, r2, r3) := by rw [if_neg (show ¬ (false = true) by decide)] at H; exact H
      clear H
      have H := H1
      clear H1
      simp only [Option.some.injEq, Prod.mk.injEq] at H
      obtain ⟨rfl, rfl, rfl⟩ := H
      go_wp2
      go_ret3
      exact ⟨er, dr⟩
end
section
/-! ### whittleref1_ten: function 83 -/
def whittleref1_ten.l0 : Nat → Int → Int → Int → Option (Int)
 | 0, _, _, _ => none
 | k + 1, x0, x3, x4 => if x4 < x0 then (whittleref1_ten.l0 k x0 (IntKind.u64.wrap (x3 * 10)) (wrap64 (x4 + 1))) else (some x3)
def whittleref1_ten.f (k : Nat) (a0 : Int) : Option (Int) := whittleref1_ten.l0 k a0 1 0
theorem whittleref1_ten.mono_l : ∀ k, (∀ y0 y1 y2, LeO (whittleref1_ten.l0 k y0 y1 y2) (whittleref1_ten.l0 (k + 1) y0 y1 y2))
 | 0 => fun _ _ _ r h => by simp [whittleref1_ten.l0] at h
 | k + 1 => by
  have ih0 := whittleref1_ten.mono_l k
  ·intro y0 y1 y2
   unfold whittleref1_ten.l0
   repeat' first
   | (with_reducible exact ih0 _ _ _)
   | (with_reducible exact LeO.refl _)
   | (with_reducible exact LeO.none _)
   | (with_reducible refine LeO.ite ?_ ?_)
   | (with_reducible refine LeO.bind ?_ (fun _ => ?_))
   | exact ih0 _ _ _
   | exact LeO.none _
   | refine LeO.ite ?_ ?_
   | refine LeO.bind ?_ (fun _ => ?_)
theorem whittleref1_ten.mono : ∀ a0 k, LeO (whittleref1_ten.f k a0) (whittleref1_ten.f (k + 1) a0) := by
 intro a0 k
 have ih0 := whittleref1_ten.mono_l k
 unfold whittleref1_ten.f
 repeat' first
   | (with_reducible exact ih0 _ _ _)
   | (with_reducible exact LeO.refl _)
   | (with_reducible exact LeO.none _)
   | (with_reducible refine LeO.ite ?_ ?_)
   | (with_reducible refine LeO.bind ?_ (fun _ => ?_))
   | exact ih0 _ _ _
   | exact LeO.none _
   | refine LeO.ite ?_ ?_
   | refine LeO.bind ?_ (fun _ => ?_)
set_option maxHeartbeats 8000000 in
set_option maxRecDepth 100000 in
theorem whittleref1_ten.calls (k : Nat) (a0 : Int) (r : Int) (w : World) (h : whittleref1_ten.f k a0 = some r) :
  Calls Tryz.prog 83 #[.int .i64 a0] w fun e w' => e = .returned (.int .u64 r) ∧ Drawn0 w w' := by
 have H : (whittleref1_ten.l0 k a0 1 0) = some r := h
 clear h
 have H' := Aside0.mk H
 clear H
 go_enter Tryz.func83, Tryz.ntmps83
 go_wp2
 go_loopg [3, 4] k (fun kq v3 v4 w' => ∃ (x3_1 : Int) (x4_1 : Int), v3 = .int .u64 x3_1 ∧ v4 = .int .i64 x4_1 ∧ Aside0 (whittleref1_ten.l0 kq a0 x3_1 x4_1 = some r) ∧ Aside0 (kq ≤ k) ∧ Drawn0 w w')
 case atStart => exact ⟨(1), (0), er, er, H', ⟨Nat.le_refl _⟩, dr⟩
 case round =>
  clear H'
  obtain ⟨x3_1, x4_1, rfl, rfl, HA, HK1, ⟨m1, rfl⟩⟩ := hrel
  cases gk with
  | zero => exact absurd HA.out (by simp [whittleref1_ten.l0])
  | succ k1 =>
   have H := HA.out
   clear HA
   simp only [whittleref1_ten.l0] at H
   by_cases c2 : x4_1 < a0
   ·rw [if_pos c2] at H
    have c2b0 : decide (x4_1 < a0) = true := decide_eq_true c2
    clear c2
    have H' := Aside0.mk H
    clear H
    go_wp2
    go_roundg k1
    case measure => have := HK1.out; omega
    case rel => exact ⟨(IntKind.u64.wrap (x3_1 * 10)), (wrap64 (x4_1 + 1)), er, er, H', ⟨by have := HK1.out; omega⟩, dr⟩
   ·rw [if_neg c2] at H
    have c2b0 : decide (x4_1 < a0) = false := decide_eq_false c2
    clear c2
    obtain rfl := Option.some.inj H
    go_wp2
    go_ret
    exact ⟨er, dr⟩
end
section
/-! ### whittleref1_Read: function 57 -/
mutual
def whittleref1_Read.j0 : Nat → ByteArray → Int → Bool → Option (Int × Int × Bool)
 | 0, _, _, _ => none
 | k + 1, x0, x4, x5 => if x5 = true then (whittleref1_Read.j1 k x0 1 x5) else (whittleref1_Read.j1 k x0 x4 x5)
def whittleref1_Read.j1 : Nat → ByteArray → Int → Bool → Option (Int × Int × Bool)
 | 0, _, _, _ => none
 | k + 1, x0, x4, x5 => (whittleref1_piece.f k x0 x4).bind fun bt669 => (if bt669.2.2 = true then (if bt669.2.1 = (x0.size : Int) then (if x5 = true then ((whittleref1_made.f k (decide (bt669.1 > 0)) bt669.1 1).bind fun bt672 => (some (bt672.1, bt672.2.1, bt672.2.2))) else ((whittleref1_made.f k false bt669.1 1).bind fun bt675 => (some (bt675.1, bt675.2.1, bt675.2.2)))) else ((whittleref1_piece.f k x0 (wrap64 (bt669.2.1 + 1))).bind fun bt678 => (if bt678.2.2 = true then (whittleref1_Read.j2 k x0 x5 bt669.1 bt669.2.1 bt678.1 bt678.2.1 (bt678.2.1 != (x0.size : Int))) else (whittleref1_Read.j2 k x0 x5 bt669.1 bt669.2.1 bt678.1 bt678.2.1 true)))) else (some (0, 0, false)))
def whittleref1_Read.j2 : Nat → ByteArray → Bool → Int → Int → Int → Int → Bool → Option (Int × Int × Bool)
 | 0, _, _, _, _, _, _, _ => none
 | k + 1, x0, x5, x6, x7, x9, x10, x60 => if x60 = true then (some (0, 0, false)) else (if 0 ≤ x7 then (if x7 < (x0.size : Int) then (if (bt x0 x7) = 47 then (if x9 = 0 then (some (0, 0, false)) else (if x5 = true then ((whittleref1_made.f k (decide (x6 > 0)) x6 x9).bind fun bt681 => (some (bt681.1, bt681.2.1, bt681.2.2))) else ((whittleref1_made.f k false x6 x9).bind fun bt684 => (some (bt684.1, bt684.2.1, bt684.2.2))))) else (if (bt x0 x7) = 46 then (if (wrap64 ((wrap64 (x10 - x7)) - 1)) > 6 then (whittleref1_Read.j3 k x5 x6 x7 x9 x10 true) else (whittleref1_Read.j3 k x5 x6 x7 x9 x10 (decide (x6 > 1000000000000)))) else (whittleref1_Read.j3 k x5 x6 x7 x9 x10 true))) else (none)) else (none))
def whittleref1_Read.j3 : Nat → Bool → Int → Int → Int → Int → Bool → Option (Int × Int × Bool)
 | 0, _, _, _, _, _, _ => none
 | k + 1, x5, x6, x7, x9, x10, x93 => if x93 = true then (some (0, 0, false)) else ((whittleref1_ten.f k (wrap64 ((wrap64 (x10 - x7)) - 1))).bind fun t687 => (if x5 = true then ((whittleref1_made.f k (decide ((IntKind.u64.wrap ((IntKind.u64.wrap (x6 * t687)) + x9)) > 0)) (IntKind.u64.wrap ((IntKind.u64.wrap (x6 * t687)) + x9)) t687).bind fun bt688 => (some (bt688.1, bt688.2.1, bt688.2.2))) else ((whittleref1_made.f k false (IntKind.u64.wrap ((IntKind.u64.wrap (x6 * t687)) + x9)) t687).bind fun bt691 => (some (bt691.1, bt691.2.1, bt691.2.2)))))
end
def whittleref1_Read.f (k : Nat) (a0 : ByteArray) : Option (Int × Int × Bool) := if (a0.size : Int) > 0 then (if 0 < (a0.size : Int) then (whittleref1_Read.j0 k a0 0 ((bt a0 0) == 45)) else (none)) else (whittleref1_Read.j0 k a0 0 false)
theorem whittleref1_Read.mono_l : ∀ k, (∀ y0 y1 y2, LeO (whittleref1_Read.j0 k y0 y1 y2) (whittleref1_Read.j0 (k + 1) y0 y1 y2)) ∧ (∀ y0 y1 y2, LeO (whittleref1_Read.j1 k y0 y1 y2) (whittleref1_Read.j1 (k + 1) y0 y1 y2)) ∧ (∀ y0 y1 y2 y3 y4 y5 y6, LeO (whittleref1_Read.j2 k y0 y1 y2 y3 y4 y5 y6) (whittleref1_Read.j2 (k + 1) y0 y1 y2 y3 y4 y5 y6)) ∧ (∀ y0 y1 y2 y3 y4 y5, LeO (whittleref1_Read.j3 k y0 y1 y2 y3 y4 y5) (whittleref1_Read.j3 (k + 1) y0 y1 y2 y3 y4 y5))
 | 0 => ⟨fun _ _ _ r h => by simp [whittleref1_Read.j0] at h, fun _ _ _ r h => by simp [whittleref1_Read.j1] at h, fun _ _ _ _ _ _ _ r h => by simp [whittleref1_Read.j2] at h, fun _ _ _ _ _ _ r h => by simp [whittleref1_Read.j3] at h⟩
 | k + 1 => by
  obtain ⟨ih0, ih1, ih2, ih3⟩ := whittleref1_Read.mono_l k
  refine ⟨?_, ?_, ?_, ?_⟩
  ·intro y0 y1 y2
   unfold whittleref1_Read.j0
   repeat' first
   | (with_reducible exact ih0 _ _ _)
   | (with_reducible exact ih1 _ _ _)
   | (with_reducible exact ih2 _ _ _ _ _ _ _)
   | (with_reducible exact ih3 _ _ _ _ _ _)
   | (with_reducible exact whittleref1_made.mono _ _ _ _)
   | (with_reducible exact whittleref1_piece.mono _ _ _)
   | (with_reducible exact whittleref1_ten.mono _ _)
   | (with_reducible exact LeO.refl _)
   | (with_reducible exact LeO.none _)
   | (with_reducible refine LeO.ite ?_ ?_)
   | (with_reducible refine LeO.bind ?_ (fun _ => ?_))
   | exact ih0 _ _ _
   | exact ih1 _ _ _
   | exact ih2 _ _ _ _ _ _ _
   | exact ih3 _ _ _ _ _ _
   | exact whittleref1_made.mono _ _ _ _
   | exact whittleref1_piece.mono _ _ _
   | exact whittleref1_ten.mono _ _
   | exact LeO.none _
   | refine LeO.ite ?_ ?_
   | refine LeO.bind ?_ (fun _ => ?_)
  ·intro y0 y1 y2
   unfold whittleref1_Read.j1
   repeat' first
   | (with_reducible exact ih0 _ _ _)
   | (with_reducible exact ih1 _ _ _)
   | (with_reducible exact ih2 _ _ _ _ _ _ _)
   | (with_reducible exact ih3 _ _ _ _ _ _)
   | (with_reducible exact whittleref1_made.mono _ _ _ _)
   | (with_reducible exact whittleref1_piece.mono _ _ _)
   | (with_reducible exact whittleref1_ten.mono _ _)
   | (with_reducible exact LeO.refl _)
   | (with_reducible exact LeO.none _)
   | (with_reducible refine LeO.ite ?_ ?_)
   | (with_reducible refine LeO.bind ?_ (fun _ => ?_))
   | exact ih0 _ _ _
   | exact ih1 _ _ _
   | exact ih2 _ _ _ _ _ _ _
   | exact ih3 _ _ _ _ _ _
   | exact whittleref1_made.mono _ _ _ _
   | exact whittleref1_piece.mono _ _ _
   | exact whittleref1_ten.mono _ _
   | exact LeO.none _
   | refine LeO.ite ?_ ?_
   | refine LeO.bind ?_ (fun _ => ?_)
  ·intro y0 y1 y2 y3 y4 y5 y6
   unfold whittleref1_Read.j2
   repeat' first
   | (with_reducible exact ih0 _ _ _)
   | (with_reducible exact ih1 _ _ _)
   | (with_reducible exact ih2 _ _ _ _ _ _ _)
   | (with_reducible exact ih3 _ _ _ _ _ _)
   | (with_reducible exact whittleref1_made.mono _ _ _ _)
   | (with_reducible exact whittleref1_piece.mono _ _ _)
   | (with_reducible exact whittleref1_ten.mono _ _)
   | (with_reducible exact LeO.refl _)
   | (with_reducible exact LeO.none _)
   | (with_reducible refine LeO.ite ?_ ?_)
   | (with_reducible refine LeO.bind ?_ (fun _ => ?_))
   | exact ih0 _ _ _
   | exact ih1 _ _ _
   | exact ih2 _ _ _ _ _ _ _
   | exact ih3 _ _ _ _ _ _
   | exact whittleref1_made.mono _ _ _ _
   | exact whittleref1_piece.mono _ _ _
   | exact whittleref1_ten.mono _ _
   | exact LeO.none _
   | refine LeO.ite ?_ ?_
   | refine LeO.bind ?_ (fun _ => ?_)
  ·intro y0 y1 y2 y3 y4 y5
   unfold whittleref1_Read.j3
   repeat' first
   | (with_reducible exact ih0 _ _ _)
   | (with_reducible exact ih1 _ _ _)
   | (with_reducible exact ih2 _ _ _ _ _ _ _)
   | (with_reducible exact ih3 _ _ _ _ _ _)
   | (with_reducible exact whittleref1_made.mono _ _ _ _)
   | (with_reducible exact whittleref1_piece.mono _ _ _)
   | (with_reducible exact whittleref1_ten.mono _ _)
   | (with_reducible exact LeO.refl _)
   | (with_reducible exact LeO.none _)
   | (with_reducible refine LeO.ite ?_ ?_)
   | (with_reducible refine LeO.bind ?_ (fun _ => ?_))
   | exact ih0 _ _ _
   | exact ih1 _ _ _
   | exact ih2 _ _ _ _ _ _ _
   | exact ih3 _ _ _ _ _ _
   | exact whittleref1_made.mono _ _ _ _
   | exact whittleref1_piece.mono _ _ _
   | exact whittleref1_ten.mono _ _
   | exact LeO.none _
   | refine LeO.ite ?_ ?_
   | refine LeO.bind ?_ (fun _ => ?_)
theorem whittleref1_Read.mono : ∀ a0 k, LeO (whittleref1_Read.f k a0) (whittleref1_Read.f (k + 1) a0) := by
 intro a0 k
 obtain ⟨ih0, ih1, ih2, ih3⟩ := whittleref1_Read.mono_l k
 unfold whittleref1_Read.f
 repeat' first
   | (with_reducible exact ih0 _ _ _)
   | (with_reducible exact ih1 _ _ _)
   | (with_reducible exact ih2 _ _ _ _ _ _ _)
   | (with_reducible exact ih3 _ _ _ _ _ _)
   | (with_reducible exact whittleref1_made.mono _ _ _ _)
   | (with_reducible exact whittleref1_piece.mono _ _ _)
   | (with_reducible exact whittleref1_ten.mono _ _)
   | (with_reducible exact LeO.refl _)
   | (with_reducible exact LeO.none _)
   | (with_reducible refine LeO.ite ?_ ?_)
   | (with_reducible refine LeO.bind ?_ (fun _ => ?_))
   | exact ih0 _ _ _
   | exact ih1 _ _ _
   | exact ih2 _ _ _ _ _ _ _
   | exact ih3 _ _ _ _ _ _
   | exact whittleref1_made.mono _ _ _ _
   | exact whittleref1_piece.mono _ _ _
   | exact whittleref1_ten.mono _ _
   | exact LeO.none _
   | refine LeO.ite ?_ ?_
   | refine LeO.bind ?_ (fun _ => ?_)
set_option maxHeartbeats 8000000 in
set_option maxRecDepth 100000 in
theorem whittleref1_Read.calls (k : Nat) (a0 : ByteArray) (r1 : Int) (r2 : Int) (r3 : Bool) (w : World) (h : whittleref1_Read.f k a0 = some (r1, r2, r3)) :
  Calls Tryz.prog 57 #[.string a0] w fun e w' => e = .returned (.tuple #[.agg #[.int .i64 r1, .int .i64 r2], .bool r3]) ∧ Below w.heap.size w w' := by
 have hu23 := Tryz.underlying23
 have BX := Bx.start w
 have H : (if (a0.size : Int) > 0 then (if 0 < (a0.size : Int) then (whittleref1_Read.j0 k a0 0 ((bt a0 0) == 45)) else (none)) else (whittleref1_Read.j0 k a0 0 false)) = some (r1, r2, r3) := h
 clear h
 have HC2 := Aside0.mk H
 clear H
 go_enter Tryz.func57, Tryz.ntmps57
 go_upto_region 2 with (first | ((with_reducible refine gate_dst (N := 2) rfl ?_); (try (refine gate_guard (by rfl) ?_; dsimp only)); refine bxe 2 #[.int .i64 0, .int .i64 0] 23 rfl rfl gr ?_; clear BX; intro gb668 w3 GE668 BX))
 (try simp only [Act.put, List.setIfInBounds_toArray, List.set_cons_zero, List.set_cons_succ])
 go_cut [5] (fun v5 wc => ∃ (kq : Nat) (x5_1 : Bool), v5 = .bool x5_1 ∧ Aside0 (whittleref1_Read.j0 kq a0 0 x5_1 = some (r1, r2, r3)) ∧ Aside0 (kq ≤ k) ∧ Bx w wc [(gb668, 23, #[.int .i64 0, .int .i64 0])])
 case first =>
  have H := HC2.out
  clear HC2
  by_cases c4 : (a0.size : Int) > 0
  ·rw [if_pos c4] at H
   have c4b0 : decide (0 < (a0.size : Int)) = true := decide_eq_true c4
   have c4b1 : decide (0 < a0.size) = true := decide_eq_true (by omega)
   clear c4
   (first | rw [c4b0] | (simp only [i64_w, i32_w]; rw [c4b0]) | skip)
   by_cases c5 : 0 < (a0.size : Int)
   ·rw [if_pos c5] at H
    have c5b0 : decide (0 < (a0.size : Int)) = true := decide_eq_true c5
    have c5b1 : decide (0 < a0.size) = true := decide_eq_true (by omega)
    clear c5
    have H' := Aside0.mk H
    clear H
    have p6 : 0 ≤ (0 : Int) := (by omega)
    have q6 : 0 < a0.size := (by have : (0 : Int) < (a0.size : Int) := of_decide_eq_true (by first | (with_reducible assumption) | assumption); omega)
    have hx6 : ∀ h : 0 < a0.size, ((a0[0]'h).toNat : Int) = bt a0 0 := bt_at a0 0
    clear p6
    have qi6 : (0 < (a0.size : Int)) = True := eq_true (of_decide_eq_true (by first | (with_reducible assumption) | assumption))
    replace q6 := eq_true q6
    go_wp2
    go_meet
    case rel => exact ⟨_, (((bt a0 0) == 45)), er, H', ⟨by first | omega | exact Nat.le_refl _⟩, bxs⟩
   ·rw [if_neg c5] at H
    exact absurd H (by simp)
  ·rw [if_neg c4] at H
   have c4b0 : decide (0 < (a0.size : Int)) = false := decide_eq_false c4
   have c4b1 : decide (0 < a0.size) = false := decide_eq_false (by omega)
   clear c4
   (first | rw [c4b0] | (simp only [i64_w, i32_w]; rw [c4b0]) | skip)
   have H' := Aside0.mk H
   clear H
   go_wp2
   go_meet
   case rel => exact ⟨_, (false), er, H', ⟨by first | omega | exact Nat.le_refl _⟩, bxs⟩
 case rest =>
  clear HC2
  try clear p2
  try clear c4
  try clear c4b0
  try clear c4b1
  try clear c5
  try clear c5b0
  try clear c5b1
  try clear p6
  try clear q6
  try clear hx6
  try clear qi6
  try clear p6
  try clear q6
  obtain ⟨kq, x5_1, rfl, HA, HJ1, BX⟩ := hcut
  cases kq with
  | zero => exact absurd HA.out (by simp [whittleref1_Read.j0])
  | succ kj1 =>
   have H := HA.out
   clear HA
   simp only [whittleref1_Read.j0] at H
   have HC7 := Aside0.mk H
   clear H
   go_upto_if 21 with (fail)
   go_cut [4] (fun v4 wc => ∃ (kq : Nat) (x4_6 : Int), v4 = .int .i64 x4_6 ∧ Aside0 (whittleref1_Read.j1 kq a0 x4_6 x5_1 = some (r1, r2, r3)) ∧ Aside0 (kq ≤ kj1) ∧ Bx w wc [(gb668, 23, #[.int .i64 0, .int .i64 0])])
   case first =>
    have H := HC7.out
    clear HC7
    by_cases c8 : x5_1 = true
    ·subst c8
     have H1 : (whittleref1_Read.j1 kj1 a0 1 true) = some (r1, r2, r3) := by rw [if_pos rfl] at H; exact H
     clear H
     have H := H1
     clear H1
     have H' := Aside0.mk H
     clear H
     go_wp2
     go_meet
     case rel => exact ⟨_, (1), er, H', ⟨by have := HJ1.out; first | omega | exact Nat.le_refl _⟩, bxs⟩
    ·replace c8 := Bool.eq_false_iff.mpr c8
     subst c8
     have H1 : (whittleref1_Read.j1 kj1 a0 0 false) = some (r1, r2, r3) := by rw [if_neg (show ¬ (false = true) by decide)] at H; exact H
     clear H
     have H := H1
     clear H1
     have H' := Aside0.mk H
     clear H
     go_wp2
     go_meet
     case rel => exact ⟨_, (0), er, H', ⟨by have := HJ1.out; first | omega | exact Nat.le_refl _⟩, bxs⟩
   case rest =>
    clear HC7
    try clear p2
    try clear c4
    try clear c4b0
    try clear c4b1
    try clear c5
    try clear c5b0
    try clear c5b1
    try clear p6
    try clear q6
    try clear hx6
    try clear qi6
    try clear c8
    try clear p2
    try clear p6
    try clear q6
    obtain ⟨kq, x4_6, rfl, HA, HJ6, BX⟩ := hcut
    cases kq with
    | zero => exact absurd HA.out (by simp [whittleref1_Read.j1])
    | succ kj6 =>
     have H := HA.out
     clear HA
     simp only [whittleref1_Read.j1] at H
     replace H := Option.bind_eq_some_iff.mp H
     obtain ⟨⟨t669, t670, t671⟩, A90, H⟩ := H
     replace H : (if t671 = true then (if t670 = (a0.size : Int) then (if x5_1 = true then ((whittleref1_made.f kj6 (decide (t669 > 0)) t669 1).bind fun bt672 => (some (bt672.1, bt672.2.1, bt672.2.2))) else ((whittleref1_made.f kj6 false t669 1).bind fun bt675 => (some (bt675.1, bt675.2.1, bt675.2.2)))) else ((whittleref1_piece.f kj6 a0 (wrap64 (t670 + 1))).bind fun bt678 => (if bt678.2.2 = true then (whittleref1_Read.j2 kj6 a0 x5_1 t669 t670 bt678.1 bt678.2.1 (bt678.2.1 != (a0.size : Int))) else (whittleref1_Read.j2 kj6 a0 x5_1 t669 t670 bt678.1 bt678.2.1 true)))) else (some (0, 0, false))) = some (r1, r2, r3) := H
     have A9 := Aside0.mk A90
     clear A90
     by_cases c10 : t671 = true
     ·subst c10
      have H1 : (if t670 = (a0.size : Int) then (if x5_1 = true then ((whittleref1_made.f kj6 (decide (t669 > 0)) t669 1).bind fun bt672 => (some (bt672.1, bt672.2.1, bt672.2.2))) else ((whittleref1_made.f kj6 false t669 1).bind fun bt675 => (some (bt675.1, bt675.2.1, bt675.2.2)))) else ((whittleref1_piece.f kj6 a0 (wrap64 (t670 + 1))).bind fun bt678 => (if bt678.2.2 = true then (whittleref1_Read.j2 kj6 a0 x5_1 t669 t670 bt678.1 bt678.2.1 (bt678.2.1 != (a0.size : Int))) else (whittleref1_Read.j2 kj6 a0 x5_1 t669 t670 bt678.1 bt678.2.1 true)))) = some (r1, r2, r3) := by rw [if_pos rfl] at H; exact H
      clear H
      have H := H1
      clear H1
      by_cases c11 : t670 = (a0.size : Int)
      ·rw [if_pos c11] at H
       have c11b0 : (t670 == (a0.size : Int)) = true := beq_iff_eq.mpr c11
       have c11b1 : (t670 != (a0.size : Int)) = false := bne_eq_false_iff_eq.mpr c11
       clear c11
       by_cases c12 : x5_1 = true
       ·subst c12
        have H1 : ((whittleref1_made.f kj6 (decide (t669 > 0)) t669 1).bind fun bt672 => (some (bt672.1, bt672.2.1, bt672.2.2))) = some (r1, r2, r3) := by rw [if_pos rfl] at H; exact H
        clear H
        have H := H1
        clear H1
        replace H := Option.bind_eq_some_iff.mp H
        obtain ⟨⟨t672, t673, t674⟩, A130, H⟩ := H
        replace H : (some (t672, t673, t674)) = some (r1, r2, r3) := H
        have A13 := Aside0.mk A130
        clear A130
        simp only [Option.some.injEq, Prod.mk.injEq] at H
        obtain ⟨rfl, rfl, rfl⟩ := H
        go_wp2_with (first | ((with_reducible refine gate_callee (f := 81) rfl ?_); refine goesL_ (some 25) rfl rfl Tryz.func81 kr rfl #[.string a0, .int .i64 x4_6] rfl ga ?_; (with_reducible refine (whittleref1_piece.calls kj6 a0 x4_6 t669 t670 true _ A9.out).mono ?_); rintro e w' ⟨rfl, ⟨nd, rfl⟩⟩; refine ⟨_, rfl, ?_⟩) | ((with_reducible refine gate_callee (f := 82) rfl ?_); refine goesL_ (some 42) rfl rfl Tryz.func82 kr rfl #[.bool (decide (t669 > 0)), .int .u64 t669, .int .u64 1] rfl ga ?_; (with_reducible refine (whittleref1_made.calls kj6 (decide (t669 > 0)) t669 1 t672 t673 t674 _ A13.out).mono ?_); rintro e w15 ⟨rfl, hb⟩; refine ⟨_, rfl, ?_⟩; replace BX := bx_call hb; clear hb))
        refine bodyPost_ret (results_ct rfl _ _ gb668 23 #[.int .i64 t672, .int .i64 t673] (0, 0) _ rfl bx_get Tryz.underlying23 rfl kr) rfl ?_
        exact ⟨er2, bx_bl⟩
       ·replace c12 := Bool.eq_false_iff.mpr c12
        subst c12
        have H1 : ((whittleref1_made.f kj6 false t669 1).bind fun bt675 => (some (bt675.1, bt675.2.1, bt675.2.2))) = some (r1, r2, r3) := by rw [if_neg (show ¬ (false = true) by decide)] at H; exact H
        clear H
        have H := H1
        clear H1
        replace H := Option.bind_eq_some_iff.mp H
        obtain ⟨⟨t675, t676, t677⟩, A170, H⟩ := H
        replace H : (some (t675, t676, t677)) = some (r1, r2, r3) := H
        have A17 := Aside0.mk A170
        clear A170
        simp only [Option.some.injEq, Prod.mk.injEq] at H
        obtain ⟨rfl, rfl, rfl⟩ := H
        go_wp2_with (first | ((with_reducible refine gate_callee (f := 81) rfl ?_); refine goesL_ (some 25) rfl rfl Tryz.func81 kr rfl #[.string a0, .int .i64 x4_6] rfl ga ?_; (with_reducible refine (whittleref1_piece.calls kj6 a0 x4_6 t669 t670 true _ A9.out).mono ?_); rintro e w' ⟨rfl, ⟨nd, rfl⟩⟩; refine ⟨_, rfl, ?_⟩) | ((with_reducible refine gate_callee (f := 82) rfl ?_); refine goesL_ (some 42) rfl rfl Tryz.func82 kr rfl #[.bool false, .int .u64 t669, .int .u64 1] rfl ga ?_; (with_reducible refine (whittleref1_made.calls kj6 false t669 1 t675 t676 t677 _ A17.out).mono ?_); rintro e w19 ⟨rfl, hb⟩; refine ⟨_, rfl, ?_⟩; replace BX := bx_call hb; clear hb))
        refine bodyPost_ret (results_ct rfl _ _ gb668 23 #[.int .i64 t675, .int .i64 t676] (0, 0) _ rfl bx_get Tryz.underlying23 rfl kr) rfl ?_
        exact ⟨er2, bx_bl⟩
      ·rw [if_neg c11] at H
       have c11b0 : (t670 == (a0.size : Int)) = false := beq_eq_false_iff_ne.mpr c11
       have c11b1 : (t670 != (a0.size : Int)) = true := bne_iff_ne.mpr c11
       replace H := Option.bind_eq_some_iff.mp H
       obtain ⟨⟨t678, t679, t680⟩, A210, H⟩ := H
       replace H : (if t680 = true then (whittleref1_Read.j2 kj6 a0 x5_1 t669 t670 t678 t679 (t679 != (a0.size : Int))) else (whittleref1_Read.j2 kj6 a0 x5_1 t669 t670 t678 t679 true)) = some (r1, r2, r3) := H
       have A21 := Aside0.mk A210
       clear A210
       have HC22 := Aside0.mk H
       clear H
       go_upto_region 11 with (first | ((with_reducible refine gate_callee (f := 81) rfl ?_); refine goesL_ (some 25) rfl rfl Tryz.func81 kr rfl #[.string a0, .int .i64 x4_6] rfl ga ?_; (with_reducible refine (whittleref1_piece.calls kj6 a0 x4_6 t669 t670 true _ A9.out).mono ?_); rintro e w' ⟨rfl, ⟨nd, rfl⟩⟩; refine ⟨_, rfl, ?_⟩) | ((with_reducible refine gate_callee (f := 81) rfl ?_); refine goesL_ (some 49) rfl rfl Tryz.func81 kr rfl #[.string a0, .int .i64 (wrap64 (t670 + 1))] rfl ga ?_; (with_reducible refine (whittleref1_piece.calls kj6 a0 (wrap64 (t670 + 1)) t678 t679 t680 _ A21.out).mono ?_); rintro e w' ⟨rfl, ⟨nd, rfl⟩⟩; refine ⟨_, rfl, ?_⟩))
       (try simp only [Act.put, List.setIfInBounds_toArray, List.set_cons_zero, List.set_cons_succ])
       go_cut [60] (fun v60 wc => ∃ (kq : Nat) (x60_21 : Bool), v60 = .bool x60_21 ∧ Aside0 (whittleref1_Read.j2 kq a0 x5_1 t669 t670 t678 t679 x60_21 = some (r1, r2, r3)) ∧ Aside0 (kq ≤ kj6) ∧ Bx w wc [(gb668, 23, #[.int .i64 0, .int .i64 0])])
       case first =>
        have H := HC22.out
        clear HC22
        by_cases c23 : t680 = true
        ·subst c23
         have H1 : (whittleref1_Read.j2 kj6 a0 x5_1 t669 t670 t678 t679 (t679 != (a0.size : Int))) = some (r1, r2, r3) := by rw [if_pos rfl] at H; exact H
         clear H
         have H := H1
         clear H1
         have H' := Aside0.mk H
         clear H
         go_wp2
         go_meet
         case rel => exact ⟨_, ((t679 != (a0.size : Int))), er, H', ⟨by have := HJ1.out; have := HJ6.out; first | omega | exact Nat.le_refl _⟩, bxs⟩
        ·replace c23 := Bool.eq_false_iff.mpr c23
         subst c23
         have H1 : (whittleref1_Read.j2 kj6 a0 x5_1 t669 t670 t678 t679 true) = some (r1, r2, r3) := by rw [if_neg (show ¬ (false = true) by decide)] at H; exact H
         clear H
         have H := H1
         clear H1
         have H' := Aside0.mk H
         clear H
         go_wp2
         go_meet
         case rel => exact ⟨_, (true), er, H', ⟨by have := HJ1.out; have := HJ6.out; first | omega | exact Nat.le_refl _⟩, bxs⟩
       case rest =>
        clear HC22
        try clear c1
        try clear c2
        try clear p2
        try clear c4
        try clear c4b0
        try clear c4b1
        try clear c5
        try clear c5b0
        try clear c5b1
        try clear p6
        try clear q6
        try clear hx6
        try clear qi6
        try clear c8
        try clear c10
        try clear c11
        try clear c11b0
        try clear c11b1
        try clear c12
        try clear c23
        try clear p2
        try clear p6
        try clear q6
        obtain ⟨kq, x60_21, rfl, HA, HJ21, BX⟩ := hcut
        cases kq with
        | zero => exact absurd HA.out (by simp [whittleref1_Read.j2])
        | succ kj21 =>
         have H := HA.out
         clear HA
         simp only [whittleref1_Read.j2] at H
         by_cases c24 : x60_21 = true
         ·subst c24
          have H1 : (some (0, 0, false)) = some (r1, r2, r3) := by rw [if_pos rfl] at H; exact H
          clear H
          have H := H1
          clear H1
          simp only [Option.some.injEq, Prod.mk.injEq] at H
          obtain ⟨rfl, rfl, rfl⟩ := H
          go_wp2
          refine bodyPost_ret (results_ct rfl _ _ gb668 23 #[.int .i64 0, .int .i64 0] (0, 0) _ rfl bx_get Tryz.underlying23 rfl kr) rfl ?_
          exact ⟨er2, bx_bl⟩
         ·replace c24 := Bool.eq_false_iff.mpr c24
          subst c24
          have H1 : (if 0 ≤ t670 then (if t670 < (a0.size : Int) then (if (bt a0 t670) = 47 then (if t678 = 0 then (some (0, 0, false)) else (if x5_1 = true then ((whittleref1_made.f kj21 (decide (t669 > 0)) t669 t678).bind fun bt681 => (some (bt681.1, bt681.2.1, bt681.2.2))) else ((whittleref1_made.f kj21 false t669 t678).bind fun bt684 => (some (bt684.1, bt684.2.1, bt684.2.2))))) else (if (bt a0 t670) = 46 then (if (wrap64 ((wrap64 (t679 - t670)) - 1)) > 6 then (whittleref1_Read.j3 kj21 x5_1 t669 t670 t678 t679 true) else (whittleref1_Read.j3 kj21 x5_1 t669 t670 t678 t679 (decide (t669 > 1000000000000)))) else (whittleref1_Read.j3 kj21 x5_1 t669 t670 t678 t679 true))) else (none)) else (none)) = some (r1, r2, r3) := by rw [if_neg (show ¬ (false = true) by decide)] at H; exact H
          clear H
          have H := H1
          clear H1
          by_cases c26 : 0 ≤ t670
          ·rw [if_pos c26] at H
           have c26b0 : decide (0 ≤ t670) = true := decide_eq_true c26
           clear c26
           by_cases c27 : t670 < (a0.size : Int)
           ·rw [if_pos c27] at H
            have c27b0 : decide (t670 < (a0.size : Int)) = true := decide_eq_true c27
            clear c27
            by_cases c29 : (bt a0 t670) = 47
            ·rw [if_pos c29] at H
             have c29b0 : ((bt a0 t670) == 47) = true := beq_iff_eq.mpr c29
             have c29b1 : ((bt a0 t670) != 47) = false := bne_eq_false_iff_eq.mpr c29
             clear c29
             by_cases c30 : t678 = 0
             ·rw [if_pos c30] at H
              have c30b0 : (t678 == 0) = true := beq_iff_eq.mpr c30
              have c30b1 : (t678 != 0) = false := bne_eq_false_iff_eq.mpr c30
              clear c30
              simp only [Option.some.injEq, Prod.mk.injEq] at H
              obtain ⟨rfl, rfl, rfl⟩ := H
              have p28 : 0 ≤ (t670 : Int) := of_decide_eq_true (by first | (with_reducible assumption) | assumption)
              have q28 : t670 < (a0.size : Int) := of_decide_eq_true (by first | (with_reducible assumption) | assumption)
              have hx28 := bt_at a0 t670
              replace p28 := eq_true p28
              replace q28 := eq_true q28
              go_wp2
              refine bodyPost_ret (results_ct rfl _ _ gb668 23 #[.int .i64 0, .int .i64 0] (0, 0) _ rfl bx_get Tryz.underlying23 rfl kr) rfl ?_
              exact ⟨er2, bx_bl⟩
             ·rw [if_neg c30] at H
              have c30b0 : (t678 == 0) = false := beq_eq_false_iff_ne.mpr c30
              have c30b1 : (t678 != 0) = true := bne_iff_ne.mpr c30
              by_cases c32 : x5_1 = true
              ·subst c32
               have H1 : ((whittleref1_made.f kj21 (decide (t669 > 0)) t669 t678).bind fun bt681 => (some (bt681.1, bt681.2.1, bt681.2.2))) = some (r1, r2, r3) := by rw [if_pos rfl] at H; exact H
               clear H
               have H := H1
               clear H1
               replace H := Option.bind_eq_some_iff.mp H
               obtain ⟨⟨t681, t682, t683⟩, A330, H⟩ := H
               replace H : (some (t681, t682, t683)) = some (r1, r2, r3) := H
               have A33 := Aside0.mk A330
               clear A330
               simp only [Option.some.injEq, Prod.mk.injEq] at H
               obtain ⟨rfl, rfl, rfl⟩ := H
               have p28 : 0 ≤ (t670 : Int) := of_decide_eq_true (by first | (with_reducible assumption) | assumption)
               have q28 : t670 < (a0.size : Int) := of_decide_eq_true (by first | (with_reducible assumption) | assumption)
               have hx28 := bt_at a0 t670
               replace p28 := eq_true p28
               replace q28 := eq_true q28
               go_wp2_with (first | ((with_reducible refine gate_callee (f := 82) rfl ?_); refine goesL_ (some 76) rfl rfl Tryz.func82 kr rfl #[.bool (decide (t669 > 0)), .int .u64 t669, .int .u64 t678] rfl ga ?_; (with_reducible refine (whittleref1_made.calls kj21 (decide (t669 > 0)) t669 t678 t681 t682 t683 _ A33.out).mono ?_); rintro e w34 ⟨rfl, hb⟩; refine ⟨_, rfl, ?_⟩; replace BX := bx_call hb; clear hb))
               refine bodyPost_ret (results_ct rfl _ _ gb668 23 #[.int .i64 t681, .int .i64 t682] (0, 0) _ rfl bx_get Tryz.underlying23 rfl kr) rfl ?_
               exact ⟨er2, bx_bl⟩
              ·replace c32 := Bool.eq_false_iff.mpr c32
               subst c32
               have H1 : ((whittleref1_made.f kj21 false t669 t678).bind fun bt684 => (some (bt684.1, bt684.2.1, bt684.2.2))) = some (r1, r2, r3) := by rw [if_neg (show ¬ (false = true) by decide)] at H; exact H
               clear H
               have H := H1
               clear H1
               replace H := Option.bind_eq_some_iff.mp H
               obtain ⟨⟨t684, t685, t686⟩, A360, H⟩ := H
               replace H : (some (t684, t685, t686)) = some (r1, r2, r3) := H
               have A36 := Aside0.mk A360
               clear A360
               simp only [Option.some.injEq, Prod.mk.injEq] at H
               obtain ⟨rfl, rfl, rfl⟩ := H
               have p28 : 0 ≤ (t670 : Int) := of_decide_eq_true (by first | (with_reducible assumption) | assumption)
               have q28 : t670 < (a0.size : Int) := of_decide_eq_true (by first | (with_reducible assumption) | assumption)
               have hx28 := bt_at a0 t670
               replace p28 := eq_true p28
               replace q28 := eq_true q28
               go_wp2_with (first | ((with_reducible refine gate_callee (f := 82) rfl ?_); refine goesL_ (some 76) rfl rfl Tryz.func82 kr rfl #[.bool false, .int .u64 t669, .int .u64 t678] rfl ga ?_; (with_reducible refine (whittleref1_made.calls kj21 false t669 t678 t684 t685 t686 _ A36.out).mono ?_); rintro e w37 ⟨rfl, hb⟩; refine ⟨_, rfl, ?_⟩; replace BX := bx_call hb; clear hb))
               refine bodyPost_ret (results_ct rfl _ _ gb668 23 #[.int .i64 t684, .int .i64 t685] (0, 0) _ rfl bx_get Tryz.underlying23 rfl kr) rfl ?_
               exact ⟨er2, bx_bl⟩
            ·rw [if_neg c29] at H
             have c29b0 : ((bt a0 t670) == 47) = false := beq_eq_false_iff_ne.mpr c29
             have c29b1 : ((bt a0 t670) != 47) = true := bne_iff_ne.mpr c29
             have HC39 := Aside0.mk H
             clear H
             have p28 : 0 ≤ (t670 : Int) := of_decide_eq_true (by first | (with_reducible assumption) | assumption)
             have q28 : t670 < (a0.size : Int) := of_decide_eq_true (by first | (with_reducible assumption) | assumption)
             have hx28 := bt_at a0 t670
             replace p28 := eq_true p28
             replace q28 := eq_true q28
             go_upto_region 17 with (fail)
             go_cut [93] (fun v93 wc => ∃ (kq : Nat) (x93_38 : Bool), v93 = .bool x93_38 ∧ Aside0 (whittleref1_Read.j3 kq x5_1 t669 t670 t678 t679 x93_38 = some (r1, r2, r3)) ∧ Aside0 (kq ≤ kj21) ∧ Bx w wc [(gb668, 23, #[.int .i64 0, .int .i64 0])])
             case first =>
              have H := HC39.out
              clear HC39
              by_cases c41 : (bt a0 t670) = 46
              ·rw [if_pos c41] at H
               have c41b0 : ((bt a0 t670) == 46) = true := beq_iff_eq.mpr c41
               have c41b1 : ((bt a0 t670) != 46) = false := bne_eq_false_iff_eq.mpr c41
               clear c41
               (first | rw [c41b0] | (simp only [i64_w, i32_w]; rw [c41b0]) | skip)
               by_cases c42 : (wrap64 ((wrap64 (t679 - t670)) - 1)) > 6
               ·rw [if_pos c42] at H
                have c42b0 : decide (6 < (wrap64 ((wrap64 (t679 - t670)) - 1))) = true := decide_eq_true c42
                clear c42
                have H' := Aside0.mk H
                clear H
                have p40 : 0 ≤ (t670 : Int) := of_decide_eq_true (by first | (with_reducible assumption) | assumption)
                have q40 : t670 < (a0.size : Int) := of_decide_eq_true (by first | (with_reducible assumption) | assumption)
                have hx40 := bt_at a0 t670
                replace p40 := eq_true p40
                replace q40 := eq_true q40
                go_wp2
                go_meet
                case rel => exact ⟨_, (true), er, H', ⟨by have := HJ1.out; have := HJ6.out; have := HJ21.out; first | omega | exact Nat.le_refl _⟩, bxs⟩
               ·rw [if_neg c42] at H
                have c42b0 : decide (6 < (wrap64 ((wrap64 (t679 - t670)) - 1))) = false := decide_eq_false c42
                clear c42
                have H' := Aside0.mk H
                clear H
                have p40 : 0 ≤ (t670 : Int) := of_decide_eq_true (by first | (with_reducible assumption) | assumption)
                have q40 : t670 < (a0.size : Int) := of_decide_eq_true (by first | (with_reducible assumption) | assumption)
                have hx40 := bt_at a0 t670
                replace p40 := eq_true p40
                replace q40 := eq_true q40
                go_wp2
                go_meet
                case rel => exact ⟨_, (decide (t669 > 1000000000000)), er, H', ⟨by have := HJ1.out; have := HJ6.out; have := HJ21.out; first | omega | exact Nat.le_refl _⟩, bxs⟩
              ·rw [if_neg c41] at H
               have c41b0 : ((bt a0 t670) == 46) = false := beq_eq_false_iff_ne.mpr c41
               have c41b1 : ((bt a0 t670) != 46) = true := bne_iff_ne.mpr c41
               (first | rw [c41b0] | (simp only [i64_w, i32_w]; rw [c41b0]) | skip)
               have H' := Aside0.mk H
               clear H
               have p40 : 0 ≤ (t670 : Int) := of_decide_eq_true (by first | (with_reducible assumption) | assumption)
               have q40 : t670 < (a0.size : Int) := of_decide_eq_true (by first | (with_reducible assumption) | assumption)
               have hx40 := bt_at a0 t670
               replace p40 := eq_true p40
               replace q40 := eq_true q40
               go_wp2
               go_meet
               case rel => exact ⟨_, (true), er, H', ⟨by have := HJ1.out; have := HJ6.out; have := HJ21.out; first | omega | exact Nat.le_refl _⟩, bxs⟩
             case rest =>
              clear HC39
              try clear c1
              try clear c2
              try clear p2
              try clear q2
              try clear hx2
              try clear c3
              try clear c4
              try clear c4b0
              try clear c4b1
              try clear p4
              try clear q4
              try clear hx4
              try clear c5
              try clear c5b0
              try clear c5b1
              try clear p6
              try clear q6
              try clear hx6
              try clear qi6
              try clear c8
              try clear c10
              try clear c11
              try clear c11b0
              try clear c11b1
              try clear c12
              try clear c23
              try clear c24
              try clear c26
              try clear c26b0
              try clear c27
              try clear c27b0
              try clear p28
              try clear q28
              try clear hx28
              try clear c29
              try clear c29b0
              try clear c29b1
              try clear c30
              try clear c30b0
              try clear c30b1
              try clear c32
              try clear p40
              try clear q40
              try clear hx40
              try clear c41
              try clear c41b0
              try clear c41b1
              try clear c42
              try clear c42b0
              try clear p2
              try clear p28
              try clear p40
              try clear p6
              try clear q28
              try clear q40
              try clear q6
              obtain ⟨kq, x93_38, rfl, HA, HJ38, BX⟩ := hcut
              cases kq with
              | zero => exact absurd HA.out (by simp [whittleref1_Read.j3])
              | succ kj38 =>
               have H := HA.out
               clear HA
               simp only [whittleref1_Read.j3] at H
               by_cases c43 : x93_38 = true
               ·subst c43
                have H1 : (some (0, 0, false)) = some (r1, r2, r3) := by rw [if_pos rfl] at H; exact H
                clear H
                have H := H1
                clear H1
                simp only [Option.some.injEq, Prod.mk.injEq] at H
                obtain ⟨rfl, rfl, rfl⟩ := H
                go_wp2
                refine bodyPost_ret (results_ct rfl _ _ gb668 23 #[.int .i64 0, .int .i64 0] (0, 0) _ rfl bx_get Tryz.underlying23 rfl kr) rfl ?_
                exact ⟨er2, bx_bl⟩
               ·replace c43 := Bool.eq_false_iff.mpr c43
                subst c43
                have H1 : ((whittleref1_ten.f kj38 (wrap64 ((wrap64 (t679 - t670)) - 1))).bind fun t687 => (if x5_1 = true then ((whittleref1_made.f kj38 (decide ((IntKind.u64.wrap ((IntKind.u64.wrap (t669 * t687)) + t678)) > 0)) (IntKind.u64.wrap ((IntKind.u64.wrap (t669 * t687)) + t678)) t687).bind fun bt688 => (some (bt688.1, bt688.2.1, bt688.2.2))) else ((whittleref1_made.f kj38 false (IntKind.u64.wrap ((IntKind.u64.wrap (t669 * t687)) + t678)) t687).bind fun bt691 => (some (bt691.1, bt691.2.1, bt691.2.2))))) = some (r1, r2, r3) := by rw [if_neg (show ¬ (false = true) by decide)] at H; exact H
                clear H
                have H := H1
                clear H1
                replace H := Option.bind_eq_some_iff.mp H
                obtain ⟨t687, A450, H⟩ := H
                replace H : (if x5_1 = true then ((whittleref1_made.f kj38 (decide ((IntKind.u64.wrap ((IntKind.u64.wrap (t669 * t687)) + t678)) > 0)) (IntKind.u64.wrap ((IntKind.u64.wrap (t669 * t687)) + t678)) t687).bind fun bt688 => (some (bt688.1, bt688.2.1, bt688.2.2))) else ((whittleref1_made.f kj38 false (IntKind.u64.wrap ((IntKind.u64.wrap (t669 * t687)) + t678)) t687).bind fun bt691 => (some (bt691.1, bt691.2.1, bt691.2.2)))) = some (r1, r2, r3) := H
                have A45 := Aside0.mk A450
                clear A450
                by_cases c46 : x5_1 = true
                ·subst c46
                 have H1 : ((whittleref1_made.f kj38 (decide ((IntKind.u64.wrap ((IntKind.u64.wrap (t669 * t687)) + t678)) > 0)) (IntKind.u64.wrap ((IntKind.u64.wrap (t669 * t687)) + t678)) t687).bind fun bt688 => (some (bt688.1, bt688.2.1, bt688.2.2))) = some (r1, r2, r3) := by rw [if_pos rfl] at H; exact H
                 clear H
                 have H := H1
                 clear H1
                 replace H := Option.bind_eq_some_iff.mp H
                 obtain ⟨⟨t688, t689, t690⟩, A470, H⟩ := H
                 replace H : (some (t688, t689, t690)) = some (r1, r2, r3) := H
                 have A47 := Aside0.mk A470
                 clear A470
                 simp only [Option.some.injEq, Prod.mk.injEq] at H
                 obtain ⟨rfl, rfl, rfl⟩ := H
                 go_wp2_with (first | ((with_reducible refine gate_callee (f := 83) rfl ?_); refine goesL_ (some 99) rfl rfl Tryz.func83 kr rfl #[.int .i64 (wrap64 ((wrap64 (t679 - t670)) - 1))] rfl ga ?_; (with_reducible refine (whittleref1_ten.calls kj38 (wrap64 ((wrap64 (t679 - t670)) - 1)) t687 _ A45.out).mono ?_); rintro e w' ⟨rfl, ⟨nd, rfl⟩⟩; refine ⟨_, rfl, ?_⟩) | ((with_reducible refine gate_callee (f := 82) rfl ?_); refine goesL_ (some 115) rfl rfl Tryz.func82 kr rfl #[.bool (decide ((IntKind.u64.wrap ((IntKind.u64.wrap (t669 * t687)) + t678)) > 0)), .int .u64 (IntKind.u64.wrap ((IntKind.u64.wrap (t669 * t687)) + t678)), .int .u64 t687] rfl ga ?_; (with_reducible refine (whittleref1_made.calls kj38 (decide ((IntKind.u64.wrap ((IntKind.u64.wrap (t669 * t687)) + t678)) > 0)) (IntKind.u64.wrap ((IntKind.u64.wrap (t669 * t687)) + t678)) t687 t688 t689 t690 _ A47.out).mono ?_); rintro e w49 ⟨rfl, hb⟩; refine ⟨_, rfl, ?_⟩; replace BX := bx_call hb; clear hb))
                 refine bodyPost_ret (results_ct rfl _ _ gb668 23 #[.int .i64 t688, .int .i64 t689] (0, 0) _ rfl bx_get Tryz.underlying23 rfl kr) rfl ?_
                 exact ⟨er2, bx_bl⟩
                ·replace c46 := Bool.eq_false_iff.mpr c46
                 subst c46
                 have H1 : ((whittleref1_made.f kj38 false (IntKind.u64.wrap ((IntKind.u64.wrap (t669 * t687)) + t678)) t687).bind fun bt691 => (some (bt691.1, bt691.2.1, bt691.2.2))) = some (r1, r2, r3) := by rw [if_neg (show ¬ (false = true) by decide)] at H; exact H
                 clear H
                 have H := H1
                 clear H1
                 replace H := Option.bind_eq_some_iff.mp H
                 obtain ⟨⟨t691, t692, t693⟩, A510, H⟩ := H
                 replace H : (some (t691, t692, t693)) = some (r1, r2, r3) := H
                 have A51 := Aside0.mk A510
                 clear A510
                 simp only [Option.some.injEq, Prod.mk.injEq] at H
                 obtain ⟨rfl, rfl, rfl⟩ := H
                 go_wp2_with (first | ((with_reducible refine gate_callee (f := 83) rfl ?_); refine goesL_ (some 99) rfl rfl Tryz.func83 kr rfl #[.int .i64 (wrap64 ((wrap64 (t679 - t670)) - 1))] rfl ga ?_; (with_reducible refine (whittleref1_ten.calls kj38 (wrap64 ((wrap64 (t679 - t670)) - 1)) t687 _ A45.out).mono ?_); rintro e w' ⟨rfl, ⟨nd, rfl⟩⟩; refine ⟨_, rfl, ?_⟩) | ((with_reducible refine gate_callee (f := 82) rfl ?_); refine goesL_ (some 115) rfl rfl Tryz.func82 kr rfl #[.bool false, .int .u64 (IntKind.u64.wrap ((IntKind.u64.wrap (t669 * t687)) + t678)), .int .u64 t687] rfl ga ?_; (with_reducible refine (whittleref1_made.calls kj38 false (IntKind.u64.wrap ((IntKind.u64.wrap (t669 * t687)) + t678)) t687 t691 t692 t693 _ A51.out).mono ?_); rintro e w53 ⟨rfl, hb⟩; refine ⟨_, rfl, ?_⟩; replace BX := bx_call hb; clear hb))
                 refine bodyPost_ret (results_ct rfl _ _ gb668 23 #[.int .i64 t691, .int .i64 t692] (0, 0) _ rfl bx_get Tryz.underlying23 rfl kr) rfl ?_
                 exact ⟨er2, bx_bl⟩
           ·rw [if_neg c27] at H
            exact absurd H (by simp)
          ·rw [if_neg c26] at H
           exact absurd H (by simp)
     ·replace c10 := Bool.eq_false_iff.mpr c10
      subst c10
      have H1 : (some (0, 0, false)) = some (r1, r2, r3) := by rw [if_neg (show ¬ (false = true) by decide)] at H; exact H
      clear H
      have H := H1
      clear H1
      simp only [Option.some.injEq, Prod.mk.injEq] at H
      obtain ⟨rfl, rfl, rfl⟩ := H
      go_wp2_with (first | ((with_reducible refine gate_callee (f := 81) rfl ?_); refine goesL_ (some 25) rfl rfl Tryz.func81 kr rfl #[.string a0, .int .i64 x4_6] rfl ga ?_; (with_reducible refine (whittleref1_piece.calls kj6 a0 x4_6 t669 t670 false _ A9.out).mono ?_); rintro e w' ⟨rfl, ⟨nd, rfl⟩⟩; refine ⟨_, rfl, ?_⟩))
      refine bodyPost_ret (results_ct rfl _ _ gb668 23 #[.int .i64 0, .int .i64 0] (0, 0) _ rfl bx_get Tryz.underlying23 rfl kr) rfl ?_
      exact ⟨er2, bx_bl⟩
end
end Go.Proofs.YtmakkdlkgfgaoaaGreatDoor.F
