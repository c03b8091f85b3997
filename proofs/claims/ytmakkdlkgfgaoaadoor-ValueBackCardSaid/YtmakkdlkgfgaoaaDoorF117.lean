-- Laid by program (wip/tools/genv.sh, pack.py, merge.py of this repo) out of the translation; Lean checks it.
import Derived.Test.YtmakkdlkgfgaoaaDoorF0
import Derived.Test.YtmakkdlkgfgaoaaDoorC0
import Derived.Test.YtmakkdlkgfgaoaaDoorF100
import Derived.Test.YtmakkdlkgfgaoaaDoorF103
import Derived.Test.YtmakkdlkgfgaoaaDoorF112
import Derived.Test.YtmakkdlkgfgaoaaDoorG3
import Derived.Test.YtmakkdlkgfgaoaaDoorG1
namespace Go.Proofs.YtmakkdlkgfgaoaaDoor.F
open Go.RowKit Go.Proofs.YtmakkdlkgfgaoaaDoorW.PrintWords Go.Proofs.YtmakkdlkgfgaoaaDoorW.PrintLast Go.Proofs.YtmakkdlkgfgaoaaDoorW.PrintMore
attribute [local go_sem] max2_int min2_int max_two min_two max_three min_three max_four min_four
attribute [local go_sem high] bx_cell bx_frozen
set_option linter.unusedVariables false
set_option linter.unusedSimpArgs false

section
attribute [local go_sem high] eqA25
/-! ### whittlelaw2_ValueBack: function 6 -/
def whittlelaw2_ValueBack.j0 : Nat → ByteArray → Bool → Option (Bool)
 | 0, _, _ => none
 | k + 1, x1, x28 => if x28 = true then (some false) else ((value_Read.f k x1).bind fun bt814 => ((value_Right.f k bt814.1 bt814.2.1 bt814.2.2.1 bt814.2.2.2.1 bt814.2.2.2.2.1 bt814.2.2.2.2.2).bind fun t821 => (if t821 = true then ((value_Show.f k bt814.1 bt814.2.1 bt814.2.2.1 bt814.2.2.2.1 bt814.2.2.2.2.1 bt814.2.2.2.2.2).bind fun t822 => ((value_Read.f k t822).bind fun bt823 => (some (bt823.1 == bt814.1 && ((bt823.2.1 == bt814.2.1 && (bt823.2.2.1 == bt814.2.2.1)) && (bt823.2.2.2.1.toList == bt814.2.2.2.1.toList && (bt823.2.2.2.2.1 == bt814.2.2.2.2.1 && (bt823.2.2.2.2.2 == bt814.2.2.2.2.2)))))))) else (some false))))
def whittlelaw2_ValueBack.f (k : Nat) (a0_0 : Int) (a0_1 : Int) (a0_2 : Int) (a0_3 : ByteArray) (a0_4 : Bool) (a0_5 : Int) (a1 : ByteArray) : Option (Bool) := (whittlelaw2_able.f k).bind fun t798 => (if t798 = true then ((value_Show.f k a0_0 a0_1 a0_2 a0_3 a0_4 a0_5).bind fun t799 => (if (t799.size : Int) > 0 then (if 0 < (t799.size : Int) then (if (bt t799 0) = 61 then (whittlelaw2_ValueBack.j0 k a1 true) else ((value_Right.f k a0_0 a0_1 a0_2 a0_3 a0_4 a0_5).bind fun t800 => (if t800 = true then ((value_Read.f k t799).bind fun bt801 => (whittlelaw2_ValueBack.j0 k a1 (!(bt801.1 == a0_0) || ((!(bt801.2.1 == a0_1) || (!(bt801.2.2.1 == a0_2))) || (!(bt801.2.2.2.1.toList == a0_3.toList) || (!(bt801.2.2.2.2.1 == a0_4) || (!(bt801.2.2.2.2.2 == a0_5)))))))) else (whittlelaw2_ValueBack.j0 k a1 false)))) else (none)) else ((value_Right.f k a0_0 a0_1 a0_2 a0_3 a0_4 a0_5).bind fun t807 => (if t807 = true then ((value_Read.f k t799).bind fun bt808 => (whittlelaw2_ValueBack.j0 k a1 (!(bt808.1 == a0_0) || ((!(bt808.2.1 == a0_1) || (!(bt808.2.2.1 == a0_2))) || (!(bt808.2.2.2.1.toList == a0_3.toList) || (!(bt808.2.2.2.2.1 == a0_4) || (!(bt808.2.2.2.2.2 == a0_5)))))))) else (whittlelaw2_ValueBack.j0 k a1 false))))) else (some false))
theorem whittlelaw2_ValueBack.mono_l : ∀ k, (∀ y0 y1, LeO (whittlelaw2_ValueBack.j0 k y0 y1) (whittlelaw2_ValueBack.j0 (k + 1) y0 y1))
 | 0 => fun _ _ r h => by simp [whittlelaw2_ValueBack.j0] at h
 | k + 1 => by
  have ih0 := whittlelaw2_ValueBack.mono_l k
  ·intro y0 y1
   unfold whittlelaw2_ValueBack.j0
   repeat' first
   | (with_reducible exact ih0 _ _)
   | (with_reducible exact value_Read.mono _ _)
   | (with_reducible exact value_Right.mono _ _ _ _ _ _ _)
   | (with_reducible exact value_Show.mono _ _ _ _ _ _ _)
   | (with_reducible exact whittlelaw2_able.mono _)
   | (with_reducible exact LeO.refl _)
   | (with_reducible exact LeO.none _)
   | (with_reducible refine LeO.ite ?_ ?_)
   | (with_reducible refine LeO.bind ?_ (fun _ => ?_))
   | exact ih0 _ _
   | exact value_Read.mono _ _
   | exact value_Right.mono _ _ _ _ _ _ _
   | exact value_Show.mono _ _ _ _ _ _ _
   | exact whittlelaw2_able.mono _
   | exact LeO.none _
   | refine LeO.ite ?_ ?_
   | refine LeO.bind ?_ (fun _ => ?_)
theorem whittlelaw2_ValueBack.mono : ∀ a0 a1 a2 a3 a4 a5 a6 k, LeO (whittlelaw2_ValueBack.f k a0 a1 a2 a3 a4 a5 a6) (whittlelaw2_ValueBack.f (k + 1) a0 a1 a2 a3 a4 a5 a6) := by
 intro a0 a1 a2 a3 a4 a5 a6 k
 have ih0 := whittlelaw2_ValueBack.mono_l k
 unfold whittlelaw2_ValueBack.f
 repeat' first
   | (with_reducible exact ih0 _ _)
   | (with_reducible exact value_Read.mono _ _)
   | (with_reducible exact value_Right.mono _ _ _ _ _ _ _)
   | (with_reducible exact value_Show.mono _ _ _ _ _ _ _)
   | (with_reducible exact whittlelaw2_able.mono _)
   | (with_reducible exact LeO.refl _)
   | (with_reducible exact LeO.none _)
   | (with_reducible refine LeO.ite ?_ ?_)
   | (with_reducible refine LeO.bind ?_ (fun _ => ?_))
   | exact ih0 _ _
   | exact value_Read.mono _ _
   | exact value_Right.mono _ _ _ _ _ _ _
   | exact value_Show.mono _ _ _ _ _ _ _
   | exact whittlelaw2_able.mono _
   | exact LeO.none _
   | refine LeO.ite ?_ ?_
   | refine LeO.bind ?_ (fun _ => ?_)
def whittlelaw2_ValueBack.T4 : Bool × List (List Nat × List Nat) := (true, [([], []), ([0], [0]), ([1], [1]), ([2], [2]), ([3], [3]), ([4, 3], [3, 4]), ([5, 3], [3, 5]), ([3, 6], [3, 6]), ([7, 3], [7]), ([8], [8]), ([9, 8, 8], [8, 9]), ([10, 10, 8], [8, 10]), ([11], [11]), ([12, 11, 11], [11, 12]), ([11], [11]), ([13, 14, 11], [11, 13, 14]), ([11, 15, 8], [8, 11, 15]), ([8, 16], [8, 16])])
def whittlelaw2_ValueBack.B4 : List Nat := [0, 1, 3, 7, 15, 31, 63, 127, 255, 511, 1023, 2047, 4095, 8191, 4095, 32767, 65535, 131071]
theorem whittlelaw2_ValueBack.tab4 : rtab .any (opsOf Tryd.f6 4) = whittlelaw2_ValueBack.T4 := by kernel_rfl
theorem whittlelaw2_ValueBack.bits4 : waitsOk whittlelaw2_ValueBack.T4.2 whittlelaw2_ValueBack.B4 = true := by kernel_rfl
def whittlelaw2_ValueBack.T7 : Bool × List (List Nat × List Nat) := (true, [([], []), ([0], [0]), ([1, 1], [1]), ([2], [2]), ([3, 2, 2], [2, 3]), ([4, 4, 2], [2, 4]), ([2], [2]), ([5, 6, 2], [2, 5, 6]), ([2, 7], [2, 7]), ([8, 5, 0, 1, 2, 3, 4, 5, 6, 7, 8], [8])])
def whittlelaw2_ValueBack.B7 : List Nat := [0, 1, 3, 7, 15, 31, 7, 127, 255, 511]
theorem whittlelaw2_ValueBack.tab7 : rtab .any (opsOf Tryd.f6 7) = whittlelaw2_ValueBack.T7 := by kernel_rfl
theorem whittlelaw2_ValueBack.bits7 : waitsOk whittlelaw2_ValueBack.T7.2 whittlelaw2_ValueBack.B7 = true := by kernel_rfl
set_option maxHeartbeats 8000000 in
set_option maxRecDepth 100000 in
theorem whittlelaw2_ValueBack.calls (k : Nat) (a0_0 : Int) (a0_1 : Int) (a0_2 : Int) (a0_3 : ByteArray) (a0_4 : Bool) (a0_5 : Int) (a1 : ByteArray) (r : Bool) (w : World) (HT0 : TabAt w) (hr0 : r = true) (h : whittlelaw2_ValueBack.f k a0_0 a0_1 a0_2 a0_3 a0_4 a0_5 a1 = some r) :
  Calls Tryd.prog 6 #[.agg #[.int .i64 a0_0, .int .i64 a0_1, .int .i64 a0_2, .string a0_3, .bool a0_4, .int .i64 a0_5], .string a1] w fun e w' => e = .returned (.bool r) ∧ Below w.heap.size w w' := by
 have hu25 := Tryd.underlying25
 have HT := Aside0.mk HT0
 clear HT0
 have HR := Aside0.mk hr0
 clear hr0
 have BX := Bx.start w
 have H : ((whittlelaw2_able.f k).bind fun t798 => (if t798 = true then ((value_Show.f k a0_0 a0_1 a0_2 a0_3 a0_4 a0_5).bind fun t799 => (if (t799.size : Int) > 0 then (if 0 < (t799.size : Int) then (if (bt t799 0) = 61 then (whittlelaw2_ValueBack.j0 k a1 true) else ((value_Right.f k a0_0 a0_1 a0_2 a0_3 a0_4 a0_5).bind fun t800 => (if t800 = true then ((value_Read.f k t799).bind fun bt801 => (whittlelaw2_ValueBack.j0 k a1 (!(bt801.1 == a0_0) || ((!(bt801.2.1 == a0_1) || (!(bt801.2.2.1 == a0_2))) || (!(bt801.2.2.2.1.toList == a0_3.toList) || (!(bt801.2.2.2.2.1 == a0_4) || (!(bt801.2.2.2.2.2 == a0_5)))))))) else (whittlelaw2_ValueBack.j0 k a1 false)))) else (none)) else ((value_Right.f k a0_0 a0_1 a0_2 a0_3 a0_4 a0_5).bind fun t807 => (if t807 = true then ((value_Read.f k t799).bind fun bt808 => (whittlelaw2_ValueBack.j0 k a1 (!(bt808.1 == a0_0) || ((!(bt808.2.1 == a0_1) || (!(bt808.2.2.1 == a0_2))) || (!(bt808.2.2.2.1.toList == a0_3.toList) || (!(bt808.2.2.2.2.1 == a0_4) || (!(bt808.2.2.2.2.2 == a0_5)))))))) else (whittlelaw2_ValueBack.j0 k a1 false))))) else (some false))) = some r := h
 clear h
 replace H := Option.bind_eq_some_iff.mp H
 obtain ⟨t798, A30, H⟩ := H
 replace H : (if t798 = true then ((value_Show.f k a0_0 a0_1 a0_2 a0_3 a0_4 a0_5).bind fun t799 => (if (t799.size : Int) > 0 then (if 0 < (t799.size : Int) then (if (bt t799 0) = 61 then (whittlelaw2_ValueBack.j0 k a1 true) else ((value_Right.f k a0_0 a0_1 a0_2 a0_3 a0_4 a0_5).bind fun t800 => (if t800 = true then ((value_Read.f k t799).bind fun bt801 => (whittlelaw2_ValueBack.j0 k a1 (!(bt801.1 == a0_0) || ((!(bt801.2.1 == a0_1) || (!(bt801.2.2.1 == a0_2))) || (!(bt801.2.2.2.1.toList == a0_3.toList) || (!(bt801.2.2.2.2.1 == a0_4) || (!(bt801.2.2.2.2.2 == a0_5)))))))) else (whittlelaw2_ValueBack.j0 k a1 false)))) else (none)) else ((value_Right.f k a0_0 a0_1 a0_2 a0_3 a0_4 a0_5).bind fun t807 => (if t807 = true then ((value_Read.f k t799).bind fun bt808 => (whittlelaw2_ValueBack.j0 k a1 (!(bt808.1 == a0_0) || ((!(bt808.2.1 == a0_1) || (!(bt808.2.2.1 == a0_2))) || (!(bt808.2.2.2.1.toList == a0_3.toList) || (!(bt808.2.2.2.2.1 == a0_4) || (!(bt808.2.2.2.2.2 == a0_5)))))))) else (whittlelaw2_ValueBack.j0 k a1 false))))) else (some false)) = some r := H
 have A3 := Aside0.mk A30
 clear A30
 by_cases c4 : t798 = true
 ·subst c4
  have H1 : ((value_Show.f k a0_0 a0_1 a0_2 a0_3 a0_4 a0_5).bind fun t799 => (if (t799.size : Int) > 0 then (if 0 < (t799.size : Int) then (if (bt t799 0) = 61 then (whittlelaw2_ValueBack.j0 k a1 true) else ((value_Right.f k a0_0 a0_1 a0_2 a0_3 a0_4 a0_5).bind fun t800 => (if t800 = true then ((value_Read.f k t799).bind fun bt801 => (whittlelaw2_ValueBack.j0 k a1 (!(bt801.1 == a0_0) || ((!(bt801.2.1 == a0_1) || (!(bt801.2.2.1 == a0_2))) || (!(bt801.2.2.2.1.toList == a0_3.toList) || (!(bt801.2.2.2.2.1 == a0_4) || (!(bt801.2.2.2.2.2 == a0_5)))))))) else (whittlelaw2_ValueBack.j0 k a1 false)))) else (none)) else ((value_Right.f k a0_0 a0_1 a0_2 a0_3 a0_4 a0_5).bind fun t807 => (if t807 = true then ((value_Read.f k t799).bind fun bt808 => (whittlelaw2_ValueBack.j0 k a1 (!(bt808.1 == a0_0) || ((!(bt808.2.1 == a0_1) || (!(bt808.2.2.1 == a0_2))) || (!(bt808.2.2.2.1.toList == a0_3.toList) || (!(bt808.2.2.2.2.1 == a0_4) || (!(bt808.2.2.2.2.2 == a0_5)))))))) else (whittlelaw2_ValueBack.j0 k a1 false))))) = some r := by rw [if_pos rfl] at H; exact H
  clear H
  have H := H1
  clear H1
  replace H := Option.bind_eq_some_iff.mp H
  obtain ⟨t799, A50, H⟩ := H
  replace H : (if (t799.size : Int) > 0 then (if 0 < (t799.size : Int) then (if (bt t799 0) = 61 then (whittlelaw2_ValueBack.j0 k a1 true) else ((value_Right.f k a0_0 a0_1 a0_2 a0_3 a0_4 a0_5).bind fun t800 => (if t800 = true then ((value_Read.f k t799).bind fun bt801 => (whittlelaw2_ValueBack.j0 k a1 (!(bt801.1 == a0_0) || ((!(bt801.2.1 == a0_1) || (!(bt801.2.2.1 == a0_2))) || (!(bt801.2.2.2.1.toList == a0_3.toList) || (!(bt801.2.2.2.2.1 == a0_4) || (!(bt801.2.2.2.2.2 == a0_5)))))))) else (whittlelaw2_ValueBack.j0 k a1 false)))) else (none)) else ((value_Right.f k a0_0 a0_1 a0_2 a0_3 a0_4 a0_5).bind fun t807 => (if t807 = true then ((value_Read.f k t799).bind fun bt808 => (whittlelaw2_ValueBack.j0 k a1 (!(bt808.1 == a0_0) || ((!(bt808.2.1 == a0_1) || (!(bt808.2.2.1 == a0_2))) || (!(bt808.2.2.2.1.toList == a0_3.toList) || (!(bt808.2.2.2.2.1 == a0_4) || (!(bt808.2.2.2.2.2 == a0_5)))))))) else (whittlelaw2_ValueBack.j0 k a1 false)))) = some r := H
  have A5 := Aside0.mk A50
  clear A50
  have HC6 := Aside0.mk H
  clear H
  go_enter Tryd.func6, Tryd.ntmps6
  go_upto_region 4 with (first | ((with_reducible refine gate_dst (N := 2) rfl ?_); refine bxe 2 #[.int .i64 a0_0, .int .i64 a0_1, .int .i64 a0_2, .string a0_3, .bool a0_4, .int .i64 a0_5] 25 rfl rfl gr ?_; clear BX; intro gb797 w7 GE797 BX) | ((with_reducible refine gate_callee (f := 15) rfl ?_); refine goesL_ (some 7) rfl rfl Tryd.func15 kr rfl #[] rfl ga ?_; (with_reducible refine (whittlelaw2_able.calls k  true _ ?side1 A3.out).mono ?_); (case side1 => exact HT.out.on bx_bl); rintro e w8 ⟨rfl, hb⟩; refine ⟨_, rfl, ?_⟩; replace BX := bx_call hb; clear hb) | ((with_reducible refine gate_callee (f := 29) rfl ?_); refine goesL_ (some 10) rfl rfl Tryd.func29 kr rfl #[.agg #[.int .i64 a0_0, .int .i64 a0_1, .int .i64 a0_2, .string a0_3, .bool a0_4, .int .i64 a0_5]] rfl ga ?_; (with_reducible refine (value_Show.calls k a0_0 a0_1 a0_2 a0_3 a0_4 a0_5 t799 _ ?side1 A5.out).mono ?_); (case side1 => exact HT.out.on bx_bl); rintro e w10 ⟨rfl, hb⟩; refine ⟨_, rfl, ?_⟩; replace BX := bx_call hb; clear hb))
  (try simp only [Act.put, List.setIfInBounds_toArray, List.set_cons_zero, List.set_cons_succ])
  go_cut [28] (fun v28 wc => ∃ (kq : Nat) (x28_5 : Bool), v28 = .bool x28_5 ∧ Aside0 (whittlelaw2_ValueBack.j0 kq a1 x28_5 = some r) ∧ Aside0 (kq ≤ k) ∧ Bx w wc [(gb797, 25, #[.int .i64 a0_0, .int .i64 a0_1, .int .i64 a0_2, .string a0_3, .bool a0_4, .int .i64 a0_5])])
  case first =>
   have H := HC6.out
   clear HC6
   by_cases c11 : (t799.size : Int) > 0
   ·rw [if_pos c11] at H
    have c11b0 : decide (0 < (t799.size : Int)) = true := decide_eq_true c11
    have c11b1 : decide (0 < t799.size) = true := decide_eq_true (by omega)
    clear c11
    (first | rw [c11b0] | (simp only [i64_w, i32_w]; rw [c11b0]) | skip)
    by_cases c12 : 0 < (t799.size : Int)
    ·rw [if_pos c12] at H
     have c12b0 : decide (0 < (t799.size : Int)) = true := decide_eq_true c12
     have c12b1 : decide (0 < t799.size) = true := decide_eq_true (by omega)
     clear c12
     by_cases c14 : (bt t799 0) = 61
     ·rw [if_pos c14] at H
      have c14b0 : ((bt t799 0) == 61) = true := beq_iff_eq.mpr c14
      have c14b1 : ((bt t799 0) != 61) = false := bne_eq_false_iff_eq.mpr c14
      clear c14
      exact (no_meet (g := fun k_ => whittlelaw2_ValueBack.j0 k_ a1 true) HR.out H (by simp only [whittlelaw2_ValueBack.j0]) (fun k_ => by simp only [whittlelaw2_ValueBack.j0]; first | exact if_pos rfl | rfl | simp)).elim
     ·rw [if_neg c14] at H
      have c14b0 : ((bt t799 0) == 61) = false := beq_eq_false_iff_ne.mpr c14
      have c14b1 : ((bt t799 0) != 61) = true := bne_iff_ne.mpr c14
      replace H := Option.bind_eq_some_iff.mp H
      obtain ⟨t800, A150, H⟩ := H
      replace H : (if t800 = true then ((value_Read.f k t799).bind fun bt801 => (whittlelaw2_ValueBack.j0 k a1 (!(bt801.1 == a0_0) || ((!(bt801.2.1 == a0_1) || (!(bt801.2.2.1 == a0_2))) || (!(bt801.2.2.2.1.toList == a0_3.toList) || (!(bt801.2.2.2.2.1 == a0_4) || (!(bt801.2.2.2.2.2 == a0_5)))))))) else (whittlelaw2_ValueBack.j0 k a1 false)) = some r := H
      have A15 := Aside0.mk A150
      clear A150
      by_cases c16 : t800 = true
      ·subst c16
       have H1 : ((value_Read.f k t799).bind fun bt801 => (whittlelaw2_ValueBack.j0 k a1 (!(bt801.1 == a0_0) || ((!(bt801.2.1 == a0_1) || (!(bt801.2.2.1 == a0_2))) || (!(bt801.2.2.2.1.toList == a0_3.toList) || (!(bt801.2.2.2.2.1 == a0_4) || (!(bt801.2.2.2.2.2 == a0_5)))))))) = some r := by rw [if_pos rfl] at H; exact H
       clear H
       have H := H1
       clear H1
       replace H := Option.bind_eq_some_iff.mp H
       obtain ⟨⟨t801, t802, t803, t804, t805, t806⟩, A170, H⟩ := H
       replace H : (whittlelaw2_ValueBack.j0 k a1 (!(t801 == a0_0) || ((!(t802 == a0_1) || (!(t803 == a0_2))) || (!(t804.toList == a0_3.toList) || (!(t805 == a0_4) || (!(t806 == a0_5))))))) = some r := H
       have A17 := Aside0.mk A170
       clear A170
       have H' := Aside0.mk H
       clear H
       try go_wp2
       have p13 : 0 ≤ (0 : Int) := (by omega)
       have q13 : 0 < t799.size := (by have : (0 : Int) < (t799.size : Int) := of_decide_eq_true (by first | (with_reducible assumption) | assumption); omega)
       have hx13 : ∀ h : 0 < t799.size, ((t799[0]'h).toNat : Int) = bt t799 0 := bt_at t799 0
       clear p13
       have qi13 : (0 < (t799.size : Int)) = True := eq_true (of_decide_eq_true (by first | (with_reducible assumption) | assumption))
       replace q13 := eq_true q13
       refine startm [true] (n := 18) (ds := []) #[false, false, false, false, false, false, false, false, false, false, false, false, false, false, false, false, false, false] kr rfl rfl (fun BX1 => ?_); refine with_tabW whittlelaw2_ValueBack.tab4 whittlelaw2_ValueBack.bits4 (fun HT_ HW_ => ?_)
       clear BX
       have BX := BX1
       clear BX1
       generalize w10.drew = w18 at BX ⊢
       refine pure_ (i := 0) (N := some 11) (v := ?_) (a' := ?_) #[true, false, false, false, false, false, false, false, false, false, false, false, false, false, false, false, false, false] rfl rfl (any_of HT_.out kr) (fun _ _ _ h => h) (Or.inl ⟨by rfl, ?_⟩) ?_ ?_
       rotate_left
       ·intro w'
        go_simp
        with_reducible rfl
       rotate_left
       ·simp only [Act.put, List.setIfInBounds_toArray, List.set_cons_zero, List.set_cons_succ, i64_w, i32_w]
        rfl
       refine pure_ (i := 1) (N := some 12) (v := ?_) (a' := ?_) #[true, true, false, false, false, false, false, false, false, false, false, false, false, false, false, false, false, false] rfl rfl (any_of HT_.out kr) (fun _ _ _ h => h) (Or.inl ⟨by rfl, ?_⟩) ?_ ?_
       rotate_left
       ·intro w'
        go_simp
        with_reducible rfl
       rotate_left
       ·simp only [Act.put, List.setIfInBounds_toArray, List.set_cons_zero, List.set_cons_succ, i64_w, i32_w]
        rfl
       refine pure_ (i := 2) (N := some 13) (v := ?_) (a' := ?_) #[true, true, true, false, false, false, false, false, false, false, false, false, false, false, false, false, false, false] rfl rfl (any_of HT_.out kr) (fun _ _ _ h => h) (Or.inl ⟨by rfl, ?_⟩) ?_ ?_
       rotate_left
       ·intro w'
        go_simp
        with_reducible rfl
       rotate_left
       ·simp only [Act.put, List.setIfInBounds_toArray, List.set_cons_zero, List.set_cons_succ, i64_w, i32_w]
        rfl
       refine pure_ (i := 3) (N := some 14) (v := ?_) (a' := ?_) #[true, true, true, true, false, false, false, false, false, false, false, false, false, false, false, false, false, false] rfl rfl (any_of HT_.out kr) (fun _ _ _ h => h) (Or.inl ⟨by rfl, ?_⟩) ?_ ?_
       rotate_left
       ·intro w'
        go_simp
        with_reducible rfl
       rotate_left
       ·simp only [Act.put, List.setIfInBounds_toArray, List.set_cons_zero, List.set_cons_succ, i64_w, i32_w]
        rfl
       refine pure_ (i := 4) (N := some 15) (v := ?_) (a' := ?_) #[true, true, true, true, true, false, false, false, false, false, false, false, false, false, false, false, false, false] rfl rfl (any_of HT_.out kr) (fun _ _ _ h => h) (Or.inl ⟨by rfl, ?_⟩) ?_ ?_
       rotate_left
       ·intro w'
        go_simp
        with_reducible rfl
       rotate_left
       ·simp only [Act.put, List.setIfInBounds_toArray, List.set_cons_zero, List.set_cons_succ, i64_w, i32_w]
        rfl
       refine take_ (i := 5) (N := some 16) (v := ?_) (a' := ?_) #[true, true, true, true, true, true, false, false, false, false, false, false, false, false, false, false, false, false] rfl rfl (take_ofW HT_.out HW_.out kr) (fun _ _ _ h => h) (Or.inl ⟨by rfl, ?_⟩) bxs ?_ ?_
       rotate_left
       ·intro w' hS
        go_simp
        with_reducible rfl
       rotate_left
       ·simp only [Act.put, List.setIfInBounds_toArray, List.set_cons_zero, List.set_cons_succ, i64_w, i32_w]
        rfl
       refine pure_ (i := 6) (N := some 17) (v := ?_) (a' := ?_) #[true, true, true, true, true, true, true, false, false, false, false, false, false, false, false, false, false, false] rfl rfl (any_of HT_.out kr) (fun _ _ _ h => h) (Or.inl ⟨by rfl, ?_⟩) ?_ ?_
       rotate_left
       ·intro w'
        go_simp
        with_reducible rfl
       rotate_left
       ·simp only [Act.put, List.setIfInBounds_toArray, List.set_cons_zero, List.set_cons_succ, i64_w, i32_w]
        rfl
       refine pure_ (i := 7) (N := some 18) (v := ?_) (a' := ?_) #[true, true, true, true, true, true, true, true, false, false, false, false, false, false, false, false, false, false] rfl rfl (any_of HT_.out kr) (fun _ _ _ h => h) (Or.inl ⟨by rfl, ?_⟩) ?_ ?_
       rotate_left
       ·intro w'
        go_simp
        with_reducible rfl
       rotate_left
       ·simp only [Act.put, List.setIfInBounds_toArray, List.set_cons_zero, List.set_cons_succ, i64_w, i32_w]
        rfl
       refine pure_ (i := 8) (N := some 19) (v := ?_) (a' := ?_) #[true, true, true, true, true, true, true, true, true, false, false, false, false, false, false, false, false, false] rfl rfl (any_of HT_.out kr) (fun _ _ _ h => h) (Or.inl ⟨by rfl, ?_⟩) ?_ ?_
       rotate_left
       ·intro w'
        go_simp
        with_reducible rfl
       rotate_left
       ·simp only [Act.put, List.setIfInBounds_toArray, List.set_cons_zero, List.set_cons_succ, i64_w, i32_w]
        rfl
       refine take_ (i := 9) (N := some 20) (v := ?_) (a' := ?_) #[true, true, true, true, true, true, true, true, true, true, false, false, false, false, false, false, false, false] rfl rfl (take_ofW HT_.out HW_.out kr) (fun _ _ _ h => h) (Or.inl ⟨by rfl, ?_⟩) bxs ?_ ?_
       rotate_left
       ·intro w' hS
        go_simp
        with_reducible rfl
       rotate_left
       ·simp only [Act.put, List.setIfInBounds_toArray, List.set_cons_zero, List.set_cons_succ, i64_w, i32_w]
        rfl
       refine one_ (i := 10) (N := some 21) #[true, true, true, true, true, true, true, true, true, true, true, false, false, false, false, false, false, false] rfl rfl (one_of HT_.out kr) (by decide) (fun K hK => ?_)
       refine goes_ Tryd.func16 kr rfl #[.agg #[.int .i64 a0_0, .int .i64 a0_1, .int .i64 a0_2, .string a0_3, .bool a0_4, .int .i64 a0_5]] (by rfl) rfl rfl ga ?_
       with_reducible refine (value_Right.calls k a0_0 a0_1 a0_2 a0_3 a0_4 a0_5 true _ A15.out).mono ?_
       rintro e w19 ⟨rfl, hb⟩
       refine ⟨_, rfl, ?_⟩
       replace BX := bx_call hb
       clear hb
       refine hK.out _ _ bxs (fun hHeld => ?_)
       clear hK K hHeld
       refine norm_ (a' := ?_) ?_ ?_
       rotate_left
       ·show Act.put _ (some 21) _ = _
        simp only [Act.put, List.setIfInBounds_toArray, List.set_cons_zero, List.set_cons_succ, i64_w, i32_w]
        rfl
       refine pure_ (i := 11) (N := some 22) (v := ?_) (a' := ?_) #[true, true, true, true, true, true, true, true, true, true, true, true, false, false, false, false, false, false] rfl rfl (any_of HT_.out kr) (fun _ _ _ h => h) (Or.inl ⟨by rfl, ?_⟩) ?_ ?_
       rotate_left
       ·intro w'
        go_simp
        with_reducible rfl
       rotate_left
       ·simp only [Act.put, List.setIfInBounds_toArray, List.set_cons_zero, List.set_cons_succ, i64_w, i32_w]
        rfl
       refine pure_ (i := 12) (N := some 23) (v := ?_) (a' := ?_) #[true, true, true, true, true, true, true, true, true, true, true, true, true, false, false, false, false, false] rfl rfl (any_of HT_.out kr) (fun _ _ _ h => h) (Or.inl ⟨by rfl, ?_⟩) ?_ ?_
       rotate_left
       ·intro w'
        go_simp
        with_reducible rfl
       rotate_left
       ·simp only [Act.put, List.setIfInBounds_toArray, List.set_cons_zero, List.set_cons_succ, i64_w, i32_w]
        rfl
       refine take_ (i := 14) (N := some 25) (v := ?_) (a' := ?_) #[true, true, true, true, true, true, true, true, true, true, true, true, true, false, true, false, false, false] rfl rfl (take_ofW HT_.out HW_.out kr) (fun _ _ _ h => h) (Or.inl ⟨by rfl, ?_⟩) bxs ?_ ?_
       rotate_left
       ·intro w' hS
        go_simp
        with_reducible rfl
       rotate_left
       ·simp only [Act.put, List.setIfInBounds_toArray, List.set_cons_zero, List.set_cons_succ, i64_w, i32_w]
        rfl
       refine one_ (i := 13) (N := some 24) #[true, true, true, true, true, true, true, true, true, true, true, true, true, true, true, false, false, false] rfl rfl (one_of HT_.out kr) (by decide) (fun K hK => ?_)
       refine goes_ Tryd.func27 kr rfl #[.string t799] (by rfl) rfl rfl ga ?_
       with_reducible refine (value_Read.calls k t799 t801 t802 t803 t804 t805 t806 _ ?side1 A17.out).mono ?_
       (case side1 => exact HT.out.on bx_bl)
       rintro e w20 ⟨rfl, hb⟩
       refine ⟨_, rfl, ?_⟩
       replace BX := bx_call hb
       clear hb
       refine hK.out _ _ bxs (fun hHeld => ?_)
       clear hK K hHeld
       refine norm_ (a' := ?_) ?_ ?_
       rotate_left
       ·show Act.put _ (some 24) _ = _
        simp only [Act.put, List.setIfInBounds_toArray, List.set_cons_zero, List.set_cons_succ, i64_w, i32_w]
        rfl
       refine pure_ (i := 15) (N := some 26) (v := ?_) (a' := ?_) #[true, true, true, true, true, true, true, true, true, true, true, true, true, true, true, true, false, false] rfl rfl (any_of HT_.out kr) (fun _ _ _ h => h) (Or.inl ⟨by rfl, ?_⟩) ?_ ?_
       rotate_left
       ·intro w'
        go_simp
        with_reducible rfl
       rotate_left
       ·simp only [Act.put, List.setIfInBounds_toArray, List.set_cons_zero, List.set_cons_succ, i64_w, i32_w]
        rfl
       refine pure_ (i := 16) (N := some 27) (v := ?_) (a' := ?_) #[true, true, true, true, true, true, true, true, true, true, true, true, true, true, true, true, true, false] rfl rfl (any_of HT_.out kr) (fun _ _ _ h => h) (Or.inl ⟨by rfl, ?_⟩) ?_ ?_
       rotate_left
       ·intro w'
        go_simp
        with_reducible rfl
       rotate_left
       ·simp only [Act.put, List.setIfInBounds_toArray, List.set_cons_zero, List.set_cons_succ, i64_w, i32_w]
        rfl
       refine pure_ (i := 17) (N := some 28) (v := ?_) (a' := ?_) #[true, true, true, true, true, true, true, true, true, true, true, true, true, true, true, true, true, true] rfl rfl (any_of HT_.out kr) (fun _ _ _ h => h) (Or.inl ⟨by rfl, ?_⟩) ?_ ?_
       rotate_left
       ·intro w'
        go_simp
        with_reducible rfl
       rotate_left
       ·simp only [Act.put, List.setIfInBounds_toArray, List.set_cons_zero, List.set_cons_succ, i64_w, i32_w]
        rfl
       refine done_ (done_of HT_.out kr) ?_
       try go_wp2
       go_meet
       case rel => exact ⟨_, ((!(t801 == a0_0) || ((!(t802 == a0_1) || (!(t803 == a0_2))) || (!(t804.toList == a0_3.toList) || (!(t805 == a0_4) || (!(t806 == a0_5))))))), er, H', ⟨by first | omega | exact Nat.le_refl _⟩, bxs⟩
      ·replace c16 := Bool.eq_false_iff.mpr c16
       subst c16
       have H1 : (whittlelaw2_ValueBack.j0 k a1 false) = some r := by rw [if_neg (show ¬ (false = true) by decide)] at H; exact H
       clear H
       have H := H1
       clear H1
       have H' := Aside0.mk H
       clear H
       try go_wp2
       have p13 : 0 ≤ (0 : Int) := (by omega)
       have q13 : 0 < t799.size := (by have : (0 : Int) < (t799.size : Int) := of_decide_eq_true (by first | (with_reducible assumption) | assumption); omega)
       have hx13 : ∀ h : 0 < t799.size, ((t799[0]'h).toNat : Int) = bt t799 0 := bt_at t799 0
       clear p13
       have qi13 : (0 < (t799.size : Int)) = True := eq_true (of_decide_eq_true (by first | (with_reducible assumption) | assumption))
       replace q13 := eq_true q13
       refine startm [true] (n := 18) (ds := []) #[false, false, false, false, false, false, false, false, false, false, false, false, false, false, false, false, false, false] kr rfl rfl (fun BX1 => ?_); refine with_tabW whittlelaw2_ValueBack.tab4 whittlelaw2_ValueBack.bits4 (fun HT_ HW_ => ?_)
       clear BX
       have BX := BX1
       clear BX1
       generalize w10.drew = w21 at BX ⊢
       refine pure_ (i := 0) (N := some 11) (v := ?_) (a' := ?_) #[true, false, false, false, false, false, false, false, false, false, false, false, false, false, false, false, false, false] rfl rfl (any_of HT_.out kr) (fun _ _ _ h => h) (Or.inl ⟨by rfl, ?_⟩) ?_ ?_
       rotate_left
       ·intro w'
        go_simp
        with_reducible rfl
       rotate_left
       ·simp only [Act.put, List.setIfInBounds_toArray, List.set_cons_zero, List.set_cons_succ, i64_w, i32_w]
        rfl
       refine pure_ (i := 1) (N := some 12) (v := ?_) (a' := ?_) #[true, true, false, false, false, false, false, false, false, false, false, false, false, false, false, false, false, false] rfl rfl (any_of HT_.out kr) (fun _ _ _ h => h) (Or.inl ⟨by rfl, ?_⟩) ?_ ?_
       rotate_left
       ·intro w'
        go_simp
        with_reducible rfl
       rotate_left
       ·simp only [Act.put, List.setIfInBounds_toArray, List.set_cons_zero, List.set_cons_succ, i64_w, i32_w]
        rfl
       refine pure_ (i := 2) (N := some 13) (v := ?_) (a' := ?_) #[true, true, true, false, false, false, false, false, false, false, false, false, false, false, false, false, false, false] rfl rfl (any_of HT_.out kr) (fun _ _ _ h => h) (Or.inl ⟨by rfl, ?_⟩) ?_ ?_
       rotate_left
       ·intro w'
        go_simp
        with_reducible rfl
       rotate_left
       ·simp only [Act.put, List.setIfInBounds_toArray, List.set_cons_zero, List.set_cons_succ, i64_w, i32_w]
        rfl
       refine pure_ (i := 3) (N := some 14) (v := ?_) (a' := ?_) #[true, true, true, true, false, false, false, false, false, false, false, false, false, false, false, false, false, false] rfl rfl (any_of HT_.out kr) (fun _ _ _ h => h) (Or.inl ⟨by rfl, ?_⟩) ?_ ?_
       rotate_left
       ·intro w'
        go_simp
        with_reducible rfl
       rotate_left
       ·simp only [Act.put, List.setIfInBounds_toArray, List.set_cons_zero, List.set_cons_succ, i64_w, i32_w]
        rfl
       refine pure_ (i := 4) (N := some 15) (v := ?_) (a' := ?_) #[true, true, true, true, true, false, false, false, false, false, false, false, false, false, false, false, false, false] rfl rfl (any_of HT_.out kr) (fun _ _ _ h => h) (Or.inl ⟨by rfl, ?_⟩) ?_ ?_
       rotate_left
       ·intro w'
        go_simp
        with_reducible rfl
       rotate_left
       ·simp only [Act.put, List.setIfInBounds_toArray, List.set_cons_zero, List.set_cons_succ, i64_w, i32_w]
        rfl
       refine take_ (i := 5) (N := some 16) (v := ?_) (a' := ?_) #[true, true, true, true, true, true, false, false, false, false, false, false, false, false, false, false, false, false] rfl rfl (take_ofW HT_.out HW_.out kr) (fun _ _ _ h => h) (Or.inl ⟨by rfl, ?_⟩) bxs ?_ ?_
       rotate_left
       ·intro w' hS
        go_simp
        with_reducible rfl
       rotate_left
       ·simp only [Act.put, List.setIfInBounds_toArray, List.set_cons_zero, List.set_cons_succ, i64_w, i32_w]
        rfl
       refine pure_ (i := 6) (N := some 17) (v := ?_) (a' := ?_) #[true, true, true, true, true, true, true, false, false, false, false, false, false, false, false, false, false, false] rfl rfl (any_of HT_.out kr) (fun _ _ _ h => h) (Or.inl ⟨by rfl, ?_⟩) ?_ ?_
       rotate_left
       ·intro w'
        go_simp
        with_reducible rfl
       rotate_left
       ·simp only [Act.put, List.setIfInBounds_toArray, List.set_cons_zero, List.set_cons_succ, i64_w, i32_w]
        rfl
       refine pure_ (i := 7) (N := some 18) (v := ?_) (a' := ?_) #[true, true, true, true, true, true, true, true, false, false, false, false, false, false, false, false, false, false] rfl rfl (any_of HT_.out kr) (fun _ _ _ h => h) (Or.inl ⟨by rfl, ?_⟩) ?_ ?_
       rotate_left
       ·intro w'
        go_simp
        with_reducible rfl
       rotate_left
       ·simp only [Act.put, List.setIfInBounds_toArray, List.set_cons_zero, List.set_cons_succ, i64_w, i32_w]
        rfl
       refine pure_ (i := 8) (N := some 19) (v := ?_) (a' := ?_) #[true, true, true, true, true, true, true, true, true, false, false, false, false, false, false, false, false, false] rfl rfl (any_of HT_.out kr) (fun _ _ _ h => h) (Or.inl ⟨by rfl, ?_⟩) ?_ ?_
       rotate_left
       ·intro w'
        go_simp
        with_reducible rfl
       rotate_left
       ·simp only [Act.put, List.setIfInBounds_toArray, List.set_cons_zero, List.set_cons_succ, i64_w, i32_w]
        rfl
       refine take_ (i := 9) (N := some 20) (v := ?_) (a' := ?_) #[true, true, true, true, true, true, true, true, true, true, false, false, false, false, false, false, false, false] rfl rfl (take_ofW HT_.out HW_.out kr) (fun _ _ _ h => h) (Or.inl ⟨by rfl, ?_⟩) bxs ?_ ?_
       rotate_left
       ·intro w' hS
        go_simp
        with_reducible rfl
       rotate_left
       ·simp only [Act.put, List.setIfInBounds_toArray, List.set_cons_zero, List.set_cons_succ, i64_w, i32_w]
        rfl
       refine one_ (i := 10) (N := some 21) #[true, true, true, true, true, true, true, true, true, true, true, false, false, false, false, false, false, false] rfl rfl (one_of HT_.out kr) (by decide) (fun K hK => ?_)
       refine goes_ Tryd.func16 kr rfl #[.agg #[.int .i64 a0_0, .int .i64 a0_1, .int .i64 a0_2, .string a0_3, .bool a0_4, .int .i64 a0_5]] (by rfl) rfl rfl ga ?_
       with_reducible refine (value_Right.calls k a0_0 a0_1 a0_2 a0_3 a0_4 a0_5 false _ A15.out).mono ?_
       rintro e w22 ⟨rfl, hb⟩
       refine ⟨_, rfl, ?_⟩
       replace BX := bx_call hb
       clear hb
       refine hK.out _ _ bxs (fun hHeld => ?_)
       clear hK K hHeld
       refine norm_ (a' := ?_) ?_ ?_
       rotate_left
       ·show Act.put _ (some 21) _ = _
        simp only [Act.put, List.setIfInBounds_toArray, List.set_cons_zero, List.set_cons_succ, i64_w, i32_w]
        rfl
       refine pure_ (i := 11) (N := some 22) (v := ?_) (a' := ?_) #[true, true, true, true, true, true, true, true, true, true, true, true, false, false, false, false, false, false] rfl rfl (any_of HT_.out kr) (fun _ _ _ h => h) (Or.inl ⟨by rfl, ?_⟩) ?_ ?_
       rotate_left
       ·intro w'
        go_simp
        with_reducible rfl
       rotate_left
       ·simp only [Act.put, List.setIfInBounds_toArray, List.set_cons_zero, List.set_cons_succ, i64_w, i32_w]
        rfl
       refine pure_ (i := 12) (N := some 23) (v := undef) (a' := ?_) #[true, true, true, true, true, true, true, true, true, true, true, true, true, false, false, false, false, false] rfl rfl (any_of HT_.out kr) (fun _ _ _ h => h) (Or.inr ⟨by rfl, rfl⟩) ?_ ?_
       rotate_left
       ·simp only [Act.put, List.setIfInBounds_toArray, List.set_cons_zero, List.set_cons_succ, i64_w, i32_w]
        rfl
       refine pure_ (i := 13) (N := some 24) (v := undef) (a' := ?_) #[true, true, true, true, true, true, true, true, true, true, true, true, true, true, false, false, false, false] rfl rfl (any_of HT_.out kr) (fun _ _ _ h => h) (Or.inr ⟨by rfl, rfl⟩) ?_ ?_
       rotate_left
       ·simp only [Act.put, List.setIfInBounds_toArray, List.set_cons_zero, List.set_cons_succ, i64_w, i32_w]
        rfl
       refine pure_ (i := 14) (N := some 25) (v := undef) (a' := ?_) #[true, true, true, true, true, true, true, true, true, true, true, true, true, true, true, false, false, false] rfl rfl (any_of HT_.out kr) (fun _ _ _ h => h) (Or.inr ⟨by rfl, rfl⟩) ?_ ?_
       rotate_left
       ·simp only [Act.put, List.setIfInBounds_toArray, List.set_cons_zero, List.set_cons_succ, i64_w, i32_w]
        rfl
       refine pure_ (i := 15) (N := some 26) (v := undef) (a' := ?_) #[true, true, true, true, true, true, true, true, true, true, true, true, true, true, true, true, false, false] rfl rfl (any_of HT_.out kr) (fun _ _ _ h => h) (Or.inr ⟨by rfl, rfl⟩) ?_ ?_
       rotate_left
       ·simp only [Act.put, List.setIfInBounds_toArray, List.set_cons_zero, List.set_cons_succ, i64_w, i32_w]
        rfl
       refine pure_ (i := 16) (N := some 27) (v := ?_) (a' := ?_) #[true, true, true, true, true, true, true, true, true, true, true, true, true, true, true, true, true, false] rfl rfl (any_of HT_.out kr) (fun _ _ _ h => h) (Or.inl ⟨by rfl, ?_⟩) ?_ ?_
       rotate_left
       ·intro w'
        go_simp
        with_reducible rfl
       rotate_left
       ·simp only [Act.put, List.setIfInBounds_toArray, List.set_cons_zero, List.set_cons_succ, i64_w, i32_w]
        rfl
       refine pure_ (i := 17) (N := some 28) (v := ?_) (a' := ?_) #[true, true, true, true, true, true, true, true, true, true, true, true, true, true, true, true, true, true] rfl rfl (any_of HT_.out kr) (fun _ _ _ h => h) (Or.inl ⟨by rfl, ?_⟩) ?_ ?_
       rotate_left
       ·intro w'
        go_simp
        with_reducible rfl
       rotate_left
       ·simp only [Act.put, List.setIfInBounds_toArray, List.set_cons_zero, List.set_cons_succ, i64_w, i32_w]
        rfl
       refine done_ (done_of HT_.out kr) ?_
       try go_wp2
       go_meet
       case rel => exact ⟨_, (false), er, H', ⟨by first | omega | exact Nat.le_refl _⟩, bxs⟩
    ·rw [if_neg c12] at H
     exact absurd H (by simp)
   ·rw [if_neg c11] at H
    have c11b0 : decide (0 < (t799.size : Int)) = false := decide_eq_false c11
    have c11b1 : decide (0 < t799.size) = false := decide_eq_false (by omega)
    clear c11
    (first | rw [c11b0] | (simp only [i64_w, i32_w]; rw [c11b0]) | skip)
    replace H := Option.bind_eq_some_iff.mp H
    obtain ⟨t807, A230, H⟩ := H
    replace H : (if t807 = true then ((value_Read.f k t799).bind fun bt808 => (whittlelaw2_ValueBack.j0 k a1 (!(bt808.1 == a0_0) || ((!(bt808.2.1 == a0_1) || (!(bt808.2.2.1 == a0_2))) || (!(bt808.2.2.2.1.toList == a0_3.toList) || (!(bt808.2.2.2.2.1 == a0_4) || (!(bt808.2.2.2.2.2 == a0_5)))))))) else (whittlelaw2_ValueBack.j0 k a1 false)) = some r := H
    have A23 := Aside0.mk A230
    clear A230
    by_cases c24 : t807 = true
    ·subst c24
     have H1 : ((value_Read.f k t799).bind fun bt808 => (whittlelaw2_ValueBack.j0 k a1 (!(bt808.1 == a0_0) || ((!(bt808.2.1 == a0_1) || (!(bt808.2.2.1 == a0_2))) || (!(bt808.2.2.2.1.toList == a0_3.toList) || (!(bt808.2.2.2.2.1 == a0_4) || (!(bt808.2.2.2.2.2 == a0_5)))))))) = some r := by rw [if_pos rfl] at H; exact H
     clear H
     have H := H1
     clear H1
     replace H := Option.bind_eq_some_iff.mp H
     obtain ⟨⟨t808, t809, t810, t811, t812, t813⟩, A250, H⟩ := H
     replace H : (whittlelaw2_ValueBack.j0 k a1 (!(t808 == a0_0) || ((!(t809 == a0_1) || (!(t810 == a0_2))) || (!(t811.toList == a0_3.toList) || (!(t812 == a0_4) || (!(t813 == a0_5))))))) = some r := H
     have A25 := Aside0.mk A250
     clear A250
     have H' := Aside0.mk H
     clear H
     try go_wp2
     refine startm [true] (n := 18) (ds := []) #[false, false, false, false, false, false, false, false, false, false, false, false, false, false, false, false, false, false] kr rfl rfl (fun BX1 => ?_); refine with_tabW whittlelaw2_ValueBack.tab4 whittlelaw2_ValueBack.bits4 (fun HT_ HW_ => ?_)
     clear BX
     have BX := BX1
     clear BX1
     generalize w10.drew = w26 at BX ⊢
     refine pure_ (i := 0) (N := some 11) (v := ?_) (a' := ?_) #[true, false, false, false, false, false, false, false, false, false, false, false, false, false, false, false, false, false] rfl rfl (any_of HT_.out kr) (fun _ _ _ h => h) (Or.inl ⟨by rfl, ?_⟩) ?_ ?_
     rotate_left
     ·intro w'
      go_simp
      with_reducible rfl
     rotate_left
     ·simp only [Act.put, List.setIfInBounds_toArray, List.set_cons_zero, List.set_cons_succ, i64_w, i32_w]
      rfl
     refine pure_ (i := 1) (N := some 12) (v := ?_) (a' := ?_) #[true, true, false, false, false, false, false, false, false, false, false, false, false, false, false, false, false, false] rfl rfl (any_of HT_.out kr) (fun _ _ _ h => h) (Or.inl ⟨by rfl, ?_⟩) ?_ ?_
     rotate_left
     ·intro w'
      go_simp
      with_reducible rfl
     rotate_left
     ·simp only [Act.put, List.setIfInBounds_toArray, List.set_cons_zero, List.set_cons_succ, i64_w, i32_w]
      rfl
     refine pure_ (i := 2) (N := some 13) (v := ?_) (a' := ?_) #[true, true, true, false, false, false, false, false, false, false, false, false, false, false, false, false, false, false] rfl rfl (any_of HT_.out kr) (fun _ _ _ h => h) (Or.inl ⟨by rfl, ?_⟩) ?_ ?_
     rotate_left
     ·intro w'
      go_simp
      with_reducible rfl
     rotate_left
     ·simp only [Act.put, List.setIfInBounds_toArray, List.set_cons_zero, List.set_cons_succ, i64_w, i32_w]
      rfl
     refine pure_ (i := 3) (N := some 14) (v := ?_) (a' := ?_) #[true, true, true, true, false, false, false, false, false, false, false, false, false, false, false, false, false, false] rfl rfl (any_of HT_.out kr) (fun _ _ _ h => h) (Or.inl ⟨by rfl, ?_⟩) ?_ ?_
     rotate_left
     ·intro w'
      go_simp
      with_reducible rfl
     rotate_left
     ·simp only [Act.put, List.setIfInBounds_toArray, List.set_cons_zero, List.set_cons_succ, i64_w, i32_w]
      rfl
     refine pure_ (i := 4) (N := some 15) (v := undef) (a' := ?_) #[true, true, true, true, true, false, false, false, false, false, false, false, false, false, false, false, false, false] rfl rfl (any_of HT_.out kr) (fun _ _ _ h => h) (Or.inr ⟨by rfl, rfl⟩) ?_ ?_
     rotate_left
     ·simp only [Act.put, List.setIfInBounds_toArray, List.set_cons_zero, List.set_cons_succ, i64_w, i32_w]
      rfl
     refine pure_ (i := 5) (N := some 16) (v := undef) (a' := ?_) #[true, true, true, true, true, true, false, false, false, false, false, false, false, false, false, false, false, false] rfl rfl (any_of HT_.out kr) (fun _ _ _ h => h) (Or.inr ⟨by rfl, rfl⟩) ?_ ?_
     rotate_left
     ·simp only [Act.put, List.setIfInBounds_toArray, List.set_cons_zero, List.set_cons_succ, i64_w, i32_w]
      rfl
     refine pure_ (i := 6) (N := some 17) (v := undef) (a' := ?_) #[true, true, true, true, true, true, true, false, false, false, false, false, false, false, false, false, false, false] rfl rfl (any_of HT_.out kr) (fun _ _ _ h => h) (Or.inr ⟨by rfl, rfl⟩) ?_ ?_
     rotate_left
     ·simp only [Act.put, List.setIfInBounds_toArray, List.set_cons_zero, List.set_cons_succ, i64_w, i32_w]
      rfl
     refine pure_ (i := 7) (N := some 18) (v := ?_) (a' := ?_) #[true, true, true, true, true, true, true, true, false, false, false, false, false, false, false, false, false, false] rfl rfl (any_of HT_.out kr) (fun _ _ _ h => h) (Or.inl ⟨by rfl, ?_⟩) ?_ ?_
     rotate_left
     ·intro w'
      go_simp
      with_reducible rfl
     rotate_left
     ·simp only [Act.put, List.setIfInBounds_toArray, List.set_cons_zero, List.set_cons_succ, i64_w, i32_w]
      rfl
     refine pure_ (i := 8) (N := some 19) (v := ?_) (a' := ?_) #[true, true, true, true, true, true, true, true, true, false, false, false, false, false, false, false, false, false] rfl rfl (any_of HT_.out kr) (fun _ _ _ h => h) (Or.inl ⟨by rfl, ?_⟩) ?_ ?_
     rotate_left
     ·intro w'
      go_simp
      with_reducible rfl
     rotate_left
     ·simp only [Act.put, List.setIfInBounds_toArray, List.set_cons_zero, List.set_cons_succ, i64_w, i32_w]
      rfl
     refine take_ (i := 9) (N := some 20) (v := ?_) (a' := ?_) #[true, true, true, true, true, true, true, true, true, true, false, false, false, false, false, false, false, false] rfl rfl (take_ofW HT_.out HW_.out kr) (fun _ _ _ h => h) (Or.inl ⟨by rfl, ?_⟩) bxs ?_ ?_
     rotate_left
     ·intro w' hS
      go_simp
      with_reducible rfl
     rotate_left
     ·simp only [Act.put, List.setIfInBounds_toArray, List.set_cons_zero, List.set_cons_succ, i64_w, i32_w]
      rfl
     refine one_ (i := 10) (N := some 21) #[true, true, true, true, true, true, true, true, true, true, true, false, false, false, false, false, false, false] rfl rfl (one_of HT_.out kr) (by decide) (fun K hK => ?_)
     refine goes_ Tryd.func16 kr rfl #[.agg #[.int .i64 a0_0, .int .i64 a0_1, .int .i64 a0_2, .string a0_3, .bool a0_4, .int .i64 a0_5]] (by rfl) rfl rfl ga ?_
     with_reducible refine (value_Right.calls k a0_0 a0_1 a0_2 a0_3 a0_4 a0_5 true _ A23.out).mono ?_
     rintro e w27 ⟨rfl, hb⟩
     refine ⟨_, rfl, ?_⟩
     replace BX := bx_call hb
     clear hb
     refine hK.out _ _ bxs (fun hHeld => ?_)
     clear hK K hHeld
     refine norm_ (a' := ?_) ?_ ?_
     rotate_left
     ·show Act.put _ (some 21) _ = _
      simp only [Act.put, List.setIfInBounds_toArray, List.set_cons_zero, List.set_cons_succ, i64_w, i32_w]
      rfl
     refine pure_ (i := 11) (N := some 22) (v := ?_) (a' := ?_) #[true, true, true, true, true, true, true, true, true, true, true, true, false, false, false, false, false, false] rfl rfl (any_of HT_.out kr) (fun _ _ _ h => h) (Or.inl ⟨by rfl, ?_⟩) ?_ ?_
     rotate_left
     ·intro w'
      go_simp
      with_reducible rfl
     rotate_left
     ·simp only [Act.put, List.setIfInBounds_toArray, List.set_cons_zero, List.set_cons_succ, i64_w, i32_w]
      rfl
     refine pure_ (i := 12) (N := some 23) (v := ?_) (a' := ?_) #[true, true, true, true, true, true, true, true, true, true, true, true, true, false, false, false, false, false] rfl rfl (any_of HT_.out kr) (fun _ _ _ h => h) (Or.inl ⟨by rfl, ?_⟩) ?_ ?_
     rotate_left
     ·intro w'
      go_simp
      with_reducible rfl
     rotate_left
     ·simp only [Act.put, List.setIfInBounds_toArray, List.set_cons_zero, List.set_cons_succ, i64_w, i32_w]
      rfl
     refine take_ (i := 14) (N := some 25) (v := ?_) (a' := ?_) #[true, true, true, true, true, true, true, true, true, true, true, true, true, false, true, false, false, false] rfl rfl (take_ofW HT_.out HW_.out kr) (fun _ _ _ h => h) (Or.inl ⟨by rfl, ?_⟩) bxs ?_ ?_
     rotate_left
     ·intro w' hS
      go_simp
      with_reducible rfl
     rotate_left
     ·simp only [Act.put, List.setIfInBounds_toArray, List.set_cons_zero, List.set_cons_succ, i64_w, i32_w]
      rfl
     refine one_ (i := 13) (N := some 24) #[true, true, true, true, true, true, true, true, true, true, true, true, true, true, true, false, false, false] rfl rfl (one_of HT_.out kr) (by decide) (fun K hK => ?_)
     refine goes_ Tryd.func27 kr rfl #[.string t799] (by rfl) rfl rfl ga ?_
     with_reducible refine (value_Read.calls k t799 t808 t809 t810 t811 t812 t813 _ ?side1 A25.out).mono ?_
     (case side1 => exact HT.out.on bx_bl)
     rintro e w28 ⟨rfl, hb⟩
     refine ⟨_, rfl, ?_⟩
     replace BX := bx_call hb
     clear hb
     refine hK.out _ _ bxs (fun hHeld => ?_)
     clear hK K hHeld
     refine norm_ (a' := ?_) ?_ ?_
     rotate_left
     ·show Act.put _ (some 24) _ = _
      simp only [Act.put, List.setIfInBounds_toArray, List.set_cons_zero, List.set_cons_succ, i64_w, i32_w]
      rfl
     refine pure_ (i := 15) (N := some 26) (v := ?_) (a' := ?_) #[true, true, true, true, true, true, true, true, true, true, true, true, true, true, true, true, false, false] rfl rfl (any_of HT_.out kr) (fun _ _ _ h => h) (Or.inl ⟨by rfl, ?_⟩) ?_ ?_
     rotate_left
     ·intro w'
      go_simp
      with_reducible rfl
     rotate_left
     ·simp only [Act.put, List.setIfInBounds_toArray, List.set_cons_zero, List.set_cons_succ, i64_w, i32_w]
      rfl
     refine pure_ (i := 16) (N := some 27) (v := ?_) (a' := ?_) #[true, true, true, true, true, true, true, true, true, true, true, true, true, true, true, true, true, false] rfl rfl (any_of HT_.out kr) (fun _ _ _ h => h) (Or.inl ⟨by rfl, ?_⟩) ?_ ?_
     rotate_left
     ·intro w'
      go_simp
      with_reducible rfl
     rotate_left
     ·simp only [Act.put, List.setIfInBounds_toArray, List.set_cons_zero, List.set_cons_succ, i64_w, i32_w]
      rfl
     refine pure_ (i := 17) (N := some 28) (v := ?_) (a' := ?_) #[true, true, true, true, true, true, true, true, true, true, true, true, true, true, true, true, true, true] rfl rfl (any_of HT_.out kr) (fun _ _ _ h => h) (Or.inl ⟨by rfl, ?_⟩) ?_ ?_
     rotate_left
     ·intro w'
      go_simp
      with_reducible rfl
     rotate_left
     ·simp only [Act.put, List.setIfInBounds_toArray, List.set_cons_zero, List.set_cons_succ, i64_w, i32_w]
      rfl
     refine done_ (done_of HT_.out kr) ?_
     try go_wp2
     go_meet
     case rel => exact ⟨_, ((!(t808 == a0_0) || ((!(t809 == a0_1) || (!(t810 == a0_2))) || (!(t811.toList == a0_3.toList) || (!(t812 == a0_4) || (!(t813 == a0_5))))))), er, H', ⟨by first | omega | exact Nat.le_refl _⟩, bxs⟩
    ·replace c24 := Bool.eq_false_iff.mpr c24
     subst c24
     have H1 : (whittlelaw2_ValueBack.j0 k a1 false) = some r := by rw [if_neg (show ¬ (false = true) by decide)] at H; exact H
     clear H
     have H := H1
     clear H1
     have H' := Aside0.mk H
     clear H
     try go_wp2
     refine startm [true] (n := 18) (ds := []) #[false, false, false, false, false, false, false, false, false, false, false, false, false, false, false, false, false, false] kr rfl rfl (fun BX1 => ?_); refine with_tabW whittlelaw2_ValueBack.tab4 whittlelaw2_ValueBack.bits4 (fun HT_ HW_ => ?_)
     clear BX
     have BX := BX1
     clear BX1
     generalize w10.drew = w29 at BX ⊢
     refine pure_ (i := 0) (N := some 11) (v := ?_) (a' := ?_) #[true, false, false, false, false, false, false, false, false, false, false, false, false, false, false, false, false, false] rfl rfl (any_of HT_.out kr) (fun _ _ _ h => h) (Or.inl ⟨by rfl, ?_⟩) ?_ ?_
     rotate_left
     ·intro w'
      go_simp
      with_reducible rfl
     rotate_left
     ·simp only [Act.put, List.setIfInBounds_toArray, List.set_cons_zero, List.set_cons_succ, i64_w, i32_w]
      rfl
     refine pure_ (i := 1) (N := some 12) (v := ?_) (a' := ?_) #[true, true, false, false, false, false, false, false, false, false, false, false, false, false, false, false, false, false] rfl rfl (any_of HT_.out kr) (fun _ _ _ h => h) (Or.inl ⟨by rfl, ?_⟩) ?_ ?_
     rotate_left
     ·intro w'
      go_simp
      with_reducible rfl
     rotate_left
     ·simp only [Act.put, List.setIfInBounds_toArray, List.set_cons_zero, List.set_cons_succ, i64_w, i32_w]
      rfl
     refine pure_ (i := 2) (N := some 13) (v := ?_) (a' := ?_) #[true, true, true, false, false, false, false, false, false, false, false, false, false, false, false, false, false, false] rfl rfl (any_of HT_.out kr) (fun _ _ _ h => h) (Or.inl ⟨by rfl, ?_⟩) ?_ ?_
     rotate_left
     ·intro w'
      go_simp
      with_reducible rfl
     rotate_left
     ·simp only [Act.put, List.setIfInBounds_toArray, List.set_cons_zero, List.set_cons_succ, i64_w, i32_w]
      rfl
     refine pure_ (i := 3) (N := some 14) (v := ?_) (a' := ?_) #[true, true, true, true, false, false, false, false, false, false, false, false, false, false, false, false, false, false] rfl rfl (any_of HT_.out kr) (fun _ _ _ h => h) (Or.inl ⟨by rfl, ?_⟩) ?_ ?_
     rotate_left
     ·intro w'
      go_simp
      with_reducible rfl
     rotate_left
     ·simp only [Act.put, List.setIfInBounds_toArray, List.set_cons_zero, List.set_cons_succ, i64_w, i32_w]
      rfl
     refine pure_ (i := 4) (N := some 15) (v := undef) (a' := ?_) #[true, true, true, true, true, false, false, false, false, false, false, false, false, false, false, false, false, false] rfl rfl (any_of HT_.out kr) (fun _ _ _ h => h) (Or.inr ⟨by rfl, rfl⟩) ?_ ?_
     rotate_left
     ·simp only [Act.put, List.setIfInBounds_toArray, List.set_cons_zero, List.set_cons_succ, i64_w, i32_w]
      rfl
     refine pure_ (i := 5) (N := some 16) (v := undef) (a' := ?_) #[true, true, true, true, true, true, false, false, false, false, false, false, false, false, false, false, false, false] rfl rfl (any_of HT_.out kr) (fun _ _ _ h => h) (Or.inr ⟨by rfl, rfl⟩) ?_ ?_
     rotate_left
     ·simp only [Act.put, List.setIfInBounds_toArray, List.set_cons_zero, List.set_cons_succ, i64_w, i32_w]
      rfl
     refine pure_ (i := 6) (N := some 17) (v := undef) (a' := ?_) #[true, true, true, true, true, true, true, false, false, false, false, false, false, false, false, false, false, false] rfl rfl (any_of HT_.out kr) (fun _ _ _ h => h) (Or.inr ⟨by rfl, rfl⟩) ?_ ?_
     rotate_left
     ·simp only [Act.put, List.setIfInBounds_toArray, List.set_cons_zero, List.set_cons_succ, i64_w, i32_w]
      rfl
     refine pure_ (i := 7) (N := some 18) (v := ?_) (a' := ?_) #[true, true, true, true, true, true, true, true, false, false, false, false, false, false, false, false, false, false] rfl rfl (any_of HT_.out kr) (fun _ _ _ h => h) (Or.inl ⟨by rfl, ?_⟩) ?_ ?_
     rotate_left
     ·intro w'
      go_simp
      with_reducible rfl
     rotate_left
     ·simp only [Act.put, List.setIfInBounds_toArray, List.set_cons_zero, List.set_cons_succ, i64_w, i32_w]
      rfl
     refine pure_ (i := 8) (N := some 19) (v := ?_) (a' := ?_) #[true, true, true, true, true, true, true, true, true, false, false, false, false, false, false, false, false, false] rfl rfl (any_of HT_.out kr) (fun _ _ _ h => h) (Or.inl ⟨by rfl, ?_⟩) ?_ ?_
     rotate_left
     ·intro w'
      go_simp
      with_reducible rfl
     rotate_left
     ·simp only [Act.put, List.setIfInBounds_toArray, List.set_cons_zero, List.set_cons_succ, i64_w, i32_w]
      rfl
     refine take_ (i := 9) (N := some 20) (v := ?_) (a' := ?_) #[true, true, true, true, true, true, true, true, true, true, false, false, false, false, false, false, false, false] rfl rfl (take_ofW HT_.out HW_.out kr) (fun _ _ _ h => h) (Or.inl ⟨by rfl, ?_⟩) bxs ?_ ?_
     rotate_left
     ·intro w' hS
      go_simp
      with_reducible rfl
     rotate_left
     ·simp only [Act.put, List.setIfInBounds_toArray, List.set_cons_zero, List.set_cons_succ, i64_w, i32_w]
      rfl
     refine one_ (i := 10) (N := some 21) #[true, true, true, true, true, true, true, true, true, true, true, false, false, false, false, false, false, false] rfl rfl (one_of HT_.out kr) (by decide) (fun K hK => ?_)
     refine goes_ Tryd.func16 kr rfl #[.agg #[.int .i64 a0_0, .int .i64 a0_1, .int .i64 a0_2, .string a0_3, .bool a0_4, .int .i64 a0_5]] (by rfl) rfl rfl ga ?_
     with_reducible refine (value_Right.calls k a0_0 a0_1 a0_2 a0_3 a0_4 a0_5 false _ A23.out).mono ?_
     rintro e w30 ⟨rfl, hb⟩
     refine ⟨_, rfl, ?_⟩
     replace BX := bx_call hb
     clear hb
     refine hK.out _ _ bxs (fun hHeld => ?_)
     clear hK K hHeld
     refine norm_ (a' := ?_) ?_ ?_
     rotate_left
     ·show Act.put _ (some 21) _ = _
      simp only [Act.put, List.setIfInBounds_toArray, List.set_cons_zero, List.set_cons_succ, i64_w, i32_w]
      rfl
     refine pure_ (i := 11) (N := some 22) (v := ?_) (a' := ?_) #[true, true, true, true, true, true, true, true, true, true, true, true, false, false, false, false, false, false] rfl rfl (any_of HT_.out kr) (fun _ _ _ h => h) (Or.inl ⟨by rfl, ?_⟩) ?_ ?_
     rotate_left
     ·intro w'
      go_simp
      with_reducible rfl
     rotate_left
     ·simp only [Act.put, List.setIfInBounds_toArray, List.set_cons_zero, List.set_cons_succ, i64_w, i32_w]
      rfl
     refine pure_ (i := 12) (N := some 23) (v := undef) (a' := ?_) #[true, true, true, true, true, true, true, true, true, true, true, true, true, false, false, false, false, false] rfl rfl (any_of HT_.out kr) (fun _ _ _ h => h) (Or.inr ⟨by rfl, rfl⟩) ?_ ?_
     rotate_left
     ·simp only [Act.put, List.setIfInBounds_toArray, List.set_cons_zero, List.set_cons_succ, i64_w, i32_w]
      rfl
     refine pure_ (i := 13) (N := some 24) (v := undef) (a' := ?_) #[true, true, true, true, true, true, true, true, true, true, true, true, true, true, false, false, false, false] rfl rfl (any_of HT_.out kr) (fun _ _ _ h => h) (Or.inr ⟨by rfl, rfl⟩) ?_ ?_
     rotate_left
     ·simp only [Act.put, List.setIfInBounds_toArray, List.set_cons_zero, List.set_cons_succ, i64_w, i32_w]
      rfl
     refine pure_ (i := 14) (N := some 25) (v := undef) (a' := ?_) #[true, true, true, true, true, true, true, true, true, true, true, true, true, true, true, false, false, false] rfl rfl (any_of HT_.out kr) (fun _ _ _ h => h) (Or.inr ⟨by rfl, rfl⟩) ?_ ?_
     rotate_left
     ·simp only [Act.put, List.setIfInBounds_toArray, List.set_cons_zero, List.set_cons_succ, i64_w, i32_w]
      rfl
     refine pure_ (i := 15) (N := some 26) (v := undef) (a' := ?_) #[true, true, true, true, true, true, true, true, true, true, true, true, true, true, true, true, false, false] rfl rfl (any_of HT_.out kr) (fun _ _ _ h => h) (Or.inr ⟨by rfl, rfl⟩) ?_ ?_
     rotate_left
     ·simp only [Act.put, List.setIfInBounds_toArray, List.set_cons_zero, List.set_cons_succ, i64_w, i32_w]
      rfl
     refine pure_ (i := 16) (N := some 27) (v := ?_) (a' := ?_) #[true, true, true, true, true, true, true, true, true, true, true, true, true, true, true, true, true, false] rfl rfl (any_of HT_.out kr) (fun _ _ _ h => h) (Or.inl ⟨by rfl, ?_⟩) ?_ ?_
     rotate_left
     ·intro w'
      go_simp
      with_reducible rfl
     rotate_left
     ·simp only [Act.put, List.setIfInBounds_toArray, List.set_cons_zero, List.set_cons_succ, i64_w, i32_w]
      rfl
     refine pure_ (i := 17) (N := some 28) (v := ?_) (a' := ?_) #[true, true, true, true, true, true, true, true, true, true, true, true, true, true, true, true, true, true] rfl rfl (any_of HT_.out kr) (fun _ _ _ h => h) (Or.inl ⟨by rfl, ?_⟩) ?_ ?_
     rotate_left
     ·intro w'
      go_simp
      with_reducible rfl
     rotate_left
     ·simp only [Act.put, List.setIfInBounds_toArray, List.set_cons_zero, List.set_cons_succ, i64_w, i32_w]
      rfl
     refine done_ (done_of HT_.out kr) ?_
     try go_wp2
     go_meet
     case rel => exact ⟨_, (false), er, H', ⟨by first | omega | exact Nat.le_refl _⟩, bxs⟩
  case rest =>
   clear HC6
   try clear c1
   try clear p1
   try clear q1
   try clear hx1
   try clear qi1
   try clear c2
   try clear p2
   try clear c11
   try clear c11b0
   try clear c11b1
   try clear c12
   try clear p13
   try clear q13
   try clear hx13
   try clear qi13
   try clear c16
   try clear c24
   try clear c27
   try clear p13
   try clear q13
   obtain ⟨kq, x28_5, rfl, HA, HJ5, BX⟩ := hcut
   cases kq with
   | zero => exact absurd HA.out (by simp [whittlelaw2_ValueBack.j0])
   | succ kj5 =>
    have H := HA.out
    clear HA
    simp only [whittlelaw2_ValueBack.j0] at H
    by_cases c31 : x28_5 = true
    ·subst c31
     have H1 : (some false) = some r := by rw [if_pos rfl] at H; exact H
     clear H
     have H := H1
     clear H1
     exact absurd (Option.some.inj H) (by rw [HR.out]; decide)
    ·replace c31 := Bool.eq_false_iff.mpr c31
     subst c31
     have H1 : ((value_Read.f kj5 a1).bind fun bt814 => ((value_Right.f kj5 bt814.1 bt814.2.1 bt814.2.2.1 bt814.2.2.2.1 bt814.2.2.2.2.1 bt814.2.2.2.2.2).bind fun t821 => (if t821 = true then ((value_Show.f kj5 bt814.1 bt814.2.1 bt814.2.2.1 bt814.2.2.2.1 bt814.2.2.2.2.1 bt814.2.2.2.2.2).bind fun t822 => ((value_Read.f kj5 t822).bind fun bt823 => (some (bt823.1 == bt814.1 && ((bt823.2.1 == bt814.2.1 && (bt823.2.2.1 == bt814.2.2.1)) && (bt823.2.2.2.1.toList == bt814.2.2.2.1.toList && (bt823.2.2.2.2.1 == bt814.2.2.2.2.1 && (bt823.2.2.2.2.2 == bt814.2.2.2.2.2)))))))) else (some false)))) = some r := by rw [if_neg (show ¬ (false = true) by decide)] at H; exact H
     clear H
     have H := H1
     clear H1
     replace H := Option.bind_eq_some_iff.mp H
     obtain ⟨⟨t814, t815, t816, t817, t818, t819⟩, A320, H⟩ := H
     have A32 := Aside0.mk A320
     clear A320
     replace H := Option.bind_eq_some_iff.mp H
     obtain ⟨t821, A330, H⟩ := H
     replace H : (if t821 = true then ((value_Show.f kj5 t814 t815 t816 t817 t818 t819).bind fun t822 => ((value_Read.f kj5 t822).bind fun bt823 => (some (bt823.1 == t814 && ((bt823.2.1 == t815 && (bt823.2.2.1 == t816)) && (bt823.2.2.2.1.toList == t817.toList && (bt823.2.2.2.2.1 == t818 && (bt823.2.2.2.2.2 == t819)))))))) else (some false)) = some r := H
     have A33 := Aside0.mk A330
     clear A330
     by_cases c34 : t821 = true
     ·subst c34
      have H1 : ((value_Show.f kj5 t814 t815 t816 t817 t818 t819).bind fun t822 => ((value_Read.f kj5 t822).bind fun bt823 => (some (bt823.1 == t814 && ((bt823.2.1 == t815 && (bt823.2.2.1 == t816)) && (bt823.2.2.2.1.toList == t817.toList && (bt823.2.2.2.2.1 == t818 && (bt823.2.2.2.2.2 == t819)))))))) = some r := by rw [if_pos rfl] at H; exact H
      clear H
      have H := H1
      clear H1
      replace H := Option.bind_eq_some_iff.mp H
      obtain ⟨t822, A350, H⟩ := H
      have A35 := Aside0.mk A350
      clear A350
      replace H := Option.bind_eq_some_iff.mp H
      obtain ⟨⟨t823, t824, t825, t826, t827, t828⟩, A360, H⟩ := H
      replace H : (some (t823 == t814 && ((t824 == t815 && (t825 == t816)) && (t826.toList == t817.toList && (t827 == t818 && (t828 == t819)))))) = some r := H
      have A36 := Aside0.mk A360
      clear A360
      clear HR
      obtain rfl := Option.some.inj H
      try go_wp2_with (first | ((with_reducible refine gate_callee (f := 27) rfl ?_); refine goesL_ (some 30) rfl rfl Tryd.func27 kr rfl #[.string a1] rfl ga ?_; (with_reducible refine (value_Read.calls kj5 a1 t814 t815 t816 t817 t818 t819 _ ?side1 A32.out).mono ?_); (case side1 => exact HT.out.on bx_bl); rintro e w37 ⟨rfl, hb⟩; refine ⟨_, rfl, ?_⟩; replace BX := bx_call hb; clear hb) | ((with_reducible refine gate_dst (N := 6) rfl ?_); refine bxe 6 #[.int .i64 0, .int .i64 0, .int .i64 0, .string (⟨#[]⟩ : ByteArray), .bool false, .int .i64 0] 25 rfl rfl gr ?_; clear BX; intro gb820 w38 GE820 BX))
      replace BX : Bx w ((((((w38.setCell ⟨gb820, 0, none⟩ (.int .i64 t814)).setCell ⟨gb820, 1, none⟩ (.int .i64 t815)).setCell ⟨gb820, 2, none⟩ (.int .i64 t816)).setCell ⟨gb820, 3, none⟩ (.string t817)).setCell ⟨gb820, 4, none⟩ (.bool t818)).setCell ⟨gb820, 5, none⟩ (.int .i64 t819)) _ := bxi
      generalize ((((((w38.setCell ⟨gb820, 0, none⟩ (.int .i64 t814)).setCell ⟨gb820, 1, none⟩ (.int .i64 t815)).setCell ⟨gb820, 2, none⟩ (.int .i64 t816)).setCell ⟨gb820, 3, none⟩ (.string t817)).setCell ⟨gb820, 4, none⟩ (.bool t818)).setCell ⟨gb820, 5, none⟩ (.int .i64 t819)) = w41 at BX ⊢
      refine startm [true] (n := 10) (ds := []) #[false, false, false, false, false, false, false, false, false, false] kr rfl rfl (fun BX1 => ?_); refine with_tabW whittlelaw2_ValueBack.tab7 whittlelaw2_ValueBack.bits7 (fun HT_ HW_ => ?_)
      clear BX
      have BX := BX1
      clear BX1
      generalize w41.drew = w42 at BX ⊢
      refine take_ (i := 0) (N := some 31) (v := ?_) (a' := ?_) #[true, false, false, false, false, false, false, false, false, false] rfl rfl (take_ofW HT_.out HW_.out kr) (fun _ _ _ h => h) (Or.inl ⟨by rfl, ?_⟩) bxs ?_ ?_
      rotate_left
      ·intro w' hS
       go_simp
       with_reducible rfl
      rotate_left
      ·simp only [Act.put, List.setIfInBounds_toArray, List.set_cons_zero, List.set_cons_succ, i64_w, i32_w]
       rfl
      refine one_ (i := 1) (N := some 32) #[true, true, false, false, false, false, false, false, false, false] rfl rfl (one_of HT_.out kr) (by decide) (fun K hK => ?_)
      refine goes_ Tryd.func16 kr rfl #[.agg #[.int .i64 t814, .int .i64 t815, .int .i64 t816, .string t817, .bool t818, .int .i64 t819]] (by rfl) rfl rfl ga ?_
      with_reducible refine (value_Right.calls kj5 t814 t815 t816 t817 t818 t819 true _ A33.out).mono ?_
      rintro e w43 ⟨rfl, hb⟩
      refine ⟨_, rfl, ?_⟩
      replace BX := bx_call hb
      clear hb
      refine hK.out _ _ bxs (fun hHeld => ?_)
      clear hK K hHeld
      refine norm_ (a' := ?_) ?_ ?_
      rotate_left
      ·show Act.put _ (some 32) _ = _
       simp only [Act.put, List.setIfInBounds_toArray, List.set_cons_zero, List.set_cons_succ, i64_w, i32_w]
       rfl
      refine pure_ (i := 2) (N := some 33) (v := ?_) (a' := ?_) #[true, true, true, false, false, false, false, false, false, false] rfl rfl (any_of HT_.out kr) (fun _ _ _ h => h) (Or.inl ⟨by rfl, ?_⟩) ?_ ?_
      rotate_left
      ·intro w'
       go_simp
       with_reducible rfl
      rotate_left
      ·simp only [Act.put, List.setIfInBounds_toArray, List.set_cons_zero, List.set_cons_succ, i64_w, i32_w]
       rfl
      refine take_ (i := 3) (N := some 34) (v := ?_) (a' := ?_) #[true, true, true, true, false, false, false, false, false, false] rfl rfl (take_ofW HT_.out HW_.out kr) (fun _ _ _ h => h) (Or.inl ⟨by rfl, ?_⟩) bxs ?_ ?_
      rotate_left
      ·intro w' hS
       go_simp
       with_reducible rfl
      rotate_left
      ·simp only [Act.put, List.setIfInBounds_toArray, List.set_cons_zero, List.set_cons_succ, i64_w, i32_w]
       rfl
      refine take_ (i := 6) (N := some 37) (v := ?_) (a' := ?_) #[true, true, true, true, false, false, true, false, false, false] rfl rfl (take_ofW HT_.out HW_.out kr) (fun _ _ _ h => h) (Or.inl ⟨by rfl, ?_⟩) bxs ?_ ?_
      rotate_left
      ·intro w' hS
       go_simp
       with_reducible rfl
      rotate_left
      ·simp only [Act.put, List.setIfInBounds_toArray, List.set_cons_zero, List.set_cons_succ, i64_w, i32_w]
       rfl
      refine one_ (i := 4) (N := some 35) #[true, true, true, true, true, false, true, false, false, false] rfl rfl (one_of HT_.out kr) (by decide) (fun K hK => ?_)
      refine goes_ Tryd.func29 kr rfl #[.agg #[.int .i64 t814, .int .i64 t815, .int .i64 t816, .string t817, .bool t818, .int .i64 t819]] (by rfl) rfl rfl ga ?_
      with_reducible refine (value_Show.calls kj5 t814 t815 t816 t817 t818 t819 t822 _ ?side1 A35.out).mono ?_
      (case side1 => exact HT.out.on bx_bl)
      rintro e w44 ⟨rfl, hb⟩
      refine ⟨_, rfl, ?_⟩
      replace BX := bx_call hb
      clear hb
      refine hK.out _ _ bxs (fun hHeld => ?_)
      clear hK K hHeld
      refine norm_ (a' := ?_) ?_ ?_
      rotate_left
      ·show Act.put _ (some 35) _ = _
       simp only [Act.put, List.setIfInBounds_toArray, List.set_cons_zero, List.set_cons_succ, i64_w, i32_w]
       rfl
      refine one_ (i := 5) (N := some 36) #[true, true, true, true, true, true, true, false, false, false] rfl rfl (one_of HT_.out kr) (by decide) (fun K hK => ?_)
      refine goes_ Tryd.func27 kr rfl #[.string t822] (by rfl) rfl rfl ga ?_
      with_reducible refine (value_Read.calls kj5 t822 t823 t824 t825 t826 t827 t828 _ ?side1 A36.out).mono ?_
      (case side1 => exact HT.out.on bx_bl)
      rintro e w45 ⟨rfl, hb⟩
      refine ⟨_, rfl, ?_⟩
      replace BX := bx_call hb
      clear hb
      refine hK.out _ _ bxs (fun hHeld => ?_)
      clear hK K hHeld
      refine norm_ (a' := ?_) ?_ ?_
      rotate_left
      ·show Act.put _ (some 36) _ = _
       simp only [Act.put, List.setIfInBounds_toArray, List.set_cons_zero, List.set_cons_succ, i64_w, i32_w]
       rfl
      refine pure_ (i := 7) (N := some 38) (v := ?_) (a' := ?_) #[true, true, true, true, true, true, true, true, false, false] rfl rfl (any_of HT_.out kr) (fun _ _ _ h => h) (Or.inl ⟨by rfl, ?_⟩) ?_ ?_
      rotate_left
      ·intro w'
       go_simp
       with_reducible rfl
      rotate_left
      ·simp only [Act.put, List.setIfInBounds_toArray, List.set_cons_zero, List.set_cons_succ, i64_w, i32_w]
       rfl
      refine pure_ (i := 8) (N := some 39) (v := ?_) (a' := ?_) #[true, true, true, true, true, true, true, true, true, false] rfl rfl (any_of HT_.out kr) (fun _ _ _ h => h) (Or.inl ⟨by rfl, ?_⟩) ?_ ?_
      rotate_left
      ·intro w'
       go_simp
       with_reducible rfl
      rotate_left
      ·simp only [Act.put, List.setIfInBounds_toArray, List.set_cons_zero, List.set_cons_succ, i64_w, i32_w]
       rfl
      refine pure_ (i := 9) (N := some 4) (v := ?_) (a' := ?_) #[true, true, true, true, true, true, true, true, true, true] rfl rfl (any_of HT_.out kr) (fun _ _ _ h => h) (Or.inl ⟨by rfl, ?_⟩) ?_ ?_
      rotate_left
      ·intro w'
       go_simp
       with_reducible rfl
      rotate_left
      ·simp only [Act.put, List.setIfInBounds_toArray, List.set_cons_zero, List.set_cons_succ, i64_w, i32_w]
       rfl
      refine done_ (done_of HT_.out kr) ?_
      try go_wp2
      go_ret
      exact ⟨er2, bx_bl⟩
     ·replace c34 := Bool.eq_false_iff.mpr c34
      subst c34
      have H1 : (some false) = some r := by rw [if_neg (show ¬ (false = true) by decide)] at H; exact H
      clear H
      have H := H1
      clear H1
      exact absurd (Option.some.inj H) (by rw [HR.out]; decide)
 ·replace c4 := Bool.eq_false_iff.mpr c4
  subst c4
  have H1 : (some false) = some r := by rw [if_neg (show ¬ (false = true) by decide)] at H; exact H
  clear H
  have H := H1
  clear H1
  exact absurd (Option.some.inj H) (by rw [HR.out]; decide)
end
end Go.Proofs.YtmakkdlkgfgaoaaDoor.F
