-- Laid by program (wip/tools/gen.sh of this repo) out of the translation; Lean checks it.
import Derived.Test.YtlcjfabbnclalaaDoorF0
import Derived.Test.YtlcjfabbnclalaaDoorB0
import Derived.Test.YtlcjfabbnclalaaDoorF1
import Derived.Test.YtlcjfabbnclalaaDoorF5
import Derived.Test.YtlcjfabbnclalaaDoorF6
import Derived.Test.YtlcjfabbnclalaaDoorF15
import Derived.Test.YtlcjfabbnclalaaDoorF17
import Derived.Test.YtlcjfabbnclalaaDoorF21
import Derived.Test.YtlcjfabbnclalaaDoorF23
import Derived.Test.YtlcjfabbnclalaaDoorF29
namespace Go.Proofs.YtlcjfabbnclalaaDoor.F
open Go.RowKit Go.Proofs.YtlcjfabbnclalaaDoorW.PrintWords Go.Proofs.YtlcjfabbnclalaaDoorW.PrintLast Go.Proofs.YtlcjfabbnclalaaDoorW.PrintMore
attribute [local go_sem] max2_int min2_int max_two min_two max_three min_three max_four min_four   -- for this text's walks alone
set_option linter.unusedVariables false
set_option linter.unusedSimpArgs false

attribute [local go_sem high] eqA23
/-! ### whittlelaw1_NumBacks: function 15 -/
mutual
def whittlelaw1_NumBacks.j0 : Nat → Bool → Int → Int → Int → Int → Option (Bool)
 | 0, _, _, _, _, _ => none
 | k + 1, x26, x646000, x646001, x647000, x647001 => if x26 = true then (some true) else ((num_Add.f k x646000 x646001 x647000 x647001).bind fun bt650 => (if bt650.2.2 = true then ((num_Sub.f k bt650.1 bt650.2.1 x647000 x647001).bind fun bt654 => (if bt654.2.2 = true then (if (!(bt654.1 == x646000) || (!(bt654.2.1 == x646001))) = true then (some false) else (whittlelaw1_NumBacks.j1 k x646000 x646001 x647000 x647001)) else (some false))) else (whittlelaw1_NumBacks.j1 k x646000 x646001 x647000 x647001)))
def whittlelaw1_NumBacks.j1 : Nat → Int → Int → Int → Int → Option (Bool)
 | 0, _, _, _, _ => none
 | k + 1, x646000, x646001, x647000, x647001 => (num_Mul.f k x646000 x646001 x647000 x647001).bind fun bt658 => (if bt658.2.2 = true then (whittlelaw1_NumBacks.j2 k (x647000 != 0) x646000 x646001 x647000 x647001 bt658.1 bt658.2.1) else (whittlelaw1_NumBacks.j2 k false x646000 x646001 x647000 x647001 bt658.1 bt658.2.1))
def whittlelaw1_NumBacks.j2 : Nat → Bool → Int → Int → Int → Int → Int → Int → Option (Bool)
 | 0, _, _, _, _, _, _, _ => none
 | k + 1, x58, x646000, x646001, x647000, x647001, x662000, x662001 => if x58 = true then ((num_Div.f k x662000 x662001 x647000 x647001).bind fun bt662 => (if bt662.2.2 = true then (if (!(bt662.1 == x646000) || (!(bt662.2.1 == x646001))) = true then (some false) else (whittlelaw1_NumBacks.j3 k x646000 x646001)) else (some false))) else (whittlelaw1_NumBacks.j3 k x646000 x646001)
def whittlelaw1_NumBacks.j3 : Nat → Int → Int → Option (Bool)
 | 0, _, _ => none
 | k + 1, x646000, x646001 => (num_Sub.f k x646000 x646001 x646000 x646001).bind fun bt666 => ((num_Div.f k x646000 x646001 x646000 x646001).bind fun bt670 => (if bt666.2.2 = true then ((whittlelaw1_zero.f).bind fun bt674 => (if (bt666.1 == bt674.1 && (bt666.2.1 == bt674.2)) = true then (if (bt670.2.2 == (x646000 != 0)) = true then (if x646000 = 0 then (some true) else ((whittlelaw1_one.f).bind fun bt676 => (some (bt670.1 == bt676.1 && (bt670.2.1 == bt676.2))))) else (some false)) else (some false))) else (some false)))
end
def whittlelaw1_NumBacks.f (k : Nat) (a0_0 : Int) (a0_1 : Int) (a1_0 : Int) (a1_1 : Int) : Option (Bool) := (whittlelaw1_able.f k).bind fun t647 => (if t647 = true then ((whittlelaw1_right.f k a0_0 a0_1).bind fun t648 => (if t648 = true then ((whittlelaw1_right.f k a1_0 a1_1).bind fun t649 => (whittlelaw1_NumBacks.j0 k (!t649) a0_0 a0_1 a1_0 a1_1)) else (whittlelaw1_NumBacks.j0 k true a0_0 a0_1 a1_0 a1_1))) else (some false))
theorem whittlelaw1_NumBacks.mono_l : ∀ k, (∀ y0 y1 y2 y3 y4, LeO (whittlelaw1_NumBacks.j0 k y0 y1 y2 y3 y4) (whittlelaw1_NumBacks.j0 (k + 1) y0 y1 y2 y3 y4)) ∧ (∀ y0 y1 y2 y3, LeO (whittlelaw1_NumBacks.j1 k y0 y1 y2 y3) (whittlelaw1_NumBacks.j1 (k + 1) y0 y1 y2 y3)) ∧ (∀ y0 y1 y2 y3 y4 y5 y6, LeO (whittlelaw1_NumBacks.j2 k y0 y1 y2 y3 y4 y5 y6) (whittlelaw1_NumBacks.j2 (k + 1) y0 y1 y2 y3 y4 y5 y6)) ∧ (∀ y0 y1, LeO (whittlelaw1_NumBacks.j3 k y0 y1) (whittlelaw1_NumBacks.j3 (k + 1) y0 y1))
 | 0 => ⟨fun _ _ _ _ _ r h => by simp [whittlelaw1_NumBacks.j0] at h, fun _ _ _ _ r h => by simp [whittlelaw1_NumBacks.j1] at h, fun _ _ _ _ _ _ _ r h => by simp [whittlelaw1_NumBacks.j2] at h, fun _ _ r h => by simp [whittlelaw1_NumBacks.j3] at h⟩
 | k + 1 => by
  obtain ⟨ih0, ih1, ih2, ih3⟩ := whittlelaw1_NumBacks.mono_l k
  refine ⟨?_, ?_, ?_, ?_⟩
  ·intro y0 y1 y2 y3 y4
   unfold whittlelaw1_NumBacks.j0
   repeat' first
   | (with_reducible exact ih0 _ _ _ _ _)
   | (with_reducible exact ih1 _ _ _ _)
   | (with_reducible exact ih2 _ _ _ _ _ _ _)
   | (with_reducible exact ih3 _ _)
   | (with_reducible exact num_Add.mono _ _ _ _ _)
   | (with_reducible exact num_Div.mono _ _ _ _ _)
   | (with_reducible exact num_Mul.mono _ _ _ _ _)
   | (with_reducible exact num_Sub.mono _ _ _ _ _)
   | (with_reducible exact whittlelaw1_able.mono _)
   | (with_reducible exact whittlelaw1_right.mono _ _ _)
   | (with_reducible exact LeO.refl _)
   | (with_reducible exact LeO.none _)
   | (with_reducible refine LeO.ite ?_ ?_)
   | (with_reducible refine LeO.bind ?_ (fun _ => ?_))
   | exact ih0 _ _ _ _ _
   | exact ih1 _ _ _ _
   | exact ih2 _ _ _ _ _ _ _
   | exact ih3 _ _
   | exact num_Add.mono _ _ _ _ _
   | exact num_Div.mono _ _ _ _ _
   | exact num_Mul.mono _ _ _ _ _
   | exact num_Sub.mono _ _ _ _ _
   | exact whittlelaw1_able.mono _
   | exact whittlelaw1_right.mono _ _ _
   | exact LeO.none _
   | refine LeO.ite ?_ ?_
   | refine LeO.bind ?_ (fun _ => ?_)
  ·intro y0 y1 y2 y3
   unfold whittlelaw1_NumBacks.j1
   repeat' first
   | (with_reducible exact ih0 _ _ _ _ _)
   | (with_reducible exact ih1 _ _ _ _)
   | (with_reducible exact ih2 _ _ _ _ _ _ _)
   | (with_reducible exact ih3 _ _)
   | (with_reducible exact num_Add.mono _ _ _ _ _)
   | (with_reducible exact num_Div.mono _ _ _ _ _)
   | (with_reducible exact num_Mul.mono _ _ _ _ _)
   | (with_reducible exact num_Sub.mono _ _ _ _ _)
   | (with_reducible exact whittlelaw1_able.mono _)
   | (with_reducible exact whittlelaw1_right.mono _ _ _)
   | (with_reducible exact LeO.refl _)
   | (with_reducible exact LeO.none _)
   | (with_reducible refine LeO.ite ?_ ?_)
   | (with_reducible refine LeO.bind ?_ (fun _ => ?_))
   | exact ih0 _ _ _ _ _
   | exact ih1 _ _ _ _
   | exact ih2 _ _ _ _ _ _ _
   | exact ih3 _ _
   | exact num_Add.mono _ _ _ _ _
   | exact num_Div.mono _ _ _ _ _
   | exact num_Mul.mono _ _ _ _ _
   | exact num_Sub.mono _ _ _ _ _
   | exact whittlelaw1_able.mono _
   | exact whittlelaw1_right.mono _ _ _
   | exact LeO.none _
   | refine LeO.ite ?_ ?_
   | refine LeO.bind ?_ (fun _ => ?_)
  ·intro y0 y1 y2 y3 y4 y5 y6
   unfold whittlelaw1_NumBacks.j2
   repeat' first
   | (with_reducible exact ih0 _ _ _ _ _)
   | (with_reducible exact ih1 _ _ _ _)
   | (with_reducible exact ih2 _ _ _ _ _ _ _)
   | (with_reducible exact ih3 _ _)
   | (with_reducible exact num_Add.mono _ _ _ _ _)
   | (with_reducible exact num_Div.mono _ _ _ _ _)
   | (with_reducible exact num_Mul.mono _ _ _ _ _)
   | (with_reducible exact num_Sub.mono _ _ _ _ _)
   | (with_reducible exact whittlelaw1_able.mono _)
   | (with_reducible exact whittlelaw1_right.mono _ _ _)
   | (with_reducible exact LeO.refl _)
   | (with_reducible exact LeO.none _)
   | (with_reducible refine LeO.ite ?_ ?_)
   | (with_reducible refine LeO.bind ?_ (fun _ => ?_))
   | exact ih0 _ _ _ _ _
   | exact ih1 _ _ _ _
   | exact ih2 _ _ _ _ _ _ _
   | exact ih3 _ _
   | exact num_Add.mono _ _ _ _ _
   | exact num_Div.mono _ _ _ _ _
   | exact num_Mul.mono _ _ _ _ _
   | exact num_Sub.mono _ _ _ _ _
   | exact whittlelaw1_able.mono _
   | exact whittlelaw1_right.mono _ _ _
   | exact LeO.none _
   | refine LeO.ite ?_ ?_
   | refine LeO.bind ?_ (fun _ => ?_)
  ·intro y0 y1
   unfold whittlelaw1_NumBacks.j3
   repeat' first
   | (with_reducible exact ih0 _ _ _ _ _)
   | (with_reducible exact ih1 _ _ _ _)
   | (with_reducible exact ih2 _ _ _ _ _ _ _)
   | (with_reducible exact ih3 _ _)
   | (with_reducible exact num_Add.mono _ _ _ _ _)
   | (with_reducible exact num_Div.mono _ _ _ _ _)
   | (with_reducible exact num_Mul.mono _ _ _ _ _)
   | (with_reducible exact num_Sub.mono _ _ _ _ _)
   | (with_reducible exact whittlelaw1_able.mono _)
   | (with_reducible exact whittlelaw1_right.mono _ _ _)
   | (with_reducible exact LeO.refl _)
   | (with_reducible exact LeO.none _)
   | (with_reducible refine LeO.ite ?_ ?_)
   | (with_reducible refine LeO.bind ?_ (fun _ => ?_))
   | exact ih0 _ _ _ _ _
   | exact ih1 _ _ _ _
   | exact ih2 _ _ _ _ _ _ _
   | exact ih3 _ _
   | exact num_Add.mono _ _ _ _ _
   | exact num_Div.mono _ _ _ _ _
   | exact num_Mul.mono _ _ _ _ _
   | exact num_Sub.mono _ _ _ _ _
   | exact whittlelaw1_able.mono _
   | exact whittlelaw1_right.mono _ _ _
   | exact LeO.none _
   | refine LeO.ite ?_ ?_
   | refine LeO.bind ?_ (fun _ => ?_)
theorem whittlelaw1_NumBacks.mono : ∀ a0 a1 a2 a3 k, LeO (whittlelaw1_NumBacks.f k a0 a1 a2 a3) (whittlelaw1_NumBacks.f (k + 1) a0 a1 a2 a3) := by
 intro a0 a1 a2 a3 k
 obtain ⟨ih0, ih1, ih2, ih3⟩ := whittlelaw1_NumBacks.mono_l k
 unfold whittlelaw1_NumBacks.f
 repeat' first
   | (with_reducible exact ih0 _ _ _ _ _)
   | (with_reducible exact ih1 _ _ _ _)
   | (with_reducible exact ih2 _ _ _ _ _ _ _)
   | (with_reducible exact ih3 _ _)
   | (with_reducible exact num_Add.mono _ _ _ _ _)
   | (with_reducible exact num_Div.mono _ _ _ _ _)
   | (with_reducible exact num_Mul.mono _ _ _ _ _)
   | (with_reducible exact num_Sub.mono _ _ _ _ _)
   | (with_reducible exact whittlelaw1_able.mono _)
   | (with_reducible exact whittlelaw1_right.mono _ _ _)
   | (with_reducible exact LeO.refl _)
   | (with_reducible exact LeO.none _)
   | (with_reducible refine LeO.ite ?_ ?_)
   | (with_reducible refine LeO.bind ?_ (fun _ => ?_))
   | exact ih0 _ _ _ _ _
   | exact ih1 _ _ _ _
   | exact ih2 _ _ _ _ _ _ _
   | exact ih3 _ _
   | exact num_Add.mono _ _ _ _ _
   | exact num_Div.mono _ _ _ _ _
   | exact num_Mul.mono _ _ _ _ _
   | exact num_Sub.mono _ _ _ _ _
   | exact whittlelaw1_able.mono _
   | exact whittlelaw1_right.mono _ _ _
   | exact LeO.none _
   | refine LeO.ite ?_ ?_
   | refine LeO.bind ?_ (fun _ => ?_)
def whittlelaw1_NumBacks.T17 : Bool × List (List Nat × List Nat) := (true, [([], []), ([0], [0]), ([1], [1]), ([1, 1], [1]), ([2, 3, 1], [1, 2, 3]), ([1, 4], [1, 4]), ([5, 3], [5]), ([6], [6]), ([6], [6]), ([8, 6], [6, 8]), ([9, 6], [6, 9]), ([7, 10, 6], [6, 7, 10]), ([6, 11], [6, 11]), ([12, 6], [12]), ([13], [13]), ([14, 13], [13, 14]), ([15, 13], [13, 15]), ([16, 13, 13], [13, 16]), ([17], [17]), ([17, 17], [17]), ([18, 19, 17], [17, 18, 19]), ([17, 20, 13], [13, 17, 20]), ([13, 21], [13, 21]), ([22, 19, 0, 1, 2, 3, 4, 5, 6, 7, 8, 9, 10, 11, 12, 13, 14, 15, 16, 17, 18, 19, 20, 21, 22], [22])])
def whittlelaw1_NumBacks.B17 : List Nat := [0, 1, 3, 3, 15, 31, 63, 127, 127, 383, 895, 2047, 4095, 8191, 16383, 32767, 65535, 131071, 262143, 262143, 1048575, 2097151, 4194303, 8388607]
theorem whittlelaw1_NumBacks.tab17 : rtab .any (opsOf Tryd.f15 17) = whittlelaw1_NumBacks.T17 := by kernel_rfl
theorem whittlelaw1_NumBacks.bits17 : waitsOk whittlelaw1_NumBacks.T17.2 whittlelaw1_NumBacks.B17 = true := by kernel_rfl
set_option maxHeartbeats 8000000 in
set_option maxRecDepth 100000 in
theorem whittlelaw1_NumBacks.calls (k : Nat) (a0_0 : Int) (a0_1 : Int) (a1_0 : Int) (a1_1 : Int) (r : Bool) (w : World) (HT0 : TabAt w) (hr0 : r = true) (h : whittlelaw1_NumBacks.f k a0_0 a0_1 a1_0 a1_1 = some r) :
  Calls Tryd.prog 15 #[.agg #[.int .i64 a0_0, .int .i64 a0_1], .agg #[.int .i64 a1_0, .int .i64 a1_1]] w fun e w' => e = .returned (.bool r) ∧ Below w.heap.size w w' := by
 have hu23 := Tryd.underlying23
 have HT := Aside0.mk HT0
 clear HT0
 have HR := Aside0.mk hr0
 clear hr0
 have HB := Aside0.mk (Below.refl w.heap.size w)
 have H : ((whittlelaw1_able.f k).bind fun t647 => (if t647 = true then ((whittlelaw1_right.f k a0_0 a0_1).bind fun t648 => (if t648 = true then ((whittlelaw1_right.f k a1_0 a1_1).bind fun t649 => (whittlelaw1_NumBacks.j0 k (!t649) a0_0 a0_1 a1_0 a1_1)) else (whittlelaw1_NumBacks.j0 k true a0_0 a0_1 a1_0 a1_1))) else (some false))) = some r := h
 clear h
 replace H := Option.bind_eq_some_iff.mp H
 obtain ⟨t647, A30, H⟩ := H
 replace H : (if t647 = true then ((whittlelaw1_right.f k a0_0 a0_1).bind fun t648 => (if t648 = true then ((whittlelaw1_right.f k a1_0 a1_1).bind fun t649 => (whittlelaw1_NumBacks.j0 k (!t649) a0_0 a0_1 a1_0 a1_1)) else (whittlelaw1_NumBacks.j0 k true a0_0 a0_1 a1_0 a1_1))) else (some false)) = some r := H
 have A3 := Aside0.mk A30
 clear A30
 by_cases c4 : t647 = true
 ·subst c4
  have H1 : ((whittlelaw1_right.f k a0_0 a0_1).bind fun t648 => (if t648 = true then ((whittlelaw1_right.f k a1_0 a1_1).bind fun t649 => (whittlelaw1_NumBacks.j0 k (!t649) a0_0 a0_1 a1_0 a1_1)) else (whittlelaw1_NumBacks.j0 k true a0_0 a0_1 a1_0 a1_1))) = some r := by rw [if_pos rfl] at H; exact H
  clear H
  have H := H1
  clear H1
  have HC5 := Aside0.mk H
  clear H
  go_enter Tryd.func15, Tryd.ntmps15
  go_upto_region 3 with (first | ((with_reducible refine gate_dst (N := 2) rfl ?_); refine box_event ?hg (N := 2) ?hd (cs := #[.int .i64 a0_0, .int .i64 a0_1]) (t := 23) ?hr ?_; (case hd => rfl); (case hg => rfl); (case hr => first | (go_simp; done) | (go_simp; rfl)); intro gb645 hg w6 hbox hb; have n0_ := Aside0.mk (Boxes.new (b := w.heap.size) (L := []) trivial hg hbox hb (below_size (by repeat (first | (with_reducible first | exact HB.out | apply below_alloc | apply pw_below_drewN | apply below_drew1 | refine below_set ?_ (Aside0.out (by assumption))) | exact HB.out)))); have n1_ := Aside0.mk (below_step (by repeat (first | (with_reducible first | exact HB.out | apply below_alloc | apply pw_below_drewN | apply below_drew1 | refine below_set ?_ (Aside0.out (by assumption))) | exact HB.out)) hb); have n2_ := Aside0.mk ((by rw [hg]; exact (below_size (by repeat (first | (with_reducible first | exact HB.out | apply below_alloc | apply pw_below_drewN | apply below_drew1 | refine below_set ?_ (Aside0.out (by assumption))) | exact HB.out))) : w.heap.size ≤ gb645)); clear HB; have BX := n0_; have HB := n1_; have GE645 := n2_; clear n0_ n1_ n2_; clear hb hbox hg) | ((with_reducible refine gate_dst (N := 3) rfl ?_); refine box_event ?hg (N := 3) ?hd (cs := #[.int .i64 a1_0, .int .i64 a1_1]) (t := 23) ?hr ?_; (case hd => rfl); (case hg => rfl); (case hr => first | (go_simp; done) | (go_simp; rfl)); intro gb646 hg w7 hbox hb; have n0_ := Aside0.mk (Boxes.new (by (with_reducible repeat (first | apply boxes_drewN | apply boxes_drew | apply boxes_alloc)); exact BX.out) hg hbox hb (below_size (by repeat (first | (with_reducible first | exact HB.out | apply below_alloc | apply pw_below_drewN | apply below_drew1 | refine below_set ?_ (Aside0.out (by assumption))) | exact HB.out)))); have n1_ := Aside0.mk (below_step (by repeat (first | (with_reducible first | exact HB.out | apply below_alloc | apply pw_below_drewN | apply below_drew1 | refine below_set ?_ (Aside0.out (by assumption))) | exact HB.out)) hb); have n2_ := Aside0.mk ((by rw [hg]; exact (below_size (by repeat (first | (with_reducible first | exact HB.out | apply below_alloc | apply pw_below_drewN | apply below_drew1 | refine below_set ?_ (Aside0.out (by assumption))) | exact HB.out))) : w.heap.size ≤ gb646)); clear BX HB; have BX := n0_; have HB := n1_; have GE646 := n2_; clear n0_ n1_ n2_; clear hb hbox hg) | ((with_reducible refine gate_callee (f := 22) rfl ?_); refine goesL_ (some 17) rfl rfl Tryd.func22 (by kernel_rfl) rfl #[] rfl (by (try simp only [List.map_toArray, List.map_cons, List.map_nil]); first | done | rfl | (simp only [List.length_drop, List.length_take]; rfl)) ?_; (with_reducible refine (whittlelaw1_able.calls k  true _ ?side1 A3.out).mono ?_); (case side1 => exact HT.out.on (by repeat (first | (with_reducible first | exact HB.out | apply below_alloc | apply pw_below_drewN | apply below_drew1 | refine below_set ?_ (Aside0.out (by assumption))) | exact HB.out))); rintro e w8 ⟨rfl, hb⟩; refine ⟨_, rfl, ?_⟩; have n0_ := Aside0.mk (Boxes.below (by (with_reducible repeat (first | apply boxes_drewN | apply boxes_drew | apply boxes_alloc)); exact BX.out) hb); have n1_ := Aside0.mk (below_step (by repeat (first | (with_reducible first | exact HB.out | apply below_alloc | apply pw_below_drewN | apply below_drew1 | refine below_set ?_ (Aside0.out (by assumption))) | exact HB.out)) hb); clear BX HB; have BX := n0_; have HB := n1_; clear n0_ n1_; (try clear hb); (try clear hb2); (try clear hk); (try clear hi)))
  (try simp only [Act.put, List.setIfInBounds_toArray, List.set_cons_zero, List.set_cons_succ])
  go_cut [26] (fun v26 wc => ∃ (kq : Nat) (x26_4 : Bool), v26 = .bool x26_4 ∧ Aside0 (whittlelaw1_NumBacks.j0 kq x26_4 a0_0 a0_1 a1_0 a1_1 = some r) ∧ Aside0 (kq ≤ k) ∧ Aside0 (Boxes w.heap.size wc [(gb646, 23, #[.int .i64 a1_0, .int .i64 a1_1]), (gb645, 23, #[.int .i64 a0_0, .int .i64 a0_1])]) ∧ Aside0 (Below w.heap.size w wc))
  case first =>
   have H := HC5.out
   clear HC5
   replace H := Option.bind_eq_some_iff.mp H
   obtain ⟨t648, A90, H⟩ := H
   replace H : (if t648 = true then ((whittlelaw1_right.f k a1_0 a1_1).bind fun t649 => (whittlelaw1_NumBacks.j0 k (!t649) a0_0 a0_1 a1_0 a1_1)) else (whittlelaw1_NumBacks.j0 k true a0_0 a0_1 a1_0 a1_1)) = some r := H
   have A9 := Aside0.mk A90
   clear A90
   by_cases c10 : t648 = true
   ·subst c10
    have H1 : ((whittlelaw1_right.f k a1_0 a1_1).bind fun t649 => (whittlelaw1_NumBacks.j0 k (!t649) a0_0 a0_1 a1_0 a1_1)) = some r := by rw [if_pos rfl] at H; exact H
    clear H
    have H := H1
    clear H1
    replace H := Option.bind_eq_some_iff.mp H
    obtain ⟨t649, A110, H⟩ := H
    replace H : (whittlelaw1_NumBacks.j0 k (!t649) a0_0 a0_1 a1_0 a1_1) = some r := H
    have A11 := Aside0.mk A110
    clear A110
    have H' := Aside0.mk H
    clear H
    obtain ⟨⟨hnc12, hnb12⟩, -⟩ := BX.out.apart 0 rfl
    have hcz13_0 : w8.cell? ⟨gb645, 0, none⟩ = some (.int .i64 a0_0) := (blk_cell (BX.out.get 1 rfl) 0).trans rfl
    have hcz13_1 : w8.cell? ⟨gb645, 1, none⟩ = some (.int .i64 a0_1) := (blk_cell (BX.out.get 1 rfl) 1).trans rfl
    have hfz13_0 := blk_frozen (BX.out.get 1 rfl) 0
    have hfz13_1 := blk_frozen (BX.out.get 1 rfl) 1
    go_wp2_with (first | ((with_reducible refine gate_callee (f := 31) rfl ?_); refine goesL_ (some 20) rfl rfl Tryd.func31 (by kernel_rfl) rfl #[.agg #[.int .i64 a0_0, .int .i64 a0_1]] rfl (by (try simp only [List.map_toArray, List.map_cons, List.map_nil]); first | done | rfl | (simp only [List.length_drop, List.length_take]; rfl)) ?_; (with_reducible refine (whittlelaw1_right.calls k a0_0 a0_1 true _ A9.out).mono ?_); rintro e w14 ⟨rfl, hb⟩; refine ⟨_, rfl, ?_⟩; have n0_ := Aside0.mk (Boxes.below (by (with_reducible repeat (first | apply boxes_drewN | apply boxes_drew | apply boxes_alloc)); exact BX.out) hb); have n1_ := Aside0.mk (below_step (by repeat (first | (with_reducible first | exact HB.out | apply below_alloc | apply pw_below_drewN | apply below_drew1 | refine below_set ?_ (Aside0.out (by assumption))) | exact HB.out)) hb); clear BX HB; have BX := n0_; have HB := n1_; clear n0_ n1_; (try clear hb); (try clear hb2); (try clear hk); (try clear hi); have hcz15_0 : w14.cell? ⟨gb646, 0, none⟩ = some (.int .i64 a1_0) := (blk_cell (BX.out.get 0 rfl) 0).trans rfl; have hcz15_1 : w14.cell? ⟨gb646, 1, none⟩ = some (.int .i64 a1_1) := (blk_cell (BX.out.get 0 rfl) 1).trans rfl; have hfz15_0 := blk_frozen (BX.out.get 0 rfl) 0; have hfz15_1 := blk_frozen (BX.out.get 0 rfl) 1) | (go_at_call 31; (with_reducible refine (whittlelaw1_right.calls k a1_0 a1_1 t649 _ A11.out).mono ?_); rintro e w16 ⟨rfl, hb⟩; have n0_ := Aside0.mk (Boxes.below (by (with_reducible repeat (first | apply boxes_drewN | apply boxes_drew | apply boxes_alloc)); exact BX.out) hb); have n1_ := Aside0.mk (below_step (by repeat (first | (with_reducible first | exact HB.out | apply below_alloc | apply pw_below_drewN | apply below_drew1 | refine below_set ?_ (Aside0.out (by assumption))) | exact HB.out)) hb); clear BX HB; have BX := n0_; have HB := n1_; clear n0_ n1_; (try clear hb); (try clear hb2); (try clear hk); (try clear hi)))
    go_meet
    case rel => exact ⟨_, (!t649), (by first | rfl | (simp; done) | (simp [*]; done) | (simp [bne_nil]; done)), H', ⟨by first | omega | exact Nat.le_refl _⟩, ⟨by (with_reducible repeat (first | apply boxes_drewN | apply boxes_drew | apply boxes_alloc)); exact BX.out⟩, ⟨by repeat (first | (with_reducible first | exact HB.out | apply below_alloc | apply pw_below_drewN | apply below_drew1 | refine below_set ?_ (Aside0.out (by assumption))) | exact HB.out)⟩⟩
   ·replace c10 := Bool.eq_false_iff.mpr c10
    subst c10
    have H1 : (whittlelaw1_NumBacks.j0 k true a0_0 a0_1 a1_0 a1_1) = some r := by rw [if_neg (show ¬ (false = true) by decide)] at H; exact H
    clear H
    have H := H1
    clear H1
    have H' := Aside0.mk H
    clear H
    obtain ⟨⟨hnc17, hnb17⟩, -⟩ := BX.out.apart 0 rfl
    have hcz18_0 : w8.cell? ⟨gb645, 0, none⟩ = some (.int .i64 a0_0) := (blk_cell (BX.out.get 1 rfl) 0).trans rfl
    have hcz18_1 : w8.cell? ⟨gb645, 1, none⟩ = some (.int .i64 a0_1) := (blk_cell (BX.out.get 1 rfl) 1).trans rfl
    have hfz18_0 := blk_frozen (BX.out.get 1 rfl) 0
    have hfz18_1 := blk_frozen (BX.out.get 1 rfl) 1
    go_wp2_with (first | ((with_reducible refine gate_callee (f := 31) rfl ?_); refine goesL_ (some 20) rfl rfl Tryd.func31 (by kernel_rfl) rfl #[.agg #[.int .i64 a0_0, .int .i64 a0_1]] rfl (by (try simp only [List.map_toArray, List.map_cons, List.map_nil]); first | done | rfl | (simp only [List.length_drop, List.length_take]; rfl)) ?_; (with_reducible refine (whittlelaw1_right.calls k a0_0 a0_1 false _ A9.out).mono ?_); rintro e w19 ⟨rfl, hb⟩; refine ⟨_, rfl, ?_⟩; have n0_ := Aside0.mk (Boxes.below (by (with_reducible repeat (first | apply boxes_drewN | apply boxes_drew | apply boxes_alloc)); exact BX.out) hb); have n1_ := Aside0.mk (below_step (by repeat (first | (with_reducible first | exact HB.out | apply below_alloc | apply pw_below_drewN | apply below_drew1 | refine below_set ?_ (Aside0.out (by assumption))) | exact HB.out)) hb); clear BX HB; have BX := n0_; have HB := n1_; clear n0_ n1_; (try clear hb); (try clear hb2); (try clear hk); (try clear hi)))
    go_meet
    case rel => exact ⟨_, (true), (by first | rfl | (simp; done) | (simp [*]; done) | (simp [bne_nil]; done)), H', ⟨by first | omega | exact Nat.le_refl _⟩, ⟨by (with_reducible repeat (first | apply boxes_drewN | apply boxes_drew | apply boxes_alloc)); exact BX.out⟩, ⟨by repeat (first | (with_reducible first | exact HB.out | apply below_alloc | apply pw_below_drewN | apply below_drew1 | refine below_set ?_ (Aside0.out (by assumption))) | exact HB.out)⟩⟩
  case rest =>
   clear HC5
   try clear c1
   try clear c2
   try clear p2
   try clear c3
   try clear c4
   try clear c10
   try clear c12
   try clear c15
   try clear c17
   try clear hcz13_0
   try clear hcz13_1
   try clear hcz15_0
   try clear hcz15_1
   try clear hcz18_0
   try clear hcz18_1
   try clear hfz13_0
   try clear hfz13_1
   try clear hfz15_0
   try clear hfz15_1
   try clear hfz18_0
   try clear hfz18_1
   obtain ⟨kq, x26_4, rfl, HA, HJ4, BX, HB⟩ := hcut
   cases kq with
   | zero => exact absurd HA.out (by simp [whittlelaw1_NumBacks.j0])
   | succ kj4 =>
    have H := HA.out
    clear HA
    simp only [whittlelaw1_NumBacks.j0] at H
    by_cases c20 : x26_4 = true
    ·subst c20
     have H1 : (some true) = some r := by rw [if_pos rfl] at H; exact H
     clear H
     have H := H1
     clear H1
     clear HR
     obtain rfl := Option.some.inj H
     go_wp2
     go_ret
     exact ⟨by first | rfl | (simp [errW_none, errW_some] <;> rfl) | (simp [*, errW_none, errW_some] <;> rfl), by repeat (first | (with_reducible first | exact HB.out | apply below_alloc | apply pw_below_drewN | apply below_drew1 | refine below_set ?_ (Aside0.out (by assumption))) | exact HB.out)⟩
    ·replace c20 := Bool.eq_false_iff.mpr c20
     subst c20
     have H1 : ((num_Add.f kj4 a0_0 a0_1 a1_0 a1_1).bind fun bt650 => (if bt650.2.2 = true then ((num_Sub.f kj4 bt650.1 bt650.2.1 a1_0 a1_1).bind fun bt654 => (if bt654.2.2 = true then (if (!(bt654.1 == a0_0) || (!(bt654.2.1 == a0_1))) = true then (some false) else (whittlelaw1_NumBacks.j1 kj4 a0_0 a0_1 a1_0 a1_1)) else (some false))) else (whittlelaw1_NumBacks.j1 kj4 a0_0 a0_1 a1_0 a1_1))) = some r := by rw [if_neg (show ¬ (false = true) by decide)] at H; exact H
     clear H
     have H := H1
     clear H1
     replace H := Option.bind_eq_some_iff.mp H
     obtain ⟨⟨t650, t651, t652⟩, A210, H⟩ := H
     replace H : (if t652 = true then ((num_Sub.f kj4 t650 t651 a1_0 a1_1).bind fun bt654 => (if bt654.2.2 = true then (if (!(bt654.1 == a0_0) || (!(bt654.2.1 == a0_1))) = true then (some false) else (whittlelaw1_NumBacks.j1 kj4 a0_0 a0_1 a1_0 a1_1)) else (some false))) else (whittlelaw1_NumBacks.j1 kj4 a0_0 a0_1 a1_0 a1_1)) = some r := H
     have A21 := Aside0.mk A210
     clear A210
     have HC22 := Aside0.mk H
     clear H
     obtain ⟨⟨hnc23, hnb23⟩, -⟩ := BX.out.apart 0 rfl
     have hcz24_0 : wc.cell? ⟨gb645, 0, none⟩ = some (.int .i64 a0_0) := (blk_cell (BX.out.get 1 rfl) 0).trans rfl
     have hcz24_1 : wc.cell? ⟨gb645, 1, none⟩ = some (.int .i64 a0_1) := (blk_cell (BX.out.get 1 rfl) 1).trans rfl
     have hfz24_0 := blk_frozen (BX.out.get 1 rfl) 0
     have hfz24_1 := blk_frozen (BX.out.get 1 rfl) 1
     have hcz25_0 : wc.cell? ⟨gb646, 0, none⟩ = some (.int .i64 a1_0) := (blk_cell (BX.out.get 0 rfl) 0).trans rfl
     have hcz25_1 : wc.cell? ⟨gb646, 1, none⟩ = some (.int .i64 a1_1) := (blk_cell (BX.out.get 0 rfl) 1).trans rfl
     have hfz25_0 := blk_frozen (BX.out.get 0 rfl) 0
     have hfz25_1 := blk_frozen (BX.out.get 0 rfl) 1
     go_upto_if 33 with (first | ((with_reducible refine gate_callee (f := 33) rfl ?_); refine goesL_ (some 30) rfl rfl Tryd.func33 (by kernel_rfl) rfl #[.agg #[.int .i64 a0_0, .int .i64 a0_1], .agg #[.int .i64 a1_0, .int .i64 a1_1]] rfl (by (try simp only [List.map_toArray, List.map_cons, List.map_nil]); first | done | rfl | (simp only [List.length_drop, List.length_take]; rfl)) ?_; (with_reducible refine (num_Add.calls kj4 a0_0 a0_1 a1_0 a1_1 t650 t651 t652 _ A21.out).mono ?_); rintro e w26 ⟨rfl, hb⟩; refine ⟨_, rfl, ?_⟩; have n0_ := Aside0.mk (Boxes.below (by (with_reducible repeat (first | apply boxes_drewN | apply boxes_drew | apply boxes_alloc)); exact BX.out) hb); have n1_ := Aside0.mk (below_step (by repeat (first | (with_reducible first | exact HB.out | apply below_alloc | apply pw_below_drewN | apply below_drew1 | refine below_set ?_ (Aside0.out (by assumption))) | exact HB.out)) hb); clear BX HB; have BX := n0_; have HB := n1_; clear n0_ n1_; (try clear hb); (try clear hb2); (try clear hk); (try clear hi)) | ((with_reducible refine gate_dst (N := 5) rfl ?_); refine box_event ?hg (N := 5) ?hd (cs := #[.int .i64 0, .int .i64 0]) (t := 23) ?hr ?_; (case hd => rfl); (case hg => rfl); (case hr => first | (go_simp; done) | (go_simp; rfl)); intro gb653 hg w27 hbox hb; have n0_ := Aside0.mk (Boxes.new (by (with_reducible repeat (first | apply boxes_drewN | apply boxes_drew | apply boxes_alloc)); exact BX.out) hg hbox hb (below_size (by repeat (first | (with_reducible first | exact HB.out | apply below_alloc | apply pw_below_drewN | apply below_drew1 | refine below_set ?_ (Aside0.out (by assumption))) | exact HB.out)))); have n1_ := Aside0.mk (below_step (by repeat (first | (with_reducible first | exact HB.out | apply below_alloc | apply pw_below_drewN | apply below_drew1 | refine below_set ?_ (Aside0.out (by assumption))) | exact HB.out)) hb); have n2_ := Aside0.mk ((by rw [hg]; exact (below_size (by repeat (first | (with_reducible first | exact HB.out | apply below_alloc | apply pw_below_drewN | apply below_drew1 | refine below_set ?_ (Aside0.out (by assumption))) | exact HB.out))) : w.heap.size ≤ gb653)); clear BX HB; have BX := n0_; have HB := n1_; have GE653 := n2_; clear n0_ n1_ n2_; clear hb hbox hg; obtain ⟨⟨hnb29, hnc29⟩, ⟨hnb28, hnc28⟩, -⟩ := BX.out.apart 0 rfl; have hcz30_0 : w27.cell? ⟨gb653, 0, none⟩ = some (.int .i64 0) := (blk_cell (BX.out.get 0 rfl) 0).trans rfl; have hcz30_1 : w27.cell? ⟨gb653, 1, none⟩ = some (.int .i64 0) := (blk_cell (BX.out.get 0 rfl) 1).trans rfl; have hfz30_0 := blk_frozen (BX.out.get 0 rfl) 0; have hfz30_1 := blk_frozen (BX.out.get 0 rfl) 1))
     (try simp only [Act.put, List.setIfInBounds_toArray, List.set_cons_zero, List.set_cons_succ])
     go_cut [] (fun wc => ∃ (kq : Nat), Aside0 (whittlelaw1_NumBacks.j1 kq a0_0 a0_1 a1_0 a1_1 = some r) ∧ Aside0 (kq ≤ kj4) ∧ Aside0 (Boxes w.heap.size wc [(gb653, 23, #[.int .i64 t650, .int .i64 t651]), (gb646, 23, #[.int .i64 a1_0, .int .i64 a1_1]), (gb645, 23, #[.int .i64 a0_0, .int .i64 a0_1])]) ∧ Aside0 (Below w.heap.size w wc))
     case first =>
      have H := HC22.out
      clear HC22
      by_cases c31 : t652 = true
      ·subst c31
       have H1 : ((num_Sub.f kj4 t650 t651 a1_0 a1_1).bind fun bt654 => (if bt654.2.2 = true then (if (!(bt654.1 == a0_0) || (!(bt654.2.1 == a0_1))) = true then (some false) else (whittlelaw1_NumBacks.j1 kj4 a0_0 a0_1 a1_0 a1_1)) else (some false))) = some r := by rw [if_pos rfl] at H; exact H
       clear H
       have H := H1
       clear H1
       replace H := Option.bind_eq_some_iff.mp H
       obtain ⟨⟨t654, t655, t656⟩, A320, H⟩ := H
       replace H : (if t656 = true then (if (!(t654 == a0_0) || (!(t655 == a0_1))) = true then (some false) else (whittlelaw1_NumBacks.j1 kj4 a0_0 a0_1 a1_0 a1_1)) else (some false)) = some r := H
       have A32 := Aside0.mk A320
       clear A320
       by_cases c33 : t656 = true
       ·subst c33
        have H1 : (if (!(t654 == a0_0) || (!(t655 == a0_1))) = true then (some false) else (whittlelaw1_NumBacks.j1 kj4 a0_0 a0_1 a1_0 a1_1)) = some r := by rw [if_pos rfl] at H; exact H
        clear H
        have H := H1
        clear H1
        by_cases c34 : (!(t654 == a0_0) || (!(t655 == a0_1))) = true
        ·rw [if_pos c34] at H
         have c34b0 : (!(t654 == a0_0) || (!(t655 == a0_1))) = true := c34
         clear c34
         (first | rw [c34b0] | (simp only [i64_w, i32_w]; rw [c34b0]) | skip)
         exact absurd (Option.some.inj H) (by rw [HR.out]; decide)
        ·rw [if_neg c34] at H
         have c34b0 : (!(t654 == a0_0) || (!(t655 == a0_1))) = false := by simpa using c34
         clear c34
         (first | rw [c34b0] | (simp only [i64_w, i32_w]; rw [c34b0]) | skip)
         have H' := Aside0.mk H
         clear H
         obtain ⟨⟨hnb36, hnc36⟩, ⟨hnb35, hnc35⟩, -⟩ := BX.out.apart 0 rfl
         have hcz37_0 : w27.cell? ⟨gb653, 0, none⟩ = some (.int .i64 0) := (blk_cell (BX.out.get 0 rfl) 0).trans rfl
         have hcz37_1 : w27.cell? ⟨gb653, 1, none⟩ = some (.int .i64 0) := (blk_cell (BX.out.get 0 rfl) 1).trans rfl
         have hfz37_0 := blk_frozen (BX.out.get 0 rfl) 0
         have hfz37_1 := blk_frozen (BX.out.get 0 rfl) 1
         obtain ⟨-, ⟨hnb38, hnc38⟩, -⟩ := BX.out.apart 1 rfl
         have hcz39_0 : w27.cell? ⟨gb646, 0, none⟩ = some (.int .i64 a1_0) := (blk_cell (BX.out.get 1 rfl) 0).trans rfl
         have hcz39_1 : w27.cell? ⟨gb646, 1, none⟩ = some (.int .i64 a1_1) := (blk_cell (BX.out.get 1 rfl) 1).trans rfl
         have hfz39_0 := blk_frozen (BX.out.get 1 rfl) 0
         have hfz39_1 := blk_frozen (BX.out.get 1 rfl) 1
         go_wp2_with (first | ((with_reducible refine gate_callee (f := 35) rfl ?_); refine goesL_ (some 37) rfl rfl Tryd.func35 (by kernel_rfl) rfl #[.agg #[.int .i64 t650, .int .i64 t651], .agg #[.int .i64 a1_0, .int .i64 a1_1]] rfl (by (try simp only [List.map_toArray, List.map_cons, List.map_nil]); first | done | rfl | (simp only [List.length_drop, List.length_take]; rfl)) ?_; (with_reducible refine (num_Sub.calls kj4 t650 t651 a1_0 a1_1 t654 t655 true _ A32.out).mono ?_); rintro e w40 ⟨rfl, hb⟩; refine ⟨_, rfl, ?_⟩; have n0_ : Aside0 (Boxes w.heap.size _ ((gb653, 23, #[.int .i64 t650, .int .i64 t651]) :: _)) := ⟨Boxes.below (by (with_reducible repeat (first | apply boxes_drewN | apply boxes_drew | apply boxes_alloc)); apply boxes_put 0; (with_reducible repeat (first | apply boxes_drewN | apply boxes_drew | apply boxes_alloc)); apply boxes_put 0; (with_reducible repeat (first | apply boxes_drewN | apply boxes_drew | apply boxes_alloc)); exact BX.out; any_goals rfl) hb⟩; have n1_ := Aside0.mk (below_step (by repeat (first | (with_reducible first | exact HB.out | apply below_alloc | apply pw_below_drewN | apply below_drew1 | refine below_set ?_ (Aside0.out (by assumption))) | exact HB.out)) hb); clear BX HB; have BX := n0_; have HB := n1_; clear n0_ n1_; (try clear hb); (try clear hb2); (try clear hk); (try clear hi)) | ((with_reducible refine gate_dst (N := 7) rfl ?_); refine box_event ?hg (N := 7) ?hd (cs := #[.int .i64 0, .int .i64 0]) (t := 23) ?hr ?_; (case hd => rfl); (case hg => rfl); (case hr => first | (go_simp; done) | (go_simp; rfl)); intro gb657 hg w41 hbox hb; have n0_ := Aside0.mk (Boxes.new (by (with_reducible repeat (first | apply boxes_drewN | apply boxes_drew | apply boxes_alloc)); exact BX.out) hg hbox hb (below_size (by repeat (first | (with_reducible first | exact HB.out | apply below_alloc | apply pw_below_drewN | apply below_drew1 | refine below_set ?_ (Aside0.out (by assumption))) | exact HB.out)))); have n1_ := Aside0.mk (below_step (by repeat (first | (with_reducible first | exact HB.out | apply below_alloc | apply pw_below_drewN | apply below_drew1 | refine below_set ?_ (Aside0.out (by assumption))) | exact HB.out)) hb); have n2_ := Aside0.mk ((by rw [hg]; exact (below_size (by repeat (first | (with_reducible first | exact HB.out | apply below_alloc | apply pw_below_drewN | apply below_drew1 | refine below_set ?_ (Aside0.out (by assumption))) | exact HB.out))) : w.heap.size ≤ gb657)); clear BX HB; have BX := n0_; have HB := n1_; have GE657 := n2_; clear n0_ n1_ n2_; clear hb hbox hg; obtain ⟨⟨hnb44, hnc44⟩, ⟨hnb43, hnc43⟩, ⟨hnb42, hnc42⟩, -⟩ := BX.out.apart 0 rfl; have hcz45_0 : w41.cell? ⟨gb657, 0, none⟩ = some (.int .i64 0) := (blk_cell (BX.out.get 0 rfl) 0).trans rfl; have hcz45_1 : w41.cell? ⟨gb657, 1, none⟩ = some (.int .i64 0) := (blk_cell (BX.out.get 0 rfl) 1).trans rfl; have hfz45_0 := blk_frozen (BX.out.get 0 rfl) 0; have hfz45_1 := blk_frozen (BX.out.get 0 rfl) 1; have hcz46_0 : w41.cell? ⟨gb645, 0, none⟩ = some (.int .i64 a0_0) := (blk_cell (BX.out.get 3 rfl) 0).trans rfl; have hcz46_1 : w41.cell? ⟨gb645, 1, none⟩ = some (.int .i64 a0_1) := (blk_cell (BX.out.get 3 rfl) 1).trans rfl; have hfz46_0 := blk_frozen (BX.out.get 3 rfl) 0; have hfz46_1 := blk_frozen (BX.out.get 3 rfl) 1))
         go_meet
         case rel => exact ⟨_, H', ⟨by have := HJ4.out; first | omega | exact Nat.le_refl _⟩, ⟨by apply boxes_sub; (with_reducible repeat (first | apply boxes_drewN | apply boxes_drew | apply boxes_alloc)); apply boxes_put 0; (with_reducible repeat (first | apply boxes_drewN | apply boxes_drew | apply boxes_alloc)); apply boxes_put 0; (with_reducible repeat (first | apply boxes_drewN | apply boxes_drew | apply boxes_alloc)); exact BX.out; (any_goals rfl); repeat first | exact SubB.nil | apply SubB.same | apply SubB.skip⟩, ⟨by repeat (first | (with_reducible first | exact HB.out | apply below_alloc | apply pw_below_drewN | apply below_drew1 | refine below_set ?_ (Aside0.out (by assumption))) | exact HB.out)⟩⟩
       ·replace c33 := Bool.eq_false_iff.mpr c33
        subst c33
        have H1 : (some false) = some r := by rw [if_neg (show ¬ (false = true) by decide)] at H; exact H
        clear H
        have H := H1
        clear H1
        exact absurd (Option.some.inj H) (by rw [HR.out]; decide)
      ·replace c31 := Bool.eq_false_iff.mpr c31
       subst c31
       have H1 : (whittlelaw1_NumBacks.j1 kj4 a0_0 a0_1 a1_0 a1_1) = some r := by rw [if_neg (show ¬ (false = true) by decide)] at H; exact H
       clear H
       have H := H1
       clear H1
       have H' := Aside0.mk H
       clear H
       go_wp2
       go_meet
       case rel => exact ⟨_, H', ⟨by have := HJ4.out; first | omega | exact Nat.le_refl _⟩, ⟨by (with_reducible repeat (first | apply boxes_drewN | apply boxes_drew | apply boxes_alloc)); apply boxes_put 0; (with_reducible repeat (first | apply boxes_drewN | apply boxes_drew | apply boxes_alloc)); apply boxes_put 0; (with_reducible repeat (first | apply boxes_drewN | apply boxes_drew | apply boxes_alloc)); exact BX.out; any_goals rfl⟩, ⟨by repeat (first | (with_reducible first | exact HB.out | apply below_alloc | apply pw_below_drewN | apply below_drew1 | refine below_set ?_ (Aside0.out (by assumption))) | exact HB.out)⟩⟩
     case rest =>
      clear HC22
      try clear c1
      try clear c2
      try clear p2
      try clear c3
      try clear c4
      try clear c10
      try clear c12
      try clear c15
      try clear c17
      try clear c20
      try clear c22
      try clear c23
      try clear c28
      try clear c29
      try clear c31
      try clear c33
      try clear c34
      try clear c34b0
      try clear c35
      try clear c36
      try clear c38
      try clear c42
      try clear c43
      try clear c44
      try clear hcz13_0
      try clear hcz13_1
      try clear hcz15_0
      try clear hcz15_1
      try clear hcz18_0
      try clear hcz18_1
      try clear hcz24_0
      try clear hcz24_1
      try clear hcz25_0
      try clear hcz25_1
      try clear hcz30_0
      try clear hcz30_1
      try clear hcz37_0
      try clear hcz37_1
      try clear hcz39_0
      try clear hcz39_1
      try clear hcz45_0
      try clear hcz45_1
      try clear hcz46_0
      try clear hcz46_1
      try clear hfz13_0
      try clear hfz13_1
      try clear hfz15_0
      try clear hfz15_1
      try clear hfz18_0
      try clear hfz18_1
      try clear hfz24_0
      try clear hfz24_1
      try clear hfz25_0
      try clear hfz25_1
      try clear hfz30_0
      try clear hfz30_1
      try clear hfz37_0
      try clear hfz37_1
      try clear hfz39_0
      try clear hfz39_1
      try clear hfz45_0
      try clear hfz45_1
      try clear hfz46_0
      try clear hfz46_1
      try clear p2
      obtain ⟨kq, HA, HJ21, BX, HB⟩ := hcut
      cases kq with
      | zero => exact absurd HA.out (by simp [whittlelaw1_NumBacks.j1])
      | succ kj21 =>
       have H := HA.out
       clear HA
       simp only [whittlelaw1_NumBacks.j1] at H
       replace H := Option.bind_eq_some_iff.mp H
       obtain ⟨⟨t658, t659, t660⟩, A470, H⟩ := H
       replace H : (if t660 = true then (whittlelaw1_NumBacks.j2 kj21 (a1_0 != 0) a0_0 a0_1 a1_0 a1_1 t658 t659) else (whittlelaw1_NumBacks.j2 kj21 false a0_0 a0_1 a1_0 a1_1 t658 t659)) = some r := H
       have A47 := Aside0.mk A470
       clear A470
       have HC48 := Aside0.mk H
       clear H
       obtain ⟨⟨hnb50, hnc50⟩, ⟨hnb49, hnc49⟩, -⟩ := BX.out.apart 2 rfl
       have hcz51_0 : wc.cell? ⟨gb645, 0, none⟩ = some (.int .i64 a0_0) := (blk_cell (BX.out.get 2 rfl) 0).trans rfl
       have hcz51_1 : wc.cell? ⟨gb645, 1, none⟩ = some (.int .i64 a0_1) := (blk_cell (BX.out.get 2 rfl) 1).trans rfl
       have hfz51_0 := blk_frozen (BX.out.get 2 rfl) 0
       have hfz51_1 := blk_frozen (BX.out.get 2 rfl) 1
       obtain ⟨⟨hnc52, hnb52⟩, -⟩ := BX.out.apart 0 rfl
       have hcz53_0 : wc.cell? ⟨gb646, 0, none⟩ = some (.int .i64 a1_0) := (blk_cell (BX.out.get 1 rfl) 0).trans rfl
       have hcz53_1 : wc.cell? ⟨gb646, 1, none⟩ = some (.int .i64 a1_1) := (blk_cell (BX.out.get 1 rfl) 1).trans rfl
       have hfz53_0 := blk_frozen (BX.out.get 1 rfl) 0
       have hfz53_1 := blk_frozen (BX.out.get 1 rfl) 1
       go_upto_region 11 with (first | ((with_reducible refine gate_callee (f := 39) rfl ?_); refine goesL_ (some 50) rfl rfl Tryd.func39 (by kernel_rfl) rfl #[.agg #[.int .i64 a0_0, .int .i64 a0_1], .agg #[.int .i64 a1_0, .int .i64 a1_1]] rfl (by (try simp only [List.map_toArray, List.map_cons, List.map_nil]); first | done | rfl | (simp only [List.length_drop, List.length_take]; rfl)) ?_; (with_reducible refine (num_Mul.calls kj21 a0_0 a0_1 a1_0 a1_1 t658 t659 t660 _ A47.out).mono ?_); rintro e w54 ⟨rfl, hb⟩; refine ⟨_, rfl, ?_⟩; have n0_ := Aside0.mk (Boxes.below (by (with_reducible repeat (first | apply boxes_drewN | apply boxes_drew | apply boxes_alloc)); exact BX.out) hb); have n1_ := Aside0.mk (below_step (by repeat (first | (with_reducible first | exact HB.out | apply below_alloc | apply pw_below_drewN | apply below_drew1 | refine below_set ?_ (Aside0.out (by assumption))) | exact HB.out)) hb); clear BX HB; have BX := n0_; have HB := n1_; clear n0_ n1_; (try clear hb); (try clear hb2); (try clear hk); (try clear hi)) | ((with_reducible refine gate_dst (N := 9) rfl ?_); refine box_event ?hg (N := 9) ?hd (cs := #[.int .i64 0, .int .i64 0]) (t := 23) ?hr ?_; (case hd => rfl); (case hg => rfl); (case hr => first | (go_simp; done) | (go_simp; rfl)); intro gb661 hg w55 hbox hb; have n0_ := Aside0.mk (Boxes.new (by (with_reducible repeat (first | apply boxes_drewN | apply boxes_drew | apply boxes_alloc)); exact BX.out) hg hbox hb (below_size (by repeat (first | (with_reducible first | exact HB.out | apply below_alloc | apply pw_below_drewN | apply below_drew1 | refine below_set ?_ (Aside0.out (by assumption))) | exact HB.out)))); have n1_ := Aside0.mk (below_step (by repeat (first | (with_reducible first | exact HB.out | apply below_alloc | apply pw_below_drewN | apply below_drew1 | refine below_set ?_ (Aside0.out (by assumption))) | exact HB.out)) hb); have n2_ := Aside0.mk ((by rw [hg]; exact (below_size (by repeat (first | (with_reducible first | exact HB.out | apply below_alloc | apply pw_below_drewN | apply below_drew1 | refine below_set ?_ (Aside0.out (by assumption))) | exact HB.out))) : w.heap.size ≤ gb661)); clear BX HB; have BX := n0_; have HB := n1_; have GE661 := n2_; clear n0_ n1_ n2_; clear hb hbox hg; obtain ⟨⟨hnb58, hnc58⟩, ⟨hnb57, hnc57⟩, ⟨hnb56, hnc56⟩, -⟩ := BX.out.apart 0 rfl; have hcz59_0 : w55.cell? ⟨gb661, 0, none⟩ = some (.int .i64 0) := (blk_cell (BX.out.get 0 rfl) 0).trans rfl; have hcz59_1 : w55.cell? ⟨gb661, 1, none⟩ = some (.int .i64 0) := (blk_cell (BX.out.get 0 rfl) 1).trans rfl; have hfz59_0 := blk_frozen (BX.out.get 0 rfl) 0; have hfz59_1 := blk_frozen (BX.out.get 0 rfl) 1))
       (try simp only [Act.put, List.setIfInBounds_toArray, List.set_cons_zero, List.set_cons_succ])
       go_cut [58] (fun v58 wc => ∃ (kq : Nat) (x58_47 : Bool), v58 = .bool x58_47 ∧ Aside0 (whittlelaw1_NumBacks.j2 kq x58_47 a0_0 a0_1 a1_0 a1_1 t658 t659 = some r) ∧ Aside0 (kq ≤ kj21) ∧ Aside0 (Boxes w.heap.size wc [(gb661, 23, #[.int .i64 t658, .int .i64 t659]), (gb653, 23, #[.int .i64 t650, .int .i64 t651]), (gb646, 23, #[.int .i64 a1_0, .int .i64 a1_1]), (gb645, 23, #[.int .i64 a0_0, .int .i64 a0_1])]) ∧ Aside0 (Below w.heap.size w wc))
       case first =>
        have H := HC48.out
        clear HC48
        by_cases c60 : t660 = true
        ·subst c60
         have H1 : (whittlelaw1_NumBacks.j2 kj21 (a1_0 != 0) a0_0 a0_1 a1_0 a1_1 t658 t659) = some r := by rw [if_pos rfl] at H; exact H
         clear H
         have H := H1
         clear H1
         have H' := Aside0.mk H
         clear H
         obtain ⟨⟨hnb63, hnc63⟩, ⟨hnb62, hnc62⟩, ⟨hnb61, hnc61⟩, -⟩ := BX.out.apart 2 rfl
         have hcz64_0 : w55.cell? ⟨gb646, 0, none⟩ = some (.int .i64 a1_0) := (blk_cell (BX.out.get 2 rfl) 0).trans rfl
         have hcz64_1 : w55.cell? ⟨gb646, 1, none⟩ = some (.int .i64 a1_1) := (blk_cell (BX.out.get 2 rfl) 1).trans rfl
         have hfz64_0 := blk_frozen (BX.out.get 2 rfl) 0
         have hfz64_1 := blk_frozen (BX.out.get 2 rfl) 1
         go_wp2
         go_meet
         case rel => exact ⟨_, ((a1_0 != 0)), (by first | rfl | (simp; done) | (simp [*]; done) | (simp [bne_nil]; done)), H', ⟨by have := HJ4.out; have := HJ21.out; first | omega | exact Nat.le_refl _⟩, ⟨by (with_reducible repeat (first | apply boxes_drewN | apply boxes_drew | apply boxes_alloc)); apply boxes_put 0; (with_reducible repeat (first | apply boxes_drewN | apply boxes_drew | apply boxes_alloc)); apply boxes_put 0; (with_reducible repeat (first | apply boxes_drewN | apply boxes_drew | apply boxes_alloc)); exact BX.out; any_goals rfl⟩, ⟨by repeat (first | (with_reducible first | exact HB.out | apply below_alloc | apply pw_below_drewN | apply below_drew1 | refine below_set ?_ (Aside0.out (by assumption))) | exact HB.out)⟩⟩
        ·replace c60 := Bool.eq_false_iff.mpr c60
         subst c60
         have H1 : (whittlelaw1_NumBacks.j2 kj21 false a0_0 a0_1 a1_0 a1_1 t658 t659) = some r := by rw [if_neg (show ¬ (false = true) by decide)] at H; exact H
         clear H
         have H := H1
         clear H1
         have H' := Aside0.mk H
         clear H
         go_wp2
         go_meet
         case rel => exact ⟨_, (false), (by first | rfl | (simp; done) | (simp [*]; done) | (simp [bne_nil]; done)), H', ⟨by have := HJ4.out; have := HJ21.out; first | omega | exact Nat.le_refl _⟩, ⟨by (with_reducible repeat (first | apply boxes_drewN | apply boxes_drew | apply boxes_alloc)); apply boxes_put 0; (with_reducible repeat (first | apply boxes_drewN | apply boxes_drew | apply boxes_alloc)); apply boxes_put 0; (with_reducible repeat (first | apply boxes_drewN | apply boxes_drew | apply boxes_alloc)); exact BX.out; any_goals rfl⟩, ⟨by repeat (first | (with_reducible first | exact HB.out | apply below_alloc | apply pw_below_drewN | apply below_drew1 | refine below_set ?_ (Aside0.out (by assumption))) | exact HB.out)⟩⟩
       case rest =>
        clear HC48
        try clear c1
        try clear c2
        try clear p2
        try clear c3
        try clear c4
        try clear c5
        try clear c6
        try clear c10
        try clear c12
        try clear c15
        try clear c17
        try clear c20
        try clear c22
        try clear c23
        try clear c28
        try clear c29
        try clear c31
        try clear c33
        try clear c34
        try clear c34b0
        try clear c35
        try clear c36
        try clear c38
        try clear c39
        try clear c42
        try clear c43
        try clear c44
        try clear c49
        try clear c50
        try clear c52
        try clear c56
        try clear c57
        try clear c58
        try clear c60
        try clear c61
        try clear c62
        try clear c63
        try clear hcz13_0
        try clear hcz13_1
        try clear hcz15_0
        try clear hcz15_1
        try clear hcz18_0
        try clear hcz18_1
        try clear hcz24_0
        try clear hcz24_1
        try clear hcz25_0
        try clear hcz25_1
        try clear hcz30_0
        try clear hcz30_1
        try clear hcz37_0
        try clear hcz37_1
        try clear hcz39_0
        try clear hcz39_1
        try clear hcz45_0
        try clear hcz45_1
        try clear hcz46_0
        try clear hcz46_1
        try clear hcz51_0
        try clear hcz51_1
        try clear hcz53_0
        try clear hcz53_1
        try clear hcz59_0
        try clear hcz59_1
        try clear hcz64_0
        try clear hcz64_1
        try clear hfz13_0
        try clear hfz13_1
        try clear hfz15_0
        try clear hfz15_1
        try clear hfz18_0
        try clear hfz18_1
        try clear hfz24_0
        try clear hfz24_1
        try clear hfz25_0
        try clear hfz25_1
        try clear hfz30_0
        try clear hfz30_1
        try clear hfz37_0
        try clear hfz37_1
        try clear hfz39_0
        try clear hfz39_1
        try clear hfz45_0
        try clear hfz45_1
        try clear hfz46_0
        try clear hfz46_1
        try clear hfz51_0
        try clear hfz51_1
        try clear hfz53_0
        try clear hfz53_1
        try clear hfz59_0
        try clear hfz59_1
        try clear hfz64_0
        try clear hfz64_1
        try clear p2
        obtain ⟨kq, x58_47, rfl, HA, HJ47, BX, HB⟩ := hcut
        cases kq with
        | zero => exact absurd HA.out (by simp [whittlelaw1_NumBacks.j2])
        | succ kj47 =>
         have H := HA.out
         clear HA
         simp only [whittlelaw1_NumBacks.j2] at H
         have HC65 := Aside0.mk H
         clear H
         go_upto_if 58 with (fail)
         go_cut [] (fun wc => ∃ (kq : Nat), Aside0 (whittlelaw1_NumBacks.j3 kq a0_0 a0_1 = some r) ∧ Aside0 (kq ≤ kj47) ∧ Aside0 (Boxes w.heap.size wc [(gb661, 23, #[.int .i64 t658, .int .i64 t659]), (gb653, 23, #[.int .i64 t650, .int .i64 t651]), (gb646, 23, #[.int .i64 a1_0, .int .i64 a1_1]), (gb645, 23, #[.int .i64 a0_0, .int .i64 a0_1])]) ∧ Aside0 (Below w.heap.size w wc))
         case first =>
          have H := HC65.out
          clear HC65
          by_cases c66 : x58_47 = true
          ·subst c66
           have H1 : ((num_Div.f kj47 t658 t659 a1_0 a1_1).bind fun bt662 => (if bt662.2.2 = true then (if (!(bt662.1 == a0_0) || (!(bt662.2.1 == a0_1))) = true then (some false) else (whittlelaw1_NumBacks.j3 kj47 a0_0 a0_1)) else (some false))) = some r := by rw [if_pos rfl] at H; exact H
           clear H
           have H := H1
           clear H1
           replace H := Option.bind_eq_some_iff.mp H
           obtain ⟨⟨t662, t663, t664⟩, A670, H⟩ := H
           replace H : (if t664 = true then (if (!(t662 == a0_0) || (!(t663 == a0_1))) = true then (some false) else (whittlelaw1_NumBacks.j3 kj47 a0_0 a0_1)) else (some false)) = some r := H
           have A67 := Aside0.mk A670
           clear A670
           by_cases c68 : t664 = true
           ·subst c68
            have H1 : (if (!(t662 == a0_0) || (!(t663 == a0_1))) = true then (some false) else (whittlelaw1_NumBacks.j3 kj47 a0_0 a0_1)) = some r := by rw [if_pos rfl] at H; exact H
            clear H
            have H := H1
            clear H1
            by_cases c69 : (!(t662 == a0_0) || (!(t663 == a0_1))) = true
            ·rw [if_pos c69] at H
             have c69b0 : (!(t662 == a0_0) || (!(t663 == a0_1))) = true := c69
             clear c69
             (first | rw [c69b0] | (simp only [i64_w, i32_w]; rw [c69b0]) | skip)
             exact absurd (Option.some.inj H) (by rw [HR.out]; decide)
            ·rw [if_neg c69] at H
             have c69b0 : (!(t662 == a0_0) || (!(t663 == a0_1))) = false := by simpa using c69
             clear c69
             (first | rw [c69b0] | (simp only [i64_w, i32_w]; rw [c69b0]) | skip)
             have H' := Aside0.mk H
             clear H
             obtain ⟨⟨hnb72, hnc72⟩, ⟨hnb71, hnc71⟩, ⟨hnb70, hnc70⟩, -⟩ := BX.out.apart 0 rfl
             have hcz73_0 : wc.cell? ⟨gb661, 0, none⟩ = some (.int .i64 t658) := (blk_cell (BX.out.get 0 rfl) 0).trans rfl
             have hcz73_1 : wc.cell? ⟨gb661, 1, none⟩ = some (.int .i64 t659) := (blk_cell (BX.out.get 0 rfl) 1).trans rfl
             have hfz73_0 := blk_frozen (BX.out.get 0 rfl) 0
             have hfz73_1 := blk_frozen (BX.out.get 0 rfl) 1
             obtain ⟨-, ⟨hnb75, hnc75⟩, ⟨hnb74, hnc74⟩, -⟩ := BX.out.apart 2 rfl
             have hcz76_0 : wc.cell? ⟨gb646, 0, none⟩ = some (.int .i64 a1_0) := (blk_cell (BX.out.get 2 rfl) 0).trans rfl
             have hcz76_1 : wc.cell? ⟨gb646, 1, none⟩ = some (.int .i64 a1_1) := (blk_cell (BX.out.get 2 rfl) 1).trans rfl
             have hfz76_0 := blk_frozen (BX.out.get 2 rfl) 0
             have hfz76_1 := blk_frozen (BX.out.get 2 rfl) 1
             go_wp2_with (first | ((with_reducible refine gate_callee (f := 41) rfl ?_); refine goesL_ (some 62) rfl rfl Tryd.func41 (by kernel_rfl) rfl #[.agg #[.int .i64 t658, .int .i64 t659], .agg #[.int .i64 a1_0, .int .i64 a1_1]] rfl (by (try simp only [List.map_toArray, List.map_cons, List.map_nil]); first | done | rfl | (simp only [List.length_drop, List.length_take]; rfl)) ?_; (with_reducible refine (num_Div.calls kj47 t658 t659 a1_0 a1_1 t662 t663 true _ A67.out).mono ?_); rintro e w77 ⟨rfl, hb⟩; refine ⟨_, rfl, ?_⟩; have n0_ := Aside0.mk (Boxes.below (by (with_reducible repeat (first | apply boxes_drewN | apply boxes_drew | apply boxes_alloc)); exact BX.out) hb); have n1_ := Aside0.mk (below_step (by repeat (first | (with_reducible first | exact HB.out | apply below_alloc | apply pw_below_drewN | apply below_drew1 | refine below_set ?_ (Aside0.out (by assumption))) | exact HB.out)) hb); clear BX HB; have BX := n0_; have HB := n1_; clear n0_ n1_; (try clear hb); (try clear hb2); (try clear hk); (try clear hi)) | ((with_reducible refine gate_dst (N := 11) rfl ?_); refine box_event ?hg (N := 11) ?hd (cs := #[.int .i64 0, .int .i64 0]) (t := 23) ?hr ?_; (case hd => rfl); (case hg => rfl); (case hr => first | (go_simp; done) | (go_simp; rfl)); intro gb665 hg w78 hbox hb; have n0_ := Aside0.mk (Boxes.new (by (with_reducible repeat (first | apply boxes_drewN | apply boxes_drew | apply boxes_alloc)); exact BX.out) hg hbox hb (below_size (by repeat (first | (with_reducible first | exact HB.out | apply below_alloc | apply pw_below_drewN | apply below_drew1 | refine below_set ?_ (Aside0.out (by assumption))) | exact HB.out)))); have n1_ := Aside0.mk (below_step (by repeat (first | (with_reducible first | exact HB.out | apply below_alloc | apply pw_below_drewN | apply below_drew1 | refine below_set ?_ (Aside0.out (by assumption))) | exact HB.out)) hb); have n2_ := Aside0.mk ((by rw [hg]; exact (below_size (by repeat (first | (with_reducible first | exact HB.out | apply below_alloc | apply pw_below_drewN | apply below_drew1 | refine below_set ?_ (Aside0.out (by assumption))) | exact HB.out))) : w.heap.size ≤ gb665)); clear BX HB; have BX := n0_; have HB := n1_; have GE665 := n2_; clear n0_ n1_ n2_; clear hb hbox hg; obtain ⟨⟨hnb82, hnc82⟩, ⟨hnb81, hnc81⟩, ⟨hnb80, hnc80⟩, ⟨hnb79, hnc79⟩, -⟩ := BX.out.apart 0 rfl; have hcz83_0 : w78.cell? ⟨gb665, 0, none⟩ = some (.int .i64 0) := (blk_cell (BX.out.get 0 rfl) 0).trans rfl; have hcz83_1 : w78.cell? ⟨gb665, 1, none⟩ = some (.int .i64 0) := (blk_cell (BX.out.get 0 rfl) 1).trans rfl; have hfz83_0 := blk_frozen (BX.out.get 0 rfl) 0; have hfz83_1 := blk_frozen (BX.out.get 0 rfl) 1; obtain ⟨-, -, -, ⟨hnc84, hnb84⟩, -⟩ := BX.out.apart 2 rfl; have hcz85_0 : w78.cell? ⟨gb645, 0, none⟩ = some (.int .i64 a0_0) := (blk_cell (BX.out.get 4 rfl) 0).trans rfl; have hcz85_1 : w78.cell? ⟨gb645, 1, none⟩ = some (.int .i64 a0_1) := (blk_cell (BX.out.get 4 rfl) 1).trans rfl; have hfz85_0 := blk_frozen (BX.out.get 4 rfl) 0; have hfz85_1 := blk_frozen (BX.out.get 4 rfl) 1))
             go_meet
             case rel => exact ⟨_, H', ⟨by have := HJ4.out; have := HJ21.out; have := HJ47.out; first | omega | exact Nat.le_refl _⟩, ⟨by apply boxes_sub; (with_reducible repeat (first | apply boxes_drewN | apply boxes_drew | apply boxes_alloc)); apply boxes_put 0; (with_reducible repeat (first | apply boxes_drewN | apply boxes_drew | apply boxes_alloc)); apply boxes_put 0; (with_reducible repeat (first | apply boxes_drewN | apply boxes_drew | apply boxes_alloc)); exact BX.out; (any_goals rfl); repeat first | exact SubB.nil | apply SubB.same | apply SubB.skip⟩, ⟨by repeat (first | (with_reducible first | exact HB.out | apply below_alloc | apply pw_below_drewN | apply below_drew1 | refine below_set ?_ (Aside0.out (by assumption))) | exact HB.out)⟩⟩
           ·replace c68 := Bool.eq_false_iff.mpr c68
            subst c68
            have H1 : (some false) = some r := by rw [if_neg (show ¬ (false = true) by decide)] at H; exact H
            clear H
            have H := H1
            clear H1
            exact absurd (Option.some.inj H) (by rw [HR.out]; decide)
          ·replace c66 := Bool.eq_false_iff.mpr c66
           subst c66
           have H1 : (whittlelaw1_NumBacks.j3 kj47 a0_0 a0_1) = some r := by rw [if_neg (show ¬ (false = true) by decide)] at H; exact H
           clear H
           have H := H1
           clear H1
           have H' := Aside0.mk H
           clear H
           go_wp2
           go_meet
           case rel => exact ⟨_, H', ⟨by have := HJ4.out; have := HJ21.out; have := HJ47.out; first | omega | exact Nat.le_refl _⟩, ⟨by (with_reducible repeat (first | apply boxes_drewN | apply boxes_drew | apply boxes_alloc)); exact BX.out⟩, ⟨by repeat (first | (with_reducible first | exact HB.out | apply below_alloc | apply pw_below_drewN | apply below_drew1 | refine below_set ?_ (Aside0.out (by assumption))) | exact HB.out)⟩⟩
         case rest =>
          clear HC65
          try clear c1
          try clear c2
          try clear p2
          try clear c3
          try clear c4
          try clear c5
          try clear c6
          try clear c7
          try clear c8
          try clear c10
          try clear c12
          try clear c15
          try clear c17
          try clear c20
          try clear c22
          try clear c23
          try clear c28
          try clear c29
          try clear c31
          try clear c33
          try clear c34
          try clear c34b0
          try clear c35
          try clear c36
          try clear c38
          try clear c39
          try clear c41
          try clear c42
          try clear c43
          try clear c44
          try clear c49
          try clear c50
          try clear c52
          try clear c56
          try clear c57
          try clear c58
          try clear c60
          try clear c61
          try clear c62
          try clear c63
          try clear c66
          try clear c68
          try clear c69
          try clear c69b0
          try clear c70
          try clear c71
          try clear c72
          try clear c74
          try clear c75
          try clear c79
          try clear c80
          try clear c81
          try clear c82
          try clear c84
          try clear hcz13_0
          try clear hcz13_1
          try clear hcz15_0
          try clear hcz15_1
          try clear hcz18_0
          try clear hcz18_1
          try clear hcz24_0
          try clear hcz24_1
          try clear hcz25_0
          try clear hcz25_1
          try clear hcz30_0
          try clear hcz30_1
          try clear hcz37_0
          try clear hcz37_1
          try clear hcz39_0
          try clear hcz39_1
          try clear hcz45_0
          try clear hcz45_1
          try clear hcz46_0
          try clear hcz46_1
          try clear hcz51_0
          try clear hcz51_1
          try clear hcz53_0
          try clear hcz53_1
          try clear hcz59_0
          try clear hcz59_1
          try clear hcz64_0
          try clear hcz64_1
          try clear hcz73_0
          try clear hcz73_1
          try clear hcz76_0
          try clear hcz76_1
          try clear hcz83_0
          try clear hcz83_1
          try clear hcz85_0
          try clear hcz85_1
          try clear hfz13_0
          try clear hfz13_1
          try clear hfz15_0
          try clear hfz15_1
          try clear hfz18_0
          try clear hfz18_1
          try clear hfz24_0
          try clear hfz24_1
          try clear hfz25_0
          try clear hfz25_1
          try clear hfz30_0
          try clear hfz30_1
          try clear hfz37_0
          try clear hfz37_1
          try clear hfz39_0
          try clear hfz39_1
          try clear hfz45_0
          try clear hfz45_1
          try clear hfz46_0
          try clear hfz46_1
          try clear hfz51_0
          try clear hfz51_1
          try clear hfz53_0
          try clear hfz53_1
          try clear hfz59_0
          try clear hfz59_1
          try clear hfz64_0
          try clear hfz64_1
          try clear hfz73_0
          try clear hfz73_1
          try clear hfz76_0
          try clear hfz76_1
          try clear hfz83_0
          try clear hfz83_1
          try clear hfz85_0
          try clear hfz85_1
          try clear p2
          obtain ⟨kq, HA, HJ64, BX, HB⟩ := hcut
          cases kq with
          | zero => exact absurd HA.out (by simp [whittlelaw1_NumBacks.j3])
          | succ kj64 =>
           have H := HA.out
           clear HA
           simp only [whittlelaw1_NumBacks.j3] at H
           replace H := Option.bind_eq_some_iff.mp H
           obtain ⟨⟨t666, t667, t668⟩, A860, H⟩ := H
           have A86 := Aside0.mk A860
           clear A860
           replace H := Option.bind_eq_some_iff.mp H
           obtain ⟨⟨t670, t671, t672⟩, A870, H⟩ := H
           replace H : (if t668 = true then ((whittlelaw1_zero.f).bind fun bt674 => (if (t666 == bt674.1 && (t667 == bt674.2)) = true then (if (t672 == (a0_0 != 0)) = true then (if a0_0 = 0 then (some true) else ((whittlelaw1_one.f).bind fun bt676 => (some (t670 == bt676.1 && (t671 == bt676.2))))) else (some false)) else (some false))) else (some false)) = some r := H
           have A87 := Aside0.mk A870
           clear A870
           by_cases c88 : t668 = true
           ·subst c88
            have H1 : ((whittlelaw1_zero.f).bind fun bt674 => (if (t666 == bt674.1 && (t667 == bt674.2)) = true then (if (t672 == (a0_0 != 0)) = true then (if a0_0 = 0 then (some true) else ((whittlelaw1_one.f).bind fun bt676 => (some (t670 == bt676.1 && (t671 == bt676.2))))) else (some false)) else (some false))) = some r := by rw [if_pos rfl] at H; exact H
            clear H
            have H := H1
            clear H1
            replace H := Option.bind_eq_some_iff.mp H
            obtain ⟨⟨t674, t675⟩, A890, H⟩ := H
            replace H : (if (t666 == t674 && (t667 == t675)) = true then (if (t672 == (a0_0 != 0)) = true then (if a0_0 = 0 then (some true) else ((whittlelaw1_one.f).bind fun bt676 => (some (t670 == bt676.1 && (t671 == bt676.2))))) else (some false)) else (some false)) = some r := H
            have A89 := Aside0.mk A890
            clear A890
            by_cases c90 : (t666 == t674 && (t667 == t675)) = true
            ·rw [if_pos c90] at H
             have c90b0 : (t666 == t674 && (t667 == t675)) = true := c90
             (try (have c90b1 : decide (t666 = t674 && (t667 == t675)) = true := by simpa using c90))
             (try (have c90b2 : (t666 == t674 && (t667 == t675)) = true := by simpa using c90))
             clear c90
             by_cases c91 : (t672 == (a0_0 != 0)) = true
             ·rw [if_pos c91] at H
              have c91b0 : (t672 == (a0_0 != 0)) = true := c91
              (try (have c91b1 : decide (t672 = (a0_0 != 0)) = true := by simpa using c91))
              (try (have c91b2 : (t672 == (a0_0 != 0)) = true := by simpa using c91))
              clear c91
              by_cases c92 : a0_0 = 0
              ·rw [if_pos c92] at H
               have c92b0 : (a0_0 == 0) = true := beq_iff_eq.mpr c92
               have c92b1 : (a0_0 != 0) = false := bne_eq_false_iff_eq.mpr c92
               have ez : t672 = false := by simpa [c92b1] using c91b0
               clear c92
               clear HR
               obtain rfl := Option.some.inj H
               obtain ⟨⟨hnb95, hnc95⟩, ⟨hnb94, hnc94⟩, ⟨hnb93, hnc93⟩, -⟩ := BX.out.apart 3 rfl
               have hcz96_0 : wc.cell? ⟨gb645, 0, none⟩ = some (.int .i64 a0_0) := (blk_cell (BX.out.get 3 rfl) 0).trans rfl
               have hcz96_1 : wc.cell? ⟨gb645, 1, none⟩ = some (.int .i64 a0_1) := (blk_cell (BX.out.get 3 rfl) 1).trans rfl
               have hfz96_0 := blk_frozen (BX.out.get 3 rfl) 0
               have hfz96_1 := blk_frozen (BX.out.get 3 rfl) 1
               try go_wp2_with (first | ((with_reducible refine gate_callee (f := 35) rfl ?_); refine goesL_ (some 75) rfl rfl Tryd.func35 (by kernel_rfl) rfl #[.agg #[.int .i64 a0_0, .int .i64 a0_1], .agg #[.int .i64 a0_0, .int .i64 a0_1]] rfl (by (try simp only [List.map_toArray, List.map_cons, List.map_nil]); first | done | rfl | (simp only [List.length_drop, List.length_take]; rfl)) ?_; (with_reducible refine (num_Sub.calls kj64 a0_0 a0_1 a0_0 a0_1 t666 t667 true _ A86.out).mono ?_); rintro e w97 ⟨rfl, hb⟩; refine ⟨_, rfl, ?_⟩; have n0_ := Aside0.mk (Boxes.below (by (with_reducible repeat (first | apply boxes_drewN | apply boxes_drew | apply boxes_alloc)); exact BX.out) hb); have n1_ := Aside0.mk (below_step (by repeat (first | (with_reducible first | exact HB.out | apply below_alloc | apply pw_below_drewN | apply below_drew1 | refine below_set ?_ (Aside0.out (by assumption))) | exact HB.out)) hb); clear BX HB; have BX := n0_; have HB := n1_; clear n0_ n1_; (try clear hb); (try clear hb2); (try clear hk); (try clear hi)) | ((with_reducible refine gate_dst (N := 13) rfl ?_); refine box_event ?hg (N := 13) ?hd (cs := #[.int .i64 0, .int .i64 0]) (t := 23) ?hr ?_; (case hd => rfl); (case hg => rfl); (case hr => first | (go_simp; done) | (go_simp; rfl)); intro gb669 hg w98 hbox hb; have n0_ := Aside0.mk (Boxes.new (by (with_reducible repeat (first | apply boxes_drewN | apply boxes_drew | apply boxes_alloc)); exact BX.out) hg hbox hb (below_size (by repeat (first | (with_reducible first | exact HB.out | apply below_alloc | apply pw_below_drewN | apply below_drew1 | refine below_set ?_ (Aside0.out (by assumption))) | exact HB.out)))); have n1_ := Aside0.mk (below_step (by repeat (first | (with_reducible first | exact HB.out | apply below_alloc | apply pw_below_drewN | apply below_drew1 | refine below_set ?_ (Aside0.out (by assumption))) | exact HB.out)) hb); have n2_ := Aside0.mk ((by rw [hg]; exact (below_size (by repeat (first | (with_reducible first | exact HB.out | apply below_alloc | apply pw_below_drewN | apply below_drew1 | refine below_set ?_ (Aside0.out (by assumption))) | exact HB.out))) : w.heap.size ≤ gb669)); clear BX HB; have BX := n0_; have HB := n1_; have GE669 := n2_; clear n0_ n1_ n2_; clear hb hbox hg; obtain ⟨⟨hnb102, hnc102⟩, ⟨hnb101, hnc101⟩, ⟨hnb100, hnc100⟩, ⟨hnb99, hnc99⟩, -⟩ := BX.out.apart 0 rfl; have hcz103_0 : w98.cell? ⟨gb669, 0, none⟩ = some (.int .i64 0) := (blk_cell (BX.out.get 0 rfl) 0).trans rfl; have hcz103_1 : w98.cell? ⟨gb669, 1, none⟩ = some (.int .i64 0) := (blk_cell (BX.out.get 0 rfl) 1).trans rfl; have hfz103_0 := blk_frozen (BX.out.get 0 rfl) 0; have hfz103_1 := blk_frozen (BX.out.get 0 rfl) 1; have hcz104_0 : w98.cell? ⟨gb645, 0, none⟩ = some (.int .i64 a0_0) := (blk_cell (BX.out.get 4 rfl) 0).trans rfl; have hcz104_1 : w98.cell? ⟨gb645, 1, none⟩ = some (.int .i64 a0_1) := (blk_cell (BX.out.get 4 rfl) 1).trans rfl; have hfz104_0 := blk_frozen (BX.out.get 4 rfl) 0; have hfz104_1 := blk_frozen (BX.out.get 4 rfl) 1) | ((with_reducible refine gate_callee (f := 41) rfl ?_); refine goesL_ (some 81) rfl rfl Tryd.func41 (by kernel_rfl) rfl #[.agg #[.int .i64 a0_0, .int .i64 a0_1], .agg #[.int .i64 a0_0, .int .i64 a0_1]] rfl (by (try simp only [List.map_toArray, List.map_cons, List.map_nil]); first | done | rfl | (simp only [List.length_drop, List.length_take]; rfl)) ?_; (with_reducible refine (num_Div.calls kj64 a0_0 a0_1 a0_0 a0_1 t670 t671 t672 _ A87.out).mono ?_); rintro e w105 ⟨rfl, hb⟩; refine ⟨_, rfl, ?_⟩; have n0_ : Aside0 (Boxes w.heap.size _ ((gb669, 23, #[.int .i64 t666, .int .i64 t667]) :: _)) := ⟨Boxes.below (by (with_reducible repeat (first | apply boxes_drewN | apply boxes_drew | apply boxes_alloc)); apply boxes_put 0; (with_reducible repeat (first | apply boxes_drewN | apply boxes_drew | apply boxes_alloc)); apply boxes_put 0; (with_reducible repeat (first | apply boxes_drewN | apply boxes_drew | apply boxes_alloc)); exact BX.out; any_goals rfl) hb⟩; have n1_ := Aside0.mk (below_step (by repeat (first | (with_reducible first | exact HB.out | apply below_alloc | apply pw_below_drewN | apply below_drew1 | refine below_set ?_ (Aside0.out (by assumption))) | exact HB.out)) hb); clear BX HB; have BX := n0_; have HB := n1_; clear n0_ n1_; (try clear hb); (try clear hb2); (try clear hk); (try clear hi)) | ((with_reducible refine gate_dst (N := 15) rfl ?_); refine box_event ?hg (N := 15) ?hd (cs := #[.int .i64 0, .int .i64 0]) (t := 23) ?hr ?_; (case hd => rfl); (case hg => rfl); (case hr => first | (go_simp; done) | (go_simp; rfl)); intro gb673 hg w106 hbox hb; have n0_ := Aside0.mk (Boxes.new (by (with_reducible repeat (first | apply boxes_drewN | apply boxes_drew | apply boxes_alloc)); exact BX.out) hg hbox hb (below_size (by repeat (first | (with_reducible first | exact HB.out | apply below_alloc | apply pw_below_drewN | apply below_drew1 | refine below_set ?_ (Aside0.out (by assumption))) | exact HB.out)))); have n1_ := Aside0.mk (below_step (by repeat (first | (with_reducible first | exact HB.out | apply below_alloc | apply pw_below_drewN | apply below_drew1 | refine below_set ?_ (Aside0.out (by assumption))) | exact HB.out)) hb); have n2_ := Aside0.mk ((by rw [hg]; exact (below_size (by repeat (first | (with_reducible first | exact HB.out | apply below_alloc | apply pw_below_drewN | apply below_drew1 | refine below_set ?_ (Aside0.out (by assumption))) | exact HB.out))) : w.heap.size ≤ gb673)); clear BX HB; have BX := n0_; have HB := n1_; have GE673 := n2_; clear n0_ n1_ n2_; clear hb hbox hg; obtain ⟨⟨hnb111, hnc111⟩, ⟨hnb110, hnc110⟩, ⟨hnb109, hnc109⟩, ⟨hnb108, hnc108⟩, ⟨hnb107, hnc107⟩, -⟩ := BX.out.apart 0 rfl; have hcz112_0 : w106.cell? ⟨gb673, 0, none⟩ = some (.int .i64 0) := (blk_cell (BX.out.get 0 rfl) 0).trans rfl; have hcz112_1 : w106.cell? ⟨gb673, 1, none⟩ = some (.int .i64 0) := (blk_cell (BX.out.get 0 rfl) 1).trans rfl; have hfz112_0 := blk_frozen (BX.out.get 0 rfl) 0; have hfz112_1 := blk_frozen (BX.out.get 0 rfl) 1))
               have n0_ : Aside0 (Boxes w.heap.size ((w106.setCell ⟨gb673, 0, none⟩ (.int .i64 t670)).setCell ⟨gb673, 1, none⟩ (.int .i64 t671)) ((gb673, 23, #[.int .i64 t670, .int .i64 t671]) :: _)) := ⟨by (with_reducible repeat (first | apply boxes_drewN | apply boxes_drew | apply boxes_alloc)); apply boxes_put 0; (with_reducible repeat (first | apply boxes_drewN | apply boxes_drew | apply boxes_alloc)); apply boxes_put 0; (with_reducible repeat (first | apply boxes_drewN | apply boxes_drew | apply boxes_alloc)); exact BX.out; any_goals rfl⟩
               have n1_ : Aside0 (Below w.heap.size w ((w106.setCell ⟨gb673, 0, none⟩ (.int .i64 t670)).setCell ⟨gb673, 1, none⟩ (.int .i64 t671))) := ⟨by repeat (first | (with_reducible first | exact HB.out | apply below_alloc | apply pw_below_drewN | apply below_drew1 | refine below_set ?_ (Aside0.out (by assumption))) | exact HB.out)⟩
               (try clear BX)
               (try clear HB)
               generalize ((w106.setCell ⟨gb673, 0, none⟩ (.int .i64 t670)).setCell ⟨gb673, 1, none⟩ (.int .i64 t671)) = w113 at n0_ n1_ ⊢
               have BX := n0_
               have HB := n1_
               clear n0_ n1_
               have n0_ := Aside0.mk (boxes_drew BX.out)
               have n1_ := Aside0.mk (below_drew1 HB.out)
               clear BX HB
               have BX := n0_
               have HB := n1_
               clear n0_ n1_
               refine start_ (n := 24) (S := fun w' => w'.cell? ⟨gb669, 0, none⟩ = some (.int .i64 t666) ∧ w'.cell? ⟨gb669, 1, none⟩ = some (.int .i64 t667) ∧ w'.cell? ⟨gb645, 0, none⟩ = some (.int .i64 a0_0) ∧ w'.cell? ⟨gb645, 1, none⟩ = some (.int .i64 a0_1)) (ds := []) #[false, false, false, false, false, false, false, false, false, false, false, false, false, false, false, false, false, false, false, false, false, false, false, false] (by kernel_rfl) rfl rfl ⟨(blk_cell (BX.out.get 1 rfl) 0).trans rfl, (blk_cell (BX.out.get 1 rfl) 1).trans rfl, (blk_cell (BX.out.get 5 rfl) 0).trans rfl, (blk_cell (BX.out.get 5 rfl) 1).trans rfl⟩ (fun hHeld => ?_); refine with_tabW whittlelaw1_NumBacks.tab17 whittlelaw1_NumBacks.bits17 (fun HT_ HW_ => ?_)
               generalize w113.drew = w114 at BX HB hHeld ⊢
               refine pure_ (i := 0) (N := some 84) (v := ?_) (a' := ?_) #[true, false, false, false, false, false, false, false, false, false, false, false, false, false, false, false, false, false, false, false, false, false, false, false] rfl rfl (any_of HT_.out (by kernel_rfl)) (fun _ _ _ h => h) (Or.inl ⟨by rfl, ?_⟩) ?_ ?_
               rotate_left
               ·intro w'
                go_simp
                with_reducible rfl
               rotate_left
               ·simp only [Act.put, List.setIfInBounds_toArray, List.set_cons_zero, List.set_cons_succ, i64_w, i32_w]
                rfl
               refine pure_ (i := 1) (N := some 85) (v := ?_) (a' := ?_) #[true, true, false, false, false, false, false, false, false, false, false, false, false, false, false, false, false, false, false, false, false, false, false, false] rfl rfl (any_of HT_.out (by kernel_rfl)) (fun _ _ _ h => h) (Or.inl ⟨by rfl, ?_⟩) ?_ ?_
               rotate_left
               ·intro w'
                go_simp
                with_reducible rfl
               rotate_left
               ·simp only [Act.put, List.setIfInBounds_toArray, List.set_cons_zero, List.set_cons_succ, i64_w, i32_w]
                rfl
               refine take_ (i := 2) (N := some 86) (v := ?_) (a' := ?_) #[true, true, true, false, false, false, false, false, false, false, false, false, false, false, false, false, false, false, false, false, false, false, false, false] rfl rfl (take_ofW HT_.out HW_.out (by kernel_rfl)) (fun _ _ _ h => h) (Or.inl ⟨by rfl, ?_⟩) hHeld ?_ ?_
               rotate_left
               ·rintro w' ⟨s0, s1, s2, s3⟩
                go_simp
                with_reducible rfl
               rotate_left
               ·simp only [Act.put, List.setIfInBounds_toArray, List.set_cons_zero, List.set_cons_succ, i64_w, i32_w]
                rfl
               refine one_ (i := 3) (N := some 87) #[true, true, true, true, false, false, false, false, false, false, false, false, false, false, false, false, false, false, false, false, false, false, false, false] rfl rfl (one_of HT_.out (by kernel_rfl)) (by decide) (fun K hK => ?_)
               refine goes_ Tryd.func32 (by kernel_rfl) rfl #[] (by rfl) rfl rfl (by (try simp only [List.map_toArray, List.map_cons, List.map_nil]); first | done | rfl | (simp only [List.length_drop, List.length_take]; rfl)) ?_
               with_reducible refine (whittlelaw1_zero.calls  t674 t675 _ A89.out).mono ?_
               rintro e w115 ⟨rfl, hb⟩
               refine ⟨_, rfl, ?_⟩
               have n0_ := Aside0.mk (Boxes.below (by (with_reducible repeat (first | apply boxes_drewN | apply boxes_drew | apply boxes_alloc)); exact BX.out) hb)
               have n1_ := Aside0.mk (below_step (by repeat (first | (with_reducible first | exact HB.out | apply below_alloc | apply pw_below_drewN | apply below_drew1 | refine below_set ?_ (Aside0.out (by assumption))) | exact HB.out)) hb)
               clear BX HB
               have BX := n0_
               have HB := n1_
               clear n0_ n1_
               (try clear hb)
               (try clear hb2)
               (try clear hk)
               (try clear hi)
               refine hK.out _ _ ⟨(blk_cell (BX.out.get 1 rfl) 0).trans rfl, (blk_cell (BX.out.get 1 rfl) 1).trans rfl, (blk_cell (BX.out.get 5 rfl) 0).trans rfl, (blk_cell (BX.out.get 5 rfl) 1).trans rfl⟩ (fun hHeld => ?_)
               clear hK K
               refine norm_ (a' := ?_) ?_ ?_
               rotate_left
               ·show Act.put _ (some 87) _ = _
                simp only [Act.put, List.setIfInBounds_toArray, List.set_cons_zero, List.set_cons_succ, i64_w, i32_w]
                rfl
               refine pure_ (i := 4) (N := some 88) (v := ?_) (a' := ?_) #[true, true, true, true, true, false, false, false, false, false, false, false, false, false, false, false, false, false, false, false, false, false, false, false] rfl rfl (any_of HT_.out (by kernel_rfl)) (fun _ _ _ h => h) (Or.inl ⟨by rfl, ?_⟩) ?_ ?_
               rotate_left
               ·intro w'
                go_simp
                with_reducible rfl
               rotate_left
               ·simp only [Act.put, List.setIfInBounds_toArray, List.set_cons_zero, List.set_cons_succ, i64_w, i32_w]
                rfl
               refine pure_ (i := 5) (N := some 89) (v := ?_) (a' := ?_) #[true, true, true, true, true, true, false, false, false, false, false, false, false, false, false, false, false, false, false, false, false, false, false, false] rfl rfl (any_of HT_.out (by kernel_rfl)) (fun _ _ _ h => h) (Or.inl ⟨by rfl, ?_⟩) ?_ ?_
               rotate_left
               ·intro w'
                go_simp
                with_reducible rfl
               rotate_left
               ·simp only [Act.put, List.setIfInBounds_toArray, List.set_cons_zero, List.set_cons_succ, i64_w, i32_w]
                rfl
               refine pure_ (i := 6) (N := some 90) (v := ?_) (a' := ?_) #[true, true, true, true, true, true, true, false, false, false, false, false, false, false, false, false, false, false, false, false, false, false, false, false] rfl rfl (any_of HT_.out (by kernel_rfl)) (fun _ _ _ h => h) (Or.inl ⟨by rfl, ?_⟩) ?_ ?_
               rotate_left
               ·intro w'
                go_simp
                with_reducible rfl
               rotate_left
               ·simp only [Act.put, List.setIfInBounds_toArray, List.set_cons_zero, List.set_cons_succ, i64_w, i32_w]
                rfl
               refine pure_ (i := 7) (N := some 91) (v := ?_) (a' := ?_) #[true, true, true, true, true, true, true, true, false, false, false, false, false, false, false, false, false, false, false, false, false, false, false, false] rfl rfl (any_of HT_.out (by kernel_rfl)) (fun _ _ _ h => h) (Or.inl ⟨by rfl, ?_⟩) ?_ ?_
               rotate_left
               ·intro w'
                go_simp
                with_reducible rfl
               rotate_left
               ·simp only [Act.put, List.setIfInBounds_toArray, List.set_cons_zero, List.set_cons_succ, i64_w, i32_w]
                rfl
               refine pure_ (i := 8) (N := some 92) (v := ?_) (a' := ?_) #[true, true, true, true, true, true, true, true, true, false, false, false, false, false, false, false, false, false, false, false, false, false, false, false] rfl rfl (any_of HT_.out (by kernel_rfl)) (fun _ _ _ h => h) (Or.inl ⟨by rfl, ?_⟩) ?_ ?_
               rotate_left
               ·intro w'
                go_simp
                with_reducible rfl
               rotate_left
               ·simp only [Act.put, List.setIfInBounds_toArray, List.set_cons_zero, List.set_cons_succ, i64_w, i32_w]
                rfl
               refine take_ (i := 9) (N := some 93) (v := ?_) (a' := ?_) #[true, true, true, true, true, true, true, true, true, true, false, false, false, false, false, false, false, false, false, false, false, false, false, false] rfl rfl (take_ofW HT_.out HW_.out (by kernel_rfl)) (fun _ _ _ h => h) (Or.inl ⟨by rfl, ?_⟩) hHeld ?_ ?_
               rotate_left
               ·rintro w' ⟨s0, s1, s2, s3⟩
                go_simp
                with_reducible rfl
               rotate_left
               ·simp only [Act.put, List.setIfInBounds_toArray, List.set_cons_zero, List.set_cons_succ, i64_w, i32_w]
                rfl
               refine pure_ (i := 10) (N := some 94) (v := ?_) (a' := ?_) #[true, true, true, true, true, true, true, true, true, true, true, false, false, false, false, false, false, false, false, false, false, false, false, false] rfl rfl (any_of HT_.out (by kernel_rfl)) (fun _ _ _ h => h) (Or.inl ⟨by rfl, ?_⟩) ?_ ?_
               rotate_left
               ·intro w'
                go_simp
                with_reducible rfl
               rotate_left
               ·simp only [Act.put, List.setIfInBounds_toArray, List.set_cons_zero, List.set_cons_succ, i64_w, i32_w]
                rfl
               refine pure_ (i := 11) (N := some 95) (v := ?_) (a' := ?_) #[true, true, true, true, true, true, true, true, true, true, true, true, false, false, false, false, false, false, false, false, false, false, false, false] rfl rfl (any_of HT_.out (by kernel_rfl)) (fun _ _ _ h => h) (Or.inl ⟨by rfl, ?_⟩) ?_ ?_
               rotate_left
               ·intro w'
                go_simp
                with_reducible rfl
               rotate_left
               ·simp only [Act.put, List.setIfInBounds_toArray, List.set_cons_zero, List.set_cons_succ, i64_w, i32_w]
                rfl
               refine pure_ (i := 12) (N := some 96) (v := ?_) (a' := ?_) #[true, true, true, true, true, true, true, true, true, true, true, true, true, false, false, false, false, false, false, false, false, false, false, false] rfl rfl (any_of HT_.out (by kernel_rfl)) (fun _ _ _ h => h) (Or.inl ⟨by rfl, ?_⟩) ?_ ?_
               rotate_left
               ·intro w'
                go_simp
                with_reducible rfl
               rotate_left
               ·simp only [Act.put, List.setIfInBounds_toArray, List.set_cons_zero, List.set_cons_succ, i64_w, i32_w]
                rfl
               refine pure_ (i := 13) (N := some 97) (v := ?_) (a' := ?_) #[true, true, true, true, true, true, true, true, true, true, true, true, true, true, false, false, false, false, false, false, false, false, false, false] rfl rfl (any_of HT_.out (by kernel_rfl)) (fun _ _ _ h => h) (Or.inl ⟨by rfl, ?_⟩) ?_ ?_
               rotate_left
               ·intro w'
                go_simp
                with_reducible rfl
               rotate_left
               ·simp only [Act.put, List.setIfInBounds_toArray, List.set_cons_zero, List.set_cons_succ, i64_w, i32_w]
                rfl
               refine pure_ (i := 14) (N := some 98) (v := ?_) (a' := ?_) #[true, true, true, true, true, true, true, true, true, true, true, true, true, true, true, false, false, false, false, false, false, false, false, false] rfl rfl (any_of HT_.out (by kernel_rfl)) (fun _ _ _ h => h) (Or.inl ⟨by rfl, ?_⟩) ?_ ?_
               rotate_left
               ·intro w'
                go_simp
                with_reducible rfl
               rotate_left
               ·simp only [Act.put, List.setIfInBounds_toArray, List.set_cons_zero, List.set_cons_succ, i64_w, i32_w]
                rfl
               refine take_ (i := 15) (N := some 99) (v := ?_) (a' := ?_) #[true, true, true, true, true, true, true, true, true, true, true, true, true, true, true, true, false, false, false, false, false, false, false, false] rfl rfl (take_ofW HT_.out HW_.out (by kernel_rfl)) (fun _ _ _ h => h) (Or.inl ⟨by rfl, ?_⟩) hHeld ?_ ?_
               rotate_left
               ·rintro w' ⟨s0, s1, s2, s3⟩
                go_simp
                with_reducible rfl
               rotate_left
               ·simp only [Act.put, List.setIfInBounds_toArray, List.set_cons_zero, List.set_cons_succ, i64_w, i32_w]
                rfl
               refine pure_ (i := 16) (N := some 100) (v := ?_) (a' := ?_) #[true, true, true, true, true, true, true, true, true, true, true, true, true, true, true, true, true, false, false, false, false, false, false, false] rfl rfl (any_of HT_.out (by kernel_rfl)) (fun _ _ _ h => h) (Or.inl ⟨by rfl, ?_⟩) ?_ ?_
               rotate_left
               ·intro w'
                go_simp
                with_reducible rfl
               rotate_left
               ·simp only [Act.put, List.setIfInBounds_toArray, List.set_cons_zero, List.set_cons_succ, i64_w, i32_w]
                rfl
               refine pure_ (i := 17) (N := some 101) (v := ?_) (a' := ?_) #[true, true, true, true, true, true, true, true, true, true, true, true, true, true, true, true, true, true, false, false, false, false, false, false] rfl rfl (any_of HT_.out (by kernel_rfl)) (fun _ _ _ h => h) (Or.inl ⟨by rfl, ?_⟩) ?_ ?_
               rotate_left
               ·intro w'
                go_simp
                with_reducible rfl
               rotate_left
               ·simp only [Act.put, List.setIfInBounds_toArray, List.set_cons_zero, List.set_cons_succ, i64_w, i32_w]
                rfl
               refine pure_ (i := 18) (N := some 102) (v := undef) (a' := ?_) #[true, true, true, true, true, true, true, true, true, true, true, true, true, true, true, true, true, true, true, false, false, false, false, false] rfl rfl (any_of HT_.out (by kernel_rfl)) (fun _ _ _ h => h) (Or.inr ⟨by rfl, rfl⟩) ?_ ?_
               rotate_left
               ·simp only [Act.put, List.setIfInBounds_toArray, List.set_cons_zero, List.set_cons_succ, i64_w, i32_w]
                rfl
               refine pure_ (i := 19) (N := some 103) (v := undef) (a' := ?_) #[true, true, true, true, true, true, true, true, true, true, true, true, true, true, true, true, true, true, true, true, false, false, false, false] rfl rfl (any_of HT_.out (by kernel_rfl)) (fun _ _ _ h => h) (Or.inr ⟨by rfl, rfl⟩) ?_ ?_
               rotate_left
               ·simp only [Act.put, List.setIfInBounds_toArray, List.set_cons_zero, List.set_cons_succ, i64_w, i32_w]
                rfl
               refine pure_ (i := 20) (N := some 104) (v := undef) (a' := ?_) #[true, true, true, true, true, true, true, true, true, true, true, true, true, true, true, true, true, true, true, true, true, false, false, false] rfl rfl (any_of HT_.out (by kernel_rfl)) (fun _ _ _ h => h) (Or.inr ⟨by rfl, rfl⟩) ?_ ?_
               rotate_left
               ·simp only [Act.put, List.setIfInBounds_toArray, List.set_cons_zero, List.set_cons_succ, i64_w, i32_w]
                rfl
               refine pure_ (i := 21) (N := some 105) (v := ?_) (a' := ?_) #[true, true, true, true, true, true, true, true, true, true, true, true, true, true, true, true, true, true, true, true, true, true, false, false] rfl rfl (any_of HT_.out (by kernel_rfl)) (fun _ _ _ h => h) (Or.inl ⟨by rfl, ?_⟩) ?_ ?_
               rotate_left
               ·intro w'
                go_simp
                with_reducible rfl
               rotate_left
               ·simp only [Act.put, List.setIfInBounds_toArray, List.set_cons_zero, List.set_cons_succ, i64_w, i32_w]
                rfl
               refine pure_ (i := 22) (N := some 106) (v := ?_) (a' := ?_) #[true, true, true, true, true, true, true, true, true, true, true, true, true, true, true, true, true, true, true, true, true, true, true, false] rfl rfl (any_of HT_.out (by kernel_rfl)) (fun _ _ _ h => h) (Or.inl ⟨by rfl, ?_⟩) ?_ ?_
               rotate_left
               ·intro w'
                go_simp
                with_reducible rfl
               rotate_left
               ·simp only [Act.put, List.setIfInBounds_toArray, List.set_cons_zero, List.set_cons_succ, i64_w, i32_w]
                rfl
               refine pure_ (i := 23) (N := some 4) (v := ?_) (a' := ?_) #[true, true, true, true, true, true, true, true, true, true, true, true, true, true, true, true, true, true, true, true, true, true, true, true] rfl rfl (any_of HT_.out (by kernel_rfl)) (fun _ _ _ h => h) (Or.inl ⟨by rfl, ?_⟩) ?_ ?_
               rotate_left
               ·intro w'
                go_simp
                with_reducible rfl
               rotate_left
               ·simp only [Act.put, List.setIfInBounds_toArray, List.set_cons_zero, List.set_cons_succ, i64_w, i32_w]
                rfl
               refine done_ (done_of HT_.out (by kernel_rfl)) ?_
               try go_wp2
               go_ret
               exact ⟨by first | rfl | (simp [errW_none, errW_some] <;> rfl) | (simp [*, errW_none, errW_some] <;> rfl), by repeat (first | (with_reducible first | exact HB.out | apply below_alloc | apply pw_below_drewN | apply below_drew1 | refine below_set ?_ (Aside0.out (by assumption))) | exact HB.out)⟩
              ·rw [if_neg c92] at H
               have c92b0 : (a0_0 == 0) = false := beq_eq_false_iff_ne.mpr c92
               have c92b1 : (a0_0 != 0) = true := bne_iff_ne.mpr c92
               have ez : t672 = true := by simpa [c92b1] using c91b0
               replace H := Option.bind_eq_some_iff.mp H
               obtain ⟨⟨t676, t677⟩, A1160, H⟩ := H
               replace H : (some (t670 == t676 && (t671 == t677))) = some r := H
               have A116 := Aside0.mk A1160
               clear A1160
               clear HR
               obtain rfl := Option.some.inj H
               obtain ⟨⟨hnb119, hnc119⟩, ⟨hnb118, hnc118⟩, ⟨hnb117, hnc117⟩, -⟩ := BX.out.apart 3 rfl
               have hcz120_0 : wc.cell? ⟨gb645, 0, none⟩ = some (.int .i64 a0_0) := (blk_cell (BX.out.get 3 rfl) 0).trans rfl
               have hcz120_1 : wc.cell? ⟨gb645, 1, none⟩ = some (.int .i64 a0_1) := (blk_cell (BX.out.get 3 rfl) 1).trans rfl
               have hfz120_0 := blk_frozen (BX.out.get 3 rfl) 0
               have hfz120_1 := blk_frozen (BX.out.get 3 rfl) 1
               try go_wp2_with (first | ((with_reducible refine gate_callee (f := 35) rfl ?_); refine goesL_ (some 75) rfl rfl Tryd.func35 (by kernel_rfl) rfl #[.agg #[.int .i64 a0_0, .int .i64 a0_1], .agg #[.int .i64 a0_0, .int .i64 a0_1]] rfl (by (try simp only [List.map_toArray, List.map_cons, List.map_nil]); first | done | rfl | (simp only [List.length_drop, List.length_take]; rfl)) ?_; (with_reducible refine (num_Sub.calls kj64 a0_0 a0_1 a0_0 a0_1 t666 t667 true _ A86.out).mono ?_); rintro e w121 ⟨rfl, hb⟩; refine ⟨_, rfl, ?_⟩; have n0_ := Aside0.mk (Boxes.below (by (with_reducible repeat (first | apply boxes_drewN | apply boxes_drew | apply boxes_alloc)); exact BX.out) hb); have n1_ := Aside0.mk (below_step (by repeat (first | (with_reducible first | exact HB.out | apply below_alloc | apply pw_below_drewN | apply below_drew1 | refine below_set ?_ (Aside0.out (by assumption))) | exact HB.out)) hb); clear BX HB; have BX := n0_; have HB := n1_; clear n0_ n1_; (try clear hb); (try clear hb2); (try clear hk); (try clear hi)) | ((with_reducible refine gate_dst (N := 13) rfl ?_); refine box_event ?hg (N := 13) ?hd (cs := #[.int .i64 0, .int .i64 0]) (t := 23) ?hr ?_; (case hd => rfl); (case hg => rfl); (case hr => first | (go_simp; done) | (go_simp; rfl)); intro gb669 hg w122 hbox hb; have n0_ := Aside0.mk (Boxes.new (by (with_reducible repeat (first | apply boxes_drewN | apply boxes_drew | apply boxes_alloc)); exact BX.out) hg hbox hb (below_size (by repeat (first | (with_reducible first | exact HB.out | apply below_alloc | apply pw_below_drewN | apply below_drew1 | refine below_set ?_ (Aside0.out (by assumption))) | exact HB.out)))); have n1_ := Aside0.mk (below_step (by repeat (first | (with_reducible first | exact HB.out | apply below_alloc | apply pw_below_drewN | apply below_drew1 | refine below_set ?_ (Aside0.out (by assumption))) | exact HB.out)) hb); have n2_ := Aside0.mk ((by rw [hg]; exact (below_size (by repeat (first | (with_reducible first | exact HB.out | apply below_alloc | apply pw_below_drewN | apply below_drew1 | refine below_set ?_ (Aside0.out (by assumption))) | exact HB.out))) : w.heap.size ≤ gb669)); clear BX HB; have BX := n0_; have HB := n1_; have GE669 := n2_; clear n0_ n1_ n2_; clear hb hbox hg; obtain ⟨⟨hnb126, hnc126⟩, ⟨hnb125, hnc125⟩, ⟨hnb124, hnc124⟩, ⟨hnb123, hnc123⟩, -⟩ := BX.out.apart 0 rfl; have hcz127_0 : w122.cell? ⟨gb669, 0, none⟩ = some (.int .i64 0) := (blk_cell (BX.out.get 0 rfl) 0).trans rfl; have hcz127_1 : w122.cell? ⟨gb669, 1, none⟩ = some (.int .i64 0) := (blk_cell (BX.out.get 0 rfl) 1).trans rfl; have hfz127_0 := blk_frozen (BX.out.get 0 rfl) 0; have hfz127_1 := blk_frozen (BX.out.get 0 rfl) 1; have hcz128_0 : w122.cell? ⟨gb645, 0, none⟩ = some (.int .i64 a0_0) := (blk_cell (BX.out.get 4 rfl) 0).trans rfl; have hcz128_1 : w122.cell? ⟨gb645, 1, none⟩ = some (.int .i64 a0_1) := (blk_cell (BX.out.get 4 rfl) 1).trans rfl; have hfz128_0 := blk_frozen (BX.out.get 4 rfl) 0; have hfz128_1 := blk_frozen (BX.out.get 4 rfl) 1) | ((with_reducible refine gate_callee (f := 41) rfl ?_); refine goesL_ (some 81) rfl rfl Tryd.func41 (by kernel_rfl) rfl #[.agg #[.int .i64 a0_0, .int .i64 a0_1], .agg #[.int .i64 a0_0, .int .i64 a0_1]] rfl (by (try simp only [List.map_toArray, List.map_cons, List.map_nil]); first | done | rfl | (simp only [List.length_drop, List.length_take]; rfl)) ?_; (with_reducible refine (num_Div.calls kj64 a0_0 a0_1 a0_0 a0_1 t670 t671 t672 _ A87.out).mono ?_); rintro e w129 ⟨rfl, hb⟩; refine ⟨_, rfl, ?_⟩; have n0_ : Aside0 (Boxes w.heap.size _ ((gb669, 23, #[.int .i64 t666, .int .i64 t667]) :: _)) := ⟨Boxes.below (by (with_reducible repeat (first | apply boxes_drewN | apply boxes_drew | apply boxes_alloc)); apply boxes_put 0; (with_reducible repeat (first | apply boxes_drewN | apply boxes_drew | apply boxes_alloc)); apply boxes_put 0; (with_reducible repeat (first | apply boxes_drewN | apply boxes_drew | apply boxes_alloc)); exact BX.out; any_goals rfl) hb⟩; have n1_ := Aside0.mk (below_step (by repeat (first | (with_reducible first | exact HB.out | apply below_alloc | apply pw_below_drewN | apply below_drew1 | refine below_set ?_ (Aside0.out (by assumption))) | exact HB.out)) hb); clear BX HB; have BX := n0_; have HB := n1_; clear n0_ n1_; (try clear hb); (try clear hb2); (try clear hk); (try clear hi)) | ((with_reducible refine gate_dst (N := 15) rfl ?_); refine box_event ?hg (N := 15) ?hd (cs := #[.int .i64 0, .int .i64 0]) (t := 23) ?hr ?_; (case hd => rfl); (case hg => rfl); (case hr => first | (go_simp; done) | (go_simp; rfl)); intro gb673 hg w130 hbox hb; have n0_ := Aside0.mk (Boxes.new (by (with_reducible repeat (first | apply boxes_drewN | apply boxes_drew | apply boxes_alloc)); exact BX.out) hg hbox hb (below_size (by repeat (first | (with_reducible first | exact HB.out | apply below_alloc | apply pw_below_drewN | apply below_drew1 | refine below_set ?_ (Aside0.out (by assumption))) | exact HB.out)))); have n1_ := Aside0.mk (below_step (by repeat (first | (with_reducible first | exact HB.out | apply below_alloc | apply pw_below_drewN | apply below_drew1 | refine below_set ?_ (Aside0.out (by assumption))) | exact HB.out)) hb); have n2_ := Aside0.mk ((by rw [hg]; exact (below_size (by repeat (first | (with_reducible first | exact HB.out | apply below_alloc | apply pw_below_drewN | apply below_drew1 | refine below_set ?_ (Aside0.out (by assumption))) | exact HB.out))) : w.heap.size ≤ gb673)); clear BX HB; have BX := n0_; have HB := n1_; have GE673 := n2_; clear n0_ n1_ n2_; clear hb hbox hg; obtain ⟨⟨hnb135, hnc135⟩, ⟨hnb134, hnc134⟩, ⟨hnb133, hnc133⟩, ⟨hnb132, hnc132⟩, ⟨hnb131, hnc131⟩, -⟩ := BX.out.apart 0 rfl; have hcz136_0 : w130.cell? ⟨gb673, 0, none⟩ = some (.int .i64 0) := (blk_cell (BX.out.get 0 rfl) 0).trans rfl; have hcz136_1 : w130.cell? ⟨gb673, 1, none⟩ = some (.int .i64 0) := (blk_cell (BX.out.get 0 rfl) 1).trans rfl; have hfz136_0 := blk_frozen (BX.out.get 0 rfl) 0; have hfz136_1 := blk_frozen (BX.out.get 0 rfl) 1))
               have n0_ : Aside0 (Boxes w.heap.size ((w130.setCell ⟨gb673, 0, none⟩ (.int .i64 t670)).setCell ⟨gb673, 1, none⟩ (.int .i64 t671)) ((gb673, 23, #[.int .i64 t670, .int .i64 t671]) :: _)) := ⟨by (with_reducible repeat (first | apply boxes_drewN | apply boxes_drew | apply boxes_alloc)); apply boxes_put 0; (with_reducible repeat (first | apply boxes_drewN | apply boxes_drew | apply boxes_alloc)); apply boxes_put 0; (with_reducible repeat (first | apply boxes_drewN | apply boxes_drew | apply boxes_alloc)); exact BX.out; any_goals rfl⟩
               have n1_ : Aside0 (Below w.heap.size w ((w130.setCell ⟨gb673, 0, none⟩ (.int .i64 t670)).setCell ⟨gb673, 1, none⟩ (.int .i64 t671))) := ⟨by repeat (first | (with_reducible first | exact HB.out | apply below_alloc | apply pw_below_drewN | apply below_drew1 | refine below_set ?_ (Aside0.out (by assumption))) | exact HB.out)⟩
               (try clear BX)
               (try clear HB)
               generalize ((w130.setCell ⟨gb673, 0, none⟩ (.int .i64 t670)).setCell ⟨gb673, 1, none⟩ (.int .i64 t671)) = w137 at n0_ n1_ ⊢
               have BX := n0_
               have HB := n1_
               clear n0_ n1_
               have n0_ := Aside0.mk (boxes_drew BX.out)
               have n1_ := Aside0.mk (below_drew1 HB.out)
               clear BX HB
               have BX := n0_
               have HB := n1_
               clear n0_ n1_
               refine start_ (n := 24) (S := fun w' => w'.cell? ⟨gb669, 0, none⟩ = some (.int .i64 t666) ∧ w'.cell? ⟨gb669, 1, none⟩ = some (.int .i64 t667) ∧ w'.cell? ⟨gb645, 0, none⟩ = some (.int .i64 a0_0) ∧ w'.cell? ⟨gb645, 1, none⟩ = some (.int .i64 a0_1) ∧ w'.cell? ⟨gb673, 0, none⟩ = some (.int .i64 t670) ∧ w'.cell? ⟨gb673, 1, none⟩ = some (.int .i64 t671)) (ds := []) #[false, false, false, false, false, false, false, false, false, false, false, false, false, false, false, false, false, false, false, false, false, false, false, false] (by kernel_rfl) rfl rfl ⟨(blk_cell (BX.out.get 1 rfl) 0).trans rfl, (blk_cell (BX.out.get 1 rfl) 1).trans rfl, (blk_cell (BX.out.get 5 rfl) 0).trans rfl, (blk_cell (BX.out.get 5 rfl) 1).trans rfl, (blk_cell (BX.out.get 0 rfl) 0).trans rfl, (blk_cell (BX.out.get 0 rfl) 1).trans rfl⟩ (fun hHeld => ?_); refine with_tabW whittlelaw1_NumBacks.tab17 whittlelaw1_NumBacks.bits17 (fun HT_ HW_ => ?_)
               generalize w137.drew = w138 at BX HB hHeld ⊢
               refine pure_ (i := 0) (N := some 84) (v := ?_) (a' := ?_) #[true, false, false, false, false, false, false, false, false, false, false, false, false, false, false, false, false, false, false, false, false, false, false, false] rfl rfl (any_of HT_.out (by kernel_rfl)) (fun _ _ _ h => h) (Or.inl ⟨by rfl, ?_⟩) ?_ ?_
               rotate_left
               ·intro w'
                go_simp
                with_reducible rfl
               rotate_left
               ·simp only [Act.put, List.setIfInBounds_toArray, List.set_cons_zero, List.set_cons_succ, i64_w, i32_w]
                rfl
               refine pure_ (i := 1) (N := some 85) (v := ?_) (a' := ?_) #[true, true, false, false, false, false, false, false, false, false, false, false, false, false, false, false, false, false, false, false, false, false, false, false] rfl rfl (any_of HT_.out (by kernel_rfl)) (fun _ _ _ h => h) (Or.inl ⟨by rfl, ?_⟩) ?_ ?_
               rotate_left
               ·intro w'
                go_simp
                with_reducible rfl
               rotate_left
               ·simp only [Act.put, List.setIfInBounds_toArray, List.set_cons_zero, List.set_cons_succ, i64_w, i32_w]
                rfl
               refine take_ (i := 2) (N := some 86) (v := ?_) (a' := ?_) #[true, true, true, false, false, false, false, false, false, false, false, false, false, false, false, false, false, false, false, false, false, false, false, false] rfl rfl (take_ofW HT_.out HW_.out (by kernel_rfl)) (fun _ _ _ h => h) (Or.inl ⟨by rfl, ?_⟩) hHeld ?_ ?_
               rotate_left
               ·rintro w' ⟨s0, s1, s2, s3, s4, s5⟩
                go_simp
                with_reducible rfl
               rotate_left
               ·simp only [Act.put, List.setIfInBounds_toArray, List.set_cons_zero, List.set_cons_succ, i64_w, i32_w]
                rfl
               refine one_ (i := 3) (N := some 87) #[true, true, true, true, false, false, false, false, false, false, false, false, false, false, false, false, false, false, false, false, false, false, false, false] rfl rfl (one_of HT_.out (by kernel_rfl)) (by decide) (fun K hK => ?_)
               refine goes_ Tryd.func32 (by kernel_rfl) rfl #[] (by rfl) rfl rfl (by (try simp only [List.map_toArray, List.map_cons, List.map_nil]); first | done | rfl | (simp only [List.length_drop, List.length_take]; rfl)) ?_
               with_reducible refine (whittlelaw1_zero.calls  t674 t675 _ A89.out).mono ?_
               rintro e w139 ⟨rfl, hb⟩
               refine ⟨_, rfl, ?_⟩
               have n0_ := Aside0.mk (Boxes.below (by (with_reducible repeat (first | apply boxes_drewN | apply boxes_drew | apply boxes_alloc)); exact BX.out) hb)
               have n1_ := Aside0.mk (below_step (by repeat (first | (with_reducible first | exact HB.out | apply below_alloc | apply pw_below_drewN | apply below_drew1 | refine below_set ?_ (Aside0.out (by assumption))) | exact HB.out)) hb)
               clear BX HB
               have BX := n0_
               have HB := n1_
               clear n0_ n1_
               (try clear hb)
               (try clear hb2)
               (try clear hk)
               (try clear hi)
               refine hK.out _ _ ⟨(blk_cell (BX.out.get 1 rfl) 0).trans rfl, (blk_cell (BX.out.get 1 rfl) 1).trans rfl, (blk_cell (BX.out.get 5 rfl) 0).trans rfl, (blk_cell (BX.out.get 5 rfl) 1).trans rfl, (blk_cell (BX.out.get 0 rfl) 0).trans rfl, (blk_cell (BX.out.get 0 rfl) 1).trans rfl⟩ (fun hHeld => ?_)
               clear hK K
               refine norm_ (a' := ?_) ?_ ?_
               rotate_left
               ·show Act.put _ (some 87) _ = _
                simp only [Act.put, List.setIfInBounds_toArray, List.set_cons_zero, List.set_cons_succ, i64_w, i32_w]
                rfl
               refine pure_ (i := 4) (N := some 88) (v := ?_) (a' := ?_) #[true, true, true, true, true, false, false, false, false, false, false, false, false, false, false, false, false, false, false, false, false, false, false, false] rfl rfl (any_of HT_.out (by kernel_rfl)) (fun _ _ _ h => h) (Or.inl ⟨by rfl, ?_⟩) ?_ ?_
               rotate_left
               ·intro w'
                go_simp
                with_reducible rfl
               rotate_left
               ·simp only [Act.put, List.setIfInBounds_toArray, List.set_cons_zero, List.set_cons_succ, i64_w, i32_w]
                rfl
               refine pure_ (i := 5) (N := some 89) (v := ?_) (a' := ?_) #[true, true, true, true, true, true, false, false, false, false, false, false, false, false, false, false, false, false, false, false, false, false, false, false] rfl rfl (any_of HT_.out (by kernel_rfl)) (fun _ _ _ h => h) (Or.inl ⟨by rfl, ?_⟩) ?_ ?_
               rotate_left
               ·intro w'
                go_simp
                with_reducible rfl
               rotate_left
               ·simp only [Act.put, List.setIfInBounds_toArray, List.set_cons_zero, List.set_cons_succ, i64_w, i32_w]
                rfl
               refine pure_ (i := 6) (N := some 90) (v := ?_) (a' := ?_) #[true, true, true, true, true, true, true, false, false, false, false, false, false, false, false, false, false, false, false, false, false, false, false, false] rfl rfl (any_of HT_.out (by kernel_rfl)) (fun _ _ _ h => h) (Or.inl ⟨by rfl, ?_⟩) ?_ ?_
               rotate_left
               ·intro w'
                go_simp
                with_reducible rfl
               rotate_left
               ·simp only [Act.put, List.setIfInBounds_toArray, List.set_cons_zero, List.set_cons_succ, i64_w, i32_w]
                rfl
               refine pure_ (i := 7) (N := some 91) (v := ?_) (a' := ?_) #[true, true, true, true, true, true, true, true, false, false, false, false, false, false, false, false, false, false, false, false, false, false, false, false] rfl rfl (any_of HT_.out (by kernel_rfl)) (fun _ _ _ h => h) (Or.inl ⟨by rfl, ?_⟩) ?_ ?_
               rotate_left
               ·intro w'
                go_simp
                with_reducible rfl
               rotate_left
               ·simp only [Act.put, List.setIfInBounds_toArray, List.set_cons_zero, List.set_cons_succ, i64_w, i32_w]
                rfl
               refine pure_ (i := 8) (N := some 92) (v := ?_) (a' := ?_) #[true, true, true, true, true, true, true, true, true, false, false, false, false, false, false, false, false, false, false, false, false, false, false, false] rfl rfl (any_of HT_.out (by kernel_rfl)) (fun _ _ _ h => h) (Or.inl ⟨by rfl, ?_⟩) ?_ ?_
               rotate_left
               ·intro w'
                go_simp
                with_reducible rfl
               rotate_left
               ·simp only [Act.put, List.setIfInBounds_toArray, List.set_cons_zero, List.set_cons_succ, i64_w, i32_w]
                rfl
               refine take_ (i := 9) (N := some 93) (v := ?_) (a' := ?_) #[true, true, true, true, true, true, true, true, true, true, false, false, false, false, false, false, false, false, false, false, false, false, false, false] rfl rfl (take_ofW HT_.out HW_.out (by kernel_rfl)) (fun _ _ _ h => h) (Or.inl ⟨by rfl, ?_⟩) hHeld ?_ ?_
               rotate_left
               ·rintro w' ⟨s0, s1, s2, s3, s4, s5⟩
                go_simp
                with_reducible rfl
               rotate_left
               ·simp only [Act.put, List.setIfInBounds_toArray, List.set_cons_zero, List.set_cons_succ, i64_w, i32_w]
                rfl
               refine pure_ (i := 10) (N := some 94) (v := ?_) (a' := ?_) #[true, true, true, true, true, true, true, true, true, true, true, false, false, false, false, false, false, false, false, false, false, false, false, false] rfl rfl (any_of HT_.out (by kernel_rfl)) (fun _ _ _ h => h) (Or.inl ⟨by rfl, ?_⟩) ?_ ?_
               rotate_left
               ·intro w'
                go_simp
                with_reducible rfl
               rotate_left
               ·simp only [Act.put, List.setIfInBounds_toArray, List.set_cons_zero, List.set_cons_succ, i64_w, i32_w]
                rfl
               refine pure_ (i := 11) (N := some 95) (v := ?_) (a' := ?_) #[true, true, true, true, true, true, true, true, true, true, true, true, false, false, false, false, false, false, false, false, false, false, false, false] rfl rfl (any_of HT_.out (by kernel_rfl)) (fun _ _ _ h => h) (Or.inl ⟨by rfl, ?_⟩) ?_ ?_
               rotate_left
               ·intro w'
                go_simp
                with_reducible rfl
               rotate_left
               ·simp only [Act.put, List.setIfInBounds_toArray, List.set_cons_zero, List.set_cons_succ, i64_w, i32_w]
                rfl
               refine pure_ (i := 12) (N := some 96) (v := ?_) (a' := ?_) #[true, true, true, true, true, true, true, true, true, true, true, true, true, false, false, false, false, false, false, false, false, false, false, false] rfl rfl (any_of HT_.out (by kernel_rfl)) (fun _ _ _ h => h) (Or.inl ⟨by rfl, ?_⟩) ?_ ?_
               rotate_left
               ·intro w'
                go_simp
                with_reducible rfl
               rotate_left
               ·simp only [Act.put, List.setIfInBounds_toArray, List.set_cons_zero, List.set_cons_succ, i64_w, i32_w]
                rfl
               refine pure_ (i := 13) (N := some 97) (v := ?_) (a' := ?_) #[true, true, true, true, true, true, true, true, true, true, true, true, true, true, false, false, false, false, false, false, false, false, false, false] rfl rfl (any_of HT_.out (by kernel_rfl)) (fun _ _ _ h => h) (Or.inl ⟨by rfl, ?_⟩) ?_ ?_
               rotate_left
               ·intro w'
                go_simp
                with_reducible rfl
               rotate_left
               ·simp only [Act.put, List.setIfInBounds_toArray, List.set_cons_zero, List.set_cons_succ, i64_w, i32_w]
                rfl
               refine pure_ (i := 14) (N := some 98) (v := ?_) (a' := ?_) #[true, true, true, true, true, true, true, true, true, true, true, true, true, true, true, false, false, false, false, false, false, false, false, false] rfl rfl (any_of HT_.out (by kernel_rfl)) (fun _ _ _ h => h) (Or.inl ⟨by rfl, ?_⟩) ?_ ?_
               rotate_left
               ·intro w'
                go_simp
                with_reducible rfl
               rotate_left
               ·simp only [Act.put, List.setIfInBounds_toArray, List.set_cons_zero, List.set_cons_succ, i64_w, i32_w]
                rfl
               refine take_ (i := 15) (N := some 99) (v := ?_) (a' := ?_) #[true, true, true, true, true, true, true, true, true, true, true, true, true, true, true, true, false, false, false, false, false, false, false, false] rfl rfl (take_ofW HT_.out HW_.out (by kernel_rfl)) (fun _ _ _ h => h) (Or.inl ⟨by rfl, ?_⟩) hHeld ?_ ?_
               rotate_left
               ·rintro w' ⟨s0, s1, s2, s3, s4, s5⟩
                go_simp
                with_reducible rfl
               rotate_left
               ·simp only [Act.put, List.setIfInBounds_toArray, List.set_cons_zero, List.set_cons_succ, i64_w, i32_w]
                rfl
               refine pure_ (i := 16) (N := some 100) (v := ?_) (a' := ?_) #[true, true, true, true, true, true, true, true, true, true, true, true, true, true, true, true, true, false, false, false, false, false, false, false] rfl rfl (any_of HT_.out (by kernel_rfl)) (fun _ _ _ h => h) (Or.inl ⟨by rfl, ?_⟩) ?_ ?_
               rotate_left
               ·intro w'
                go_simp
                with_reducible rfl
               rotate_left
               ·simp only [Act.put, List.setIfInBounds_toArray, List.set_cons_zero, List.set_cons_succ, i64_w, i32_w]
                rfl
               refine pure_ (i := 17) (N := some 101) (v := ?_) (a' := ?_) #[true, true, true, true, true, true, true, true, true, true, true, true, true, true, true, true, true, true, false, false, false, false, false, false] rfl rfl (any_of HT_.out (by kernel_rfl)) (fun _ _ _ h => h) (Or.inl ⟨by rfl, ?_⟩) ?_ ?_
               rotate_left
               ·intro w'
                go_simp
                with_reducible rfl
               rotate_left
               ·simp only [Act.put, List.setIfInBounds_toArray, List.set_cons_zero, List.set_cons_succ, i64_w, i32_w]
                rfl
               refine take_ (i := 18) (N := some 102) (v := ?_) (a' := ?_) #[true, true, true, true, true, true, true, true, true, true, true, true, true, true, true, true, true, true, true, false, false, false, false, false] rfl rfl (take_ofW HT_.out HW_.out (by kernel_rfl)) (fun _ _ _ h => h) (Or.inl ⟨by rfl, ?_⟩) hHeld ?_ ?_
               rotate_left
               ·rintro w' ⟨s0, s1, s2, s3, s4, s5⟩
                go_simp
                with_reducible rfl
               rotate_left
               ·simp only [Act.put, List.setIfInBounds_toArray, List.set_cons_zero, List.set_cons_succ, i64_w, i32_w]
                rfl
               refine one_ (i := 19) (N := some 103) #[true, true, true, true, true, true, true, true, true, true, true, true, true, true, true, true, true, true, true, true, false, false, false, false] rfl rfl (one_of HT_.out (by kernel_rfl)) (by decide) (fun K hK => ?_)
               refine goes_ Tryd.func48 (by kernel_rfl) rfl #[] (by rfl) rfl rfl (by (try simp only [List.map_toArray, List.map_cons, List.map_nil]); first | done | rfl | (simp only [List.length_drop, List.length_take]; rfl)) ?_
               with_reducible refine (whittlelaw1_one.calls  t676 t677 _ A116.out).mono ?_
               rintro e w140 ⟨rfl, hb⟩
               refine ⟨_, rfl, ?_⟩
               have n0_ := Aside0.mk (Boxes.below (by (with_reducible repeat (first | apply boxes_drewN | apply boxes_drew | apply boxes_alloc)); exact BX.out) hb)
               have n1_ := Aside0.mk (below_step (by repeat (first | (with_reducible first | exact HB.out | apply below_alloc | apply pw_below_drewN | apply below_drew1 | refine below_set ?_ (Aside0.out (by assumption))) | exact HB.out)) hb)
               clear BX HB
               have BX := n0_
               have HB := n1_
               clear n0_ n1_
               (try clear hb)
               (try clear hb2)
               (try clear hk)
               (try clear hi)
               refine hK.out _ _ ⟨(blk_cell (BX.out.get 1 rfl) 0).trans rfl, (blk_cell (BX.out.get 1 rfl) 1).trans rfl, (blk_cell (BX.out.get 5 rfl) 0).trans rfl, (blk_cell (BX.out.get 5 rfl) 1).trans rfl, (blk_cell (BX.out.get 0 rfl) 0).trans rfl, (blk_cell (BX.out.get 0 rfl) 1).trans rfl⟩ (fun hHeld => ?_)
               clear hK K
               refine norm_ (a' := ?_) ?_ ?_
               rotate_left
               ·show Act.put _ (some 103) _ = _
                simp only [Act.put, List.setIfInBounds_toArray, List.set_cons_zero, List.set_cons_succ, i64_w, i32_w]
                rfl
               refine pure_ (i := 20) (N := some 104) (v := ?_) (a' := ?_) #[true, true, true, true, true, true, true, true, true, true, true, true, true, true, true, true, true, true, true, true, true, false, false, false] rfl rfl (any_of HT_.out (by kernel_rfl)) (fun _ _ _ h => h) (Or.inl ⟨by rfl, ?_⟩) ?_ ?_
               rotate_left
               ·intro w'
                go_simp
                with_reducible rfl
               rotate_left
               ·simp only [Act.put, List.setIfInBounds_toArray, List.set_cons_zero, List.set_cons_succ, i64_w, i32_w]
                rfl
               refine pure_ (i := 21) (N := some 105) (v := ?_) (a' := ?_) #[true, true, true, true, true, true, true, true, true, true, true, true, true, true, true, true, true, true, true, true, true, true, false, false] rfl rfl (any_of HT_.out (by kernel_rfl)) (fun _ _ _ h => h) (Or.inl ⟨by rfl, ?_⟩) ?_ ?_
               rotate_left
               ·intro w'
                go_simp
                with_reducible rfl
               rotate_left
               ·simp only [Act.put, List.setIfInBounds_toArray, List.set_cons_zero, List.set_cons_succ, i64_w, i32_w]
                rfl
               refine pure_ (i := 22) (N := some 106) (v := ?_) (a' := ?_) #[true, true, true, true, true, true, true, true, true, true, true, true, true, true, true, true, true, true, true, true, true, true, true, false] rfl rfl (any_of HT_.out (by kernel_rfl)) (fun _ _ _ h => h) (Or.inl ⟨by rfl, ?_⟩) ?_ ?_
               rotate_left
               ·intro w'
                go_simp
                with_reducible rfl
               rotate_left
               ·simp only [Act.put, List.setIfInBounds_toArray, List.set_cons_zero, List.set_cons_succ, i64_w, i32_w]
                rfl
               refine pure_ (i := 23) (N := some 4) (v := ?_) (a' := ?_) #[true, true, true, true, true, true, true, true, true, true, true, true, true, true, true, true, true, true, true, true, true, true, true, true] rfl rfl (any_of HT_.out (by kernel_rfl)) (fun _ _ _ h => h) (Or.inl ⟨by rfl, ?_⟩) ?_ ?_
               rotate_left
               ·intro w'
                go_simp
                with_reducible rfl
               rotate_left
               ·simp only [Act.put, List.setIfInBounds_toArray, List.set_cons_zero, List.set_cons_succ, i64_w, i32_w]
                rfl
               refine done_ (done_of HT_.out (by kernel_rfl)) ?_
               try go_wp2
               go_ret
               exact ⟨by first | rfl | (simp [errW_none, errW_some] <;> rfl) | (simp [*, errW_none, errW_some] <;> rfl), by repeat (first | (with_reducible first | exact HB.out | apply below_alloc | apply pw_below_drewN | apply below_drew1 | refine below_set ?_ (Aside0.out (by assumption))) | exact HB.out)⟩
             ·rw [if_neg c91] at H
              have c91b0 : (t672 == (a0_0 != 0)) = false := by simpa using c91
              (try (have c91b1 : decide (t672 = (a0_0 != 0)) = false := by simpa using c91))
              (try (have c91b2 : (t672 == (a0_0 != 0)) = false := by simpa using c91))
              (try (have c91b3 : ¬ (t672 = (a0_0 != 0)) := by simpa using c91))
              clear c91
              exact absurd (Option.some.inj H) (by rw [HR.out]; decide)
            ·rw [if_neg c90] at H
             have c90b0 : (t666 == t674 && (t667 == t675)) = false := by simpa using c90
             (try (have c90b1 : decide (t666 = t674 && (t667 == t675)) = false := by simpa using c90))
             (try (have c90b2 : (t666 == t674 && (t667 == t675)) = false := by simpa using c90))
             (try (have c90b3 : ¬ (t666 = t674 && (t667 == t675)) := by simpa using c90))
             clear c90
             exact absurd (Option.some.inj H) (by rw [HR.out]; decide)
           ·replace c88 := Bool.eq_false_iff.mpr c88
            subst c88
            have H1 : (some false) = some r := by rw [if_neg (show ¬ (false = true) by decide)] at H; exact H
            clear H
            have H := H1
            clear H1
            exact absurd (Option.some.inj H) (by rw [HR.out]; decide)
 ·replace c4 := Bool.eq_false_iff.mpr c4
  subst c4
  have H1 : (some false) = some r := by rw [if_neg (show ¬ (false = true) by decide)] at H; exact H
  clear H
  have H := H1
  clear H1
  exact absurd (Option.some.inj H) (by rw [HR.out]; decide)

end Go.Proofs.YtlcjfabbnclalaaDoor.F
