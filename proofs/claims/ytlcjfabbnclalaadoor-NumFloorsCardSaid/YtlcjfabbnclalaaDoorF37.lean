-- Laid by program (wip/tools/gen.sh of this repo) out of the translation; Lean checks it.
import Derived.Test.YtlcjfabbnclalaaDoorF0
import Derived.Test.YtlcjfabbnclalaaDoorB0
import Derived.Test.YtlcjfabbnclalaaDoorF3
import Derived.Test.YtlcjfabbnclalaaDoorF5
import Derived.Test.YtlcjfabbnclalaaDoorF6
import Derived.Test.YtlcjfabbnclalaaDoorF15
import Derived.Test.YtlcjfabbnclalaaDoorF17
import Derived.Test.YtlcjfabbnclalaaDoorF23
import Derived.Test.YtlcjfabbnclalaaDoorF29
import Derived.Test.YtlcjfabbnclalaaDoorF31
import Derived.Test.YtlcjfabbnclalaaDoorF34
import Derived.Test.YtlcjfabbnclalaaDoorG1
namespace Go.Proofs.YtlcjfabbnclalaaDoor.F
open Go.RowKit Go.Proofs.YtlcjfabbnclalaaDoorW.PrintWords Go.Proofs.YtlcjfabbnclalaaDoorW.PrintLast Go.Proofs.YtlcjfabbnclalaaDoorW.PrintMore
attribute [local go_sem] max2_int min2_int max_two min_two max_three min_three max_four min_four   -- for this text's walks alone
set_option linter.unusedVariables false
set_option linter.unusedSimpArgs false

/-! ### whittlelaw1_NumFloors: function 18 -/
mutual
def whittlelaw1_NumFloors.j0 : Nat → Bool → Int → Int → Int → Int → Option (Bool)
 | 0, _, _, _, _, _ => none
 | k + 1, x30, x806000, x806001, x807000, x807001 => if x30 = true then ((whittlelaw1_able.f k).bind fun t810 => (some t810)) else ((num_Floor.f k x806000 x806001).bind fun bt811 => ((num_Whole.f k bt811.1 bt811.2).bind fun bt814 => (if bt814.2 = true then (if bt811.2 = 1 then (if bt814.1 = bt811.1 then ((num_Cmp.f k bt811.1 bt811.2 x806000 x806001).bind fun t816 => (whittlelaw1_NumFloors.j1 k (decide (t816 > 0)) x806000 x806001 x807000 x807001 bt811.1 bt811.2)) else (whittlelaw1_NumFloors.j1 k true x806000 x806001 x807000 x807001 bt811.1 bt811.2)) else (whittlelaw1_NumFloors.j1 k true x806000 x806001 x807000 x807001 bt811.1 bt811.2)) else (whittlelaw1_NumFloors.j1 k true x806000 x806001 x807000 x807001 bt811.1 bt811.2))))
def whittlelaw1_NumFloors.j1 : Nat → Bool → Int → Int → Int → Int → Int → Int → Option (Bool)
 | 0, _, _, _, _, _, _, _ => none
 | k + 1, x57, x806000, x806001, x807000, x807001, x814000, x814001 => if x57 = true then (some false) else ((whittlelaw1_one.f).bind fun bt817 => ((num_Add.f k x814000 x814001 bt817.1 bt817.2).bind fun bt819 => (if bt819.2.2 = true then ((num_Cmp.f k x806000 x806001 bt819.1 bt819.2.1).bind fun t823 => (whittlelaw1_NumFloors.j2 k (decide (t823 ≥ 0)) x806000 x806001 x807000 x807001)) else (whittlelaw1_NumFloors.j2 k false x806000 x806001 x807000 x807001))))
def whittlelaw1_NumFloors.j2 : Nat → Bool → Int → Int → Int → Int → Option (Bool)
 | 0, _, _, _, _, _ => none
 | k + 1, x70, x806000, x806001, x807000, x807001 => if x70 = true then (some false) else ((num_Mod.f k x806000 x806001 x807000 x807001).bind fun bt824 => (if x807000 = 0 then (some (!bt824.2.2)) else (if bt824.2.2 = true then ((whittlelaw1_zero.f).bind fun bt828 => ((num_Cmp.f k x807000 x807001 bt828.1 bt828.2).bind fun t830 => ((whittlelaw1_zero.f).bind fun bt831 => ((num_Cmp.f k bt824.1 bt824.2.1 bt831.1 bt831.2).bind fun t833 => (if t833 = (wrap64 (-t830)) then (whittlelaw1_NumFloors.j3 k true x806000 x806001 x807000 x807001 bt824.1 bt824.2.1) else ((num_Cmp.f k bt824.1 bt824.2.1 x807000 x807001).bind fun t834 => (whittlelaw1_NumFloors.j3 k (decide ((wrap64 (t834 * t830)) ≥ 0)) x806000 x806001 x807000 x807001 bt824.1 bt824.2.1))))))) else (some true))))
def whittlelaw1_NumFloors.j3 : Nat → Bool → Int → Int → Int → Int → Int → Int → Option (Bool)
 | 0, _, _, _, _, _, _, _ => none
 | k + 1, x100, x806000, x806001, x807000, x807001, x828000, x828001 => if x100 = true then (some false) else ((num_Sub.f k x806000 x806001 x828000 x828001).bind fun bt835 => ((num_Div.f k bt835.1 bt835.2.1 x807000 x807001).bind fun bt839 => (if bt835.2.2 = true then (if bt839.2.2 = true then ((num_Whole.f k bt839.1 bt839.2.1).bind fun bt843 => (some bt843.2)) else (some true)) else (some true))))
end
def whittlelaw1_NumFloors.f (k : Nat) (a0_0 : Int) (a0_1 : Int) (a1_0 : Int) (a1_1 : Int) : Option (Bool) := (whittlelaw1_able.f k).bind fun t807 => (if t807 = true then ((whittlelaw1_right.f k a0_0 a0_1).bind fun t808 => (if t808 = true then ((whittlelaw1_right.f k a1_0 a1_1).bind fun t809 => (whittlelaw1_NumFloors.j0 k (!t809) a0_0 a0_1 a1_0 a1_1)) else (whittlelaw1_NumFloors.j0 k true a0_0 a0_1 a1_0 a1_1))) else (whittlelaw1_NumFloors.j0 k true a0_0 a0_1 a1_0 a1_1))
theorem whittlelaw1_NumFloors.mono_l : ∀ k, (∀ y0 y1 y2 y3 y4, LeO (whittlelaw1_NumFloors.j0 k y0 y1 y2 y3 y4) (whittlelaw1_NumFloors.j0 (k + 1) y0 y1 y2 y3 y4)) ∧ (∀ y0 y1 y2 y3 y4 y5 y6, LeO (whittlelaw1_NumFloors.j1 k y0 y1 y2 y3 y4 y5 y6) (whittlelaw1_NumFloors.j1 (k + 1) y0 y1 y2 y3 y4 y5 y6)) ∧ (∀ y0 y1 y2 y3 y4, LeO (whittlelaw1_NumFloors.j2 k y0 y1 y2 y3 y4) (whittlelaw1_NumFloors.j2 (k + 1) y0 y1 y2 y3 y4)) ∧ (∀ y0 y1 y2 y3 y4 y5 y6, LeO (whittlelaw1_NumFloors.j3 k y0 y1 y2 y3 y4 y5 y6) (whittlelaw1_NumFloors.j3 (k + 1) y0 y1 y2 y3 y4 y5 y6))
 | 0 => ⟨fun _ _ _ _ _ r h => by simp [whittlelaw1_NumFloors.j0] at h, fun _ _ _ _ _ _ _ r h => by simp [whittlelaw1_NumFloors.j1] at h, fun _ _ _ _ _ r h => by simp [whittlelaw1_NumFloors.j2] at h, fun _ _ _ _ _ _ _ r h => by simp [whittlelaw1_NumFloors.j3] at h⟩
 | k + 1 => by
  obtain ⟨ih0, ih1, ih2, ih3⟩ := whittlelaw1_NumFloors.mono_l k
  refine ⟨?_, ?_, ?_, ?_⟩
  ·intro y0 y1 y2 y3 y4
   unfold whittlelaw1_NumFloors.j0
   repeat' first
   | (with_reducible exact ih0 _ _ _ _ _)
   | (with_reducible exact ih1 _ _ _ _ _ _ _)
   | (with_reducible exact ih2 _ _ _ _ _)
   | (with_reducible exact ih3 _ _ _ _ _ _ _)
   | (with_reducible exact num_Add.mono _ _ _ _ _)
   | (with_reducible exact num_Cmp.mono _ _ _ _ _)
   | (with_reducible exact num_Div.mono _ _ _ _ _)
   | (with_reducible exact num_Floor.mono _ _ _)
   | (with_reducible exact num_Mod.mono _ _ _ _ _)
   | (with_reducible exact num_Sub.mono _ _ _ _ _)
   | (with_reducible exact num_Whole.mono _ _ _)
   | (with_reducible exact whittlelaw1_able.mono _)
   | (with_reducible exact whittlelaw1_right.mono _ _ _)
   | (with_reducible exact LeO.refl _)
   | (with_reducible exact LeO.none _)
   | (with_reducible refine LeO.ite ?_ ?_)
   | (with_reducible refine LeO.bind ?_ (fun _ => ?_))
   | exact ih0 _ _ _ _ _
   | exact ih1 _ _ _ _ _ _ _
   | exact ih2 _ _ _ _ _
   | exact ih3 _ _ _ _ _ _ _
   | exact num_Add.mono _ _ _ _ _
   | exact num_Cmp.mono _ _ _ _ _
   | exact num_Div.mono _ _ _ _ _
   | exact num_Floor.mono _ _ _
   | exact num_Mod.mono _ _ _ _ _
   | exact num_Sub.mono _ _ _ _ _
   | exact num_Whole.mono _ _ _
   | exact whittlelaw1_able.mono _
   | exact whittlelaw1_right.mono _ _ _
   | exact LeO.none _
   | refine LeO.ite ?_ ?_
   | refine LeO.bind ?_ (fun _ => ?_)
  ·intro y0 y1 y2 y3 y4 y5 y6
   unfold whittlelaw1_NumFloors.j1
   repeat' first
   | (with_reducible exact ih0 _ _ _ _ _)
   | (with_reducible exact ih1 _ _ _ _ _ _ _)
   | (with_reducible exact ih2 _ _ _ _ _)
   | (with_reducible exact ih3 _ _ _ _ _ _ _)
   | (with_reducible exact num_Add.mono _ _ _ _ _)
   | (with_reducible exact num_Cmp.mono _ _ _ _ _)
   | (with_reducible exact num_Div.mono _ _ _ _ _)
   | (with_reducible exact num_Floor.mono _ _ _)
   | (with_reducible exact num_Mod.mono _ _ _ _ _)
   | (with_reducible exact num_Sub.mono _ _ _ _ _)
   | (with_reducible exact num_Whole.mono _ _ _)
   | (with_reducible exact whittlelaw1_able.mono _)
   | (with_reducible exact whittlelaw1_right.mono _ _ _)
   | (with_reducible exact LeO.refl _)
   | (with_reducible exact LeO.none _)
   | (with_reducible refine LeO.ite ?_ ?_)
   | (with_reducible refine LeO.bind ?_ (fun _ => ?_))
   | exact ih0 _ _ _ _ _
   | exact ih1 _ _ _ _ _ _ _
   | exact ih2 _ _ _ _ _
   | exact ih3 _ _ _ _ _ _ _
   | exact num_Add.mono _ _ _ _ _
   | exact num_Cmp.mono _ _ _ _ _
   | exact num_Div.mono _ _ _ _ _
   | exact num_Floor.mono _ _ _
   | exact num_Mod.mono _ _ _ _ _
   | exact num_Sub.mono _ _ _ _ _
   | exact num_Whole.mono _ _ _
   | exact whittlelaw1_able.mono _
   | exact whittlelaw1_right.mono _ _ _
   | exact LeO.none _
   | refine LeO.ite ?_ ?_
   | refine LeO.bind ?_ (fun _ => ?_)
  ·intro y0 y1 y2 y3 y4
   unfold whittlelaw1_NumFloors.j2
   repeat' first
   | (with_reducible exact ih0 _ _ _ _ _)
   | (with_reducible exact ih1 _ _ _ _ _ _ _)
   | (with_reducible exact ih2 _ _ _ _ _)
   | (with_reducible exact ih3 _ _ _ _ _ _ _)
   | (with_reducible exact num_Add.mono _ _ _ _ _)
   | (with_reducible exact num_Cmp.mono _ _ _ _ _)
   | (with_reducible exact num_Div.mono _ _ _ _ _)
   | (with_reducible exact num_Floor.mono _ _ _)
   | (with_reducible exact num_Mod.mono _ _ _ _ _)
   | (with_reducible exact num_Sub.mono _ _ _ _ _)
   | (with_reducible exact num_Whole.mono _ _ _)
   | (with_reducible exact whittlelaw1_able.mono _)
   | (with_reducible exact whittlelaw1_right.mono _ _ _)
   | (with_reducible exact LeO.refl _)
   | (with_reducible exact LeO.none _)
   | (with_reducible refine LeO.ite ?_ ?_)
   | (with_reducible refine LeO.bind ?_ (fun _ => ?_))
   | exact ih0 _ _ _ _ _
   | exact ih1 _ _ _ _ _ _ _
   | exact ih2 _ _ _ _ _
   | exact ih3 _ _ _ _ _ _ _
   | exact num_Add.mono _ _ _ _ _
   | exact num_Cmp.mono _ _ _ _ _
   | exact num_Div.mono _ _ _ _ _
   | exact num_Floor.mono _ _ _
   | exact num_Mod.mono _ _ _ _ _
   | exact num_Sub.mono _ _ _ _ _
   | exact num_Whole.mono _ _ _
   | exact whittlelaw1_able.mono _
   | exact whittlelaw1_right.mono _ _ _
   | exact LeO.none _
   | refine LeO.ite ?_ ?_
   | refine LeO.bind ?_ (fun _ => ?_)
  ·intro y0 y1 y2 y3 y4 y5 y6
   unfold whittlelaw1_NumFloors.j3
   repeat' first
   | (with_reducible exact ih0 _ _ _ _ _)
   | (with_reducible exact ih1 _ _ _ _ _ _ _)
   | (with_reducible exact ih2 _ _ _ _ _)
   | (with_reducible exact ih3 _ _ _ _ _ _ _)
   | (with_reducible exact num_Add.mono _ _ _ _ _)
   | (with_reducible exact num_Cmp.mono _ _ _ _ _)
   | (with_reducible exact num_Div.mono _ _ _ _ _)
   | (with_reducible exact num_Floor.mono _ _ _)
   | (with_reducible exact num_Mod.mono _ _ _ _ _)
   | (with_reducible exact num_Sub.mono _ _ _ _ _)
   | (with_reducible exact num_Whole.mono _ _ _)
   | (with_reducible exact whittlelaw1_able.mono _)
   | (with_reducible exact whittlelaw1_right.mono _ _ _)
   | (with_reducible exact LeO.refl _)
   | (with_reducible exact LeO.none _)
   | (with_reducible refine LeO.ite ?_ ?_)
   | (with_reducible refine LeO.bind ?_ (fun _ => ?_))
   | exact ih0 _ _ _ _ _
   | exact ih1 _ _ _ _ _ _ _
   | exact ih2 _ _ _ _ _
   | exact ih3 _ _ _ _ _ _ _
   | exact num_Add.mono _ _ _ _ _
   | exact num_Cmp.mono _ _ _ _ _
   | exact num_Div.mono _ _ _ _ _
   | exact num_Floor.mono _ _ _
   | exact num_Mod.mono _ _ _ _ _
   | exact num_Sub.mono _ _ _ _ _
   | exact num_Whole.mono _ _ _
   | exact whittlelaw1_able.mono _
   | exact whittlelaw1_right.mono _ _ _
   | exact LeO.none _
   | refine LeO.ite ?_ ?_
   | refine LeO.bind ?_ (fun _ => ?_)
theorem whittlelaw1_NumFloors.mono : ∀ a0 a1 a2 a3 k, LeO (whittlelaw1_NumFloors.f k a0 a1 a2 a3) (whittlelaw1_NumFloors.f (k + 1) a0 a1 a2 a3) := by
 intro a0 a1 a2 a3 k
 obtain ⟨ih0, ih1, ih2, ih3⟩ := whittlelaw1_NumFloors.mono_l k
 unfold whittlelaw1_NumFloors.f
 repeat' first
   | (with_reducible exact ih0 _ _ _ _ _)
   | (with_reducible exact ih1 _ _ _ _ _ _ _)
   | (with_reducible exact ih2 _ _ _ _ _)
   | (with_reducible exact ih3 _ _ _ _ _ _ _)
   | (with_reducible exact num_Add.mono _ _ _ _ _)
   | (with_reducible exact num_Cmp.mono _ _ _ _ _)
   | (with_reducible exact num_Div.mono _ _ _ _ _)
   | (with_reducible exact num_Floor.mono _ _ _)
   | (with_reducible exact num_Mod.mono _ _ _ _ _)
   | (with_reducible exact num_Sub.mono _ _ _ _ _)
   | (with_reducible exact num_Whole.mono _ _ _)
   | (with_reducible exact whittlelaw1_able.mono _)
   | (with_reducible exact whittlelaw1_right.mono _ _ _)
   | (with_reducible exact LeO.refl _)
   | (with_reducible exact LeO.none _)
   | (with_reducible refine LeO.ite ?_ ?_)
   | (with_reducible refine LeO.bind ?_ (fun _ => ?_))
   | exact ih0 _ _ _ _ _
   | exact ih1 _ _ _ _ _ _ _
   | exact ih2 _ _ _ _ _
   | exact ih3 _ _ _ _ _ _ _
   | exact num_Add.mono _ _ _ _ _
   | exact num_Cmp.mono _ _ _ _ _
   | exact num_Div.mono _ _ _ _ _
   | exact num_Floor.mono _ _ _
   | exact num_Mod.mono _ _ _ _ _
   | exact num_Sub.mono _ _ _ _ _
   | exact num_Whole.mono _ _ _
   | exact whittlelaw1_able.mono _
   | exact whittlelaw1_right.mono _ _ _
   | exact LeO.none _
   | refine LeO.ite ?_ ?_
   | refine LeO.bind ?_ (fun _ => ?_)
def whittlelaw1_NumFloors.T7 : Bool × List (List Nat × List Nat) := (true, [([], []), ([], []), ([0, 1, 1], [0, 1]), ([2], [2]), ([3], [3]), ([3], [3]), ([], []), ([6, 4, 2, 0, 1, 2, 3, 4, 6], [4, 6]), ([5, 7, 0, 1, 2, 3, 4, 5, 6, 7], [5])])
def whittlelaw1_NumFloors.B7 : List Nat := [0, 0, 3, 7, 15, 15, 0, 95, 255]
theorem whittlelaw1_NumFloors.tab7 : rtab .any (opsOf Tryd.f18 7) = whittlelaw1_NumFloors.T7 := by kernel_rfl
theorem whittlelaw1_NumFloors.bits7 : waitsOk whittlelaw1_NumFloors.T7.2 whittlelaw1_NumFloors.B7 = true := by kernel_rfl
def whittlelaw1_NumFloors.T16 : Bool × List (List Nat × List Nat) := (true, [([], []), ([], []), ([0, 1, 1], [0, 1]), ([], []), ([3], [3]), ([2, 4], [2, 4]), ([5, 2], [5]), ([6], [6]), ([6], [6]), ([7, 8, 6, 6], [6, 7, 8]), ([6], [6]), ([9, 10, 6], [6, 9, 10]), ([11, 6], [6, 11]), ([6, 12], [6, 12])])
def whittlelaw1_NumFloors.B16 : List Nat := [0, 0, 3, 0, 8, 31, 63, 127, 127, 511, 127, 2047, 4095, 8191]
theorem whittlelaw1_NumFloors.tab16 : rtab .any (opsOf Tryd.f18 16) = whittlelaw1_NumFloors.T16 := by kernel_rfl
theorem whittlelaw1_NumFloors.bits16 : waitsOk whittlelaw1_NumFloors.T16.2 whittlelaw1_NumFloors.B16 = true := by kernel_rfl
set_option maxHeartbeats 8000000 in
set_option maxRecDepth 100000 in
theorem whittlelaw1_NumFloors.calls (k : Nat) (a0_0 : Int) (a0_1 : Int) (a1_0 : Int) (a1_1 : Int) (r : Bool) (w : World) (HT0 : TabAt w) (hr0 : r = true) (h : whittlelaw1_NumFloors.f k a0_0 a0_1 a1_0 a1_1 = some r) :
  Calls Tryd.prog 18 #[.agg #[.int .i64 a0_0, .int .i64 a0_1], .agg #[.int .i64 a1_0, .int .i64 a1_1]] w fun e w' => e = .returned (.bool r) ∧ Below w.heap.size w w' := by
 have hu23 := Tryd.underlying23
 have HT := Aside0.mk HT0
 clear HT0
 have HR := Aside0.mk hr0
 clear hr0
 have HB := Aside0.mk (Below.refl w.heap.size w)
 have H : ((whittlelaw1_able.f k).bind fun t807 => (if t807 = true then ((whittlelaw1_right.f k a0_0 a0_1).bind fun t808 => (if t808 = true then ((whittlelaw1_right.f k a1_0 a1_1).bind fun t809 => (whittlelaw1_NumFloors.j0 k (!t809) a0_0 a0_1 a1_0 a1_1)) else (whittlelaw1_NumFloors.j0 k true a0_0 a0_1 a1_0 a1_1))) else (whittlelaw1_NumFloors.j0 k true a0_0 a0_1 a1_0 a1_1))) = some r := h
 clear h
 have HC3 := Aside0.mk H
 clear H
 go_enter Tryd.func18, Tryd.ntmps18
 go_upto_region 1 with (first | ((with_reducible refine gate_dst (N := 2) rfl ?_); refine box_event ?hg (N := 2) ?hd (cs := #[.int .i64 a0_0, .int .i64 a0_1]) (t := 23) ?hr ?_; (case hd => rfl); (case hg => rfl); (case hr => first | (go_simp; done) | (go_simp; rfl)); intro gb805 hg w4 hbox hb; have n0_ := Aside0.mk (Boxes.new (b := w.heap.size) (L := []) trivial hg hbox hb (below_size (by repeat (first | (with_reducible first | exact HB.out | apply below_alloc | apply pw_below_drewN | apply below_drew1 | refine below_set ?_ (Aside0.out (by assumption))) | exact HB.out)))); have n1_ := Aside0.mk (below_step (by repeat (first | (with_reducible first | exact HB.out | apply below_alloc | apply pw_below_drewN | apply below_drew1 | refine below_set ?_ (Aside0.out (by assumption))) | exact HB.out)) hb); have n2_ := Aside0.mk ((by rw [hg]; exact (below_size (by repeat (first | (with_reducible first | exact HB.out | apply below_alloc | apply pw_below_drewN | apply below_drew1 | refine below_set ?_ (Aside0.out (by assumption))) | exact HB.out))) : w.heap.size ≤ gb805)); clear HB; have BX := n0_; have HB := n1_; have GE805 := n2_; clear n0_ n1_ n2_; clear hb hbox hg) | ((with_reducible refine gate_dst (N := 3) rfl ?_); refine box_event ?hg (N := 3) ?hd (cs := #[.int .i64 a1_0, .int .i64 a1_1]) (t := 23) ?hr ?_; (case hd => rfl); (case hg => rfl); (case hr => first | (go_simp; done) | (go_simp; rfl)); intro gb806 hg w5 hbox hb; have n0_ := Aside0.mk (Boxes.new (by (with_reducible repeat (first | apply boxes_drewN | apply boxes_drew | apply boxes_alloc)); exact BX.out) hg hbox hb (below_size (by repeat (first | (with_reducible first | exact HB.out | apply below_alloc | apply pw_below_drewN | apply below_drew1 | refine below_set ?_ (Aside0.out (by assumption))) | exact HB.out)))); have n1_ := Aside0.mk (below_step (by repeat (first | (with_reducible first | exact HB.out | apply below_alloc | apply pw_below_drewN | apply below_drew1 | refine below_set ?_ (Aside0.out (by assumption))) | exact HB.out)) hb); have n2_ := Aside0.mk ((by rw [hg]; exact (below_size (by repeat (first | (with_reducible first | exact HB.out | apply below_alloc | apply pw_below_drewN | apply below_drew1 | refine below_set ?_ (Aside0.out (by assumption))) | exact HB.out))) : w.heap.size ≤ gb806)); clear BX HB; have BX := n0_; have HB := n1_; have GE806 := n2_; clear n0_ n1_ n2_; clear hb hbox hg))
 (try simp only [Act.put, List.setIfInBounds_toArray, List.set_cons_zero, List.set_cons_succ])
 go_cut [30] (fun v30 wc => ∃ (kq : Nat) (x30_2 : Bool), v30 = .bool x30_2 ∧ Aside0 (whittlelaw1_NumFloors.j0 kq x30_2 a0_0 a0_1 a1_0 a1_1 = some r) ∧ Aside0 (kq ≤ k) ∧ Aside0 (Boxes w.heap.size wc [(gb806, 23, #[.int .i64 a1_0, .int .i64 a1_1]), (gb805, 23, #[.int .i64 a0_0, .int .i64 a0_1])]) ∧ Aside0 (Below w.heap.size w wc))
 case first =>
  have H := HC3.out
  clear HC3
  replace H := Option.bind_eq_some_iff.mp H
  obtain ⟨t807, A60, H⟩ := H
  replace H : (if t807 = true then ((whittlelaw1_right.f k a0_0 a0_1).bind fun t808 => (if t808 = true then ((whittlelaw1_right.f k a1_0 a1_1).bind fun t809 => (whittlelaw1_NumFloors.j0 k (!t809) a0_0 a0_1 a1_0 a1_1)) else (whittlelaw1_NumFloors.j0 k true a0_0 a0_1 a1_0 a1_1))) else (whittlelaw1_NumFloors.j0 k true a0_0 a0_1 a1_0 a1_1)) = some r := H
  have A6 := Aside0.mk A60
  clear A60
  by_cases c7 : t807 = true
  ·subst c7
   have H1 : ((whittlelaw1_right.f k a0_0 a0_1).bind fun t808 => (if t808 = true then ((whittlelaw1_right.f k a1_0 a1_1).bind fun t809 => (whittlelaw1_NumFloors.j0 k (!t809) a0_0 a0_1 a1_0 a1_1)) else (whittlelaw1_NumFloors.j0 k true a0_0 a0_1 a1_0 a1_1))) = some r := by rw [if_pos rfl] at H; exact H
   clear H
   have H := H1
   clear H1
   replace H := Option.bind_eq_some_iff.mp H
   obtain ⟨t808, A80, H⟩ := H
   replace H : (if t808 = true then ((whittlelaw1_right.f k a1_0 a1_1).bind fun t809 => (whittlelaw1_NumFloors.j0 k (!t809) a0_0 a0_1 a1_0 a1_1)) else (whittlelaw1_NumFloors.j0 k true a0_0 a0_1 a1_0 a1_1)) = some r := H
   have A8 := Aside0.mk A80
   clear A80
   by_cases c9 : t808 = true
   ·subst c9
    have H1 : ((whittlelaw1_right.f k a1_0 a1_1).bind fun t809 => (whittlelaw1_NumFloors.j0 k (!t809) a0_0 a0_1 a1_0 a1_1)) = some r := by rw [if_pos rfl] at H; exact H
    clear H
    have H := H1
    clear H1
    replace H := Option.bind_eq_some_iff.mp H
    obtain ⟨t809, A100, H⟩ := H
    replace H : (whittlelaw1_NumFloors.j0 k (!t809) a0_0 a0_1 a1_0 a1_1) = some r := H
    have A10 := Aside0.mk A100
    clear A100
    have H' := Aside0.mk H
    clear H
    go_wp2_with (first | ((with_reducible refine gate_callee (f := 22) rfl ?_); refine goesL_ (some 19) rfl rfl Tryd.func22 (by kernel_rfl) rfl #[] rfl (by (try simp only [List.map_toArray, List.map_cons, List.map_nil]); first | done | rfl | (simp only [List.length_drop, List.length_take]; rfl)) ?_; (with_reducible refine (whittlelaw1_able.calls k  true _ ?side1 A6.out).mono ?_); (case side1 => exact HT.out.on (by repeat (first | (with_reducible first | exact HB.out | apply below_alloc | apply pw_below_drewN | apply below_drew1 | refine below_set ?_ (Aside0.out (by assumption))) | exact HB.out))); rintro e w11 ⟨rfl, hb⟩; refine ⟨_, rfl, ?_⟩; have n0_ := Aside0.mk (Boxes.below (by (with_reducible repeat (first | apply boxes_drewN | apply boxes_drew | apply boxes_alloc)); exact BX.out) hb); have n1_ := Aside0.mk (below_step (by repeat (first | (with_reducible first | exact HB.out | apply below_alloc | apply pw_below_drewN | apply below_drew1 | refine below_set ?_ (Aside0.out (by assumption))) | exact HB.out)) hb); clear BX HB; have BX := n0_; have HB := n1_; clear n0_ n1_; (try clear hb); (try clear hb2); (try clear hk); (try clear hi); obtain ⟨⟨hnc12, hnb12⟩, -⟩ := BX.out.apart 0 rfl; have hcz13_0 : w11.cell? ⟨gb805, 0, none⟩ = some (.int .i64 a0_0) := (blk_cell (BX.out.get 1 rfl) 0).trans rfl; have hcz13_1 : w11.cell? ⟨gb805, 1, none⟩ = some (.int .i64 a0_1) := (blk_cell (BX.out.get 1 rfl) 1).trans rfl; have hfz13_0 := blk_frozen (BX.out.get 1 rfl) 0; have hfz13_1 := blk_frozen (BX.out.get 1 rfl) 1) | (go_at_call 31; (with_reducible refine (whittlelaw1_right.calls k a0_0 a0_1 true _ A8.out).mono ?_); rintro e w14 ⟨rfl, hb⟩; have n0_ := Aside0.mk (Boxes.below (by (with_reducible repeat (first | apply boxes_drewN | apply boxes_drew | apply boxes_alloc)); exact BX.out) hb); have n1_ := Aside0.mk (below_step (by repeat (first | (with_reducible first | exact HB.out | apply below_alloc | apply pw_below_drewN | apply below_drew1 | refine below_set ?_ (Aside0.out (by assumption))) | exact HB.out)) hb); clear BX HB; have BX := n0_; have HB := n1_; clear n0_ n1_; (try clear hb); (try clear hb2); (try clear hk); (try clear hi); have hcz15_0 : w14.cell? ⟨gb806, 0, none⟩ = some (.int .i64 a1_0) := (blk_cell (BX.out.get 0 rfl) 0).trans rfl; have hcz15_1 : w14.cell? ⟨gb806, 1, none⟩ = some (.int .i64 a1_1) := (blk_cell (BX.out.get 0 rfl) 1).trans rfl; have hfz15_0 := blk_frozen (BX.out.get 0 rfl) 0; have hfz15_1 := blk_frozen (BX.out.get 0 rfl) 1) | (go_at_call 31; (with_reducible refine (whittlelaw1_right.calls k a1_0 a1_1 t809 _ A10.out).mono ?_); rintro e w16 ⟨rfl, hb⟩; have n0_ := Aside0.mk (Boxes.below (by (with_reducible repeat (first | apply boxes_drewN | apply boxes_drew | apply boxes_alloc)); exact BX.out) hb); have n1_ := Aside0.mk (below_step (by repeat (first | (with_reducible first | exact HB.out | apply below_alloc | apply pw_below_drewN | apply below_drew1 | refine below_set ?_ (Aside0.out (by assumption))) | exact HB.out)) hb); clear BX HB; have BX := n0_; have HB := n1_; clear n0_ n1_; (try clear hb); (try clear hb2); (try clear hk); (try clear hi)))
    go_meet
    case rel => exact ⟨_, (!t809), (by first | rfl | (simp; done) | (simp [*]; done) | (simp [bne_nil]; done)), H', ⟨by first | omega | exact Nat.le_refl _⟩, ⟨by (with_reducible repeat (first | apply boxes_drewN | apply boxes_drew | apply boxes_alloc)); exact BX.out⟩, ⟨by repeat (first | (with_reducible first | exact HB.out | apply below_alloc | apply pw_below_drewN | apply below_drew1 | refine below_set ?_ (Aside0.out (by assumption))) | exact HB.out)⟩⟩
   ·replace c9 := Bool.eq_false_iff.mpr c9
    subst c9
    have H1 : (whittlelaw1_NumFloors.j0 k true a0_0 a0_1 a1_0 a1_1) = some r := by rw [if_neg (show ¬ (false = true) by decide)] at H; exact H
    clear H
    have H := H1
    clear H1
    have H' := Aside0.mk H
    clear H
    go_wp2_with (first | ((with_reducible refine gate_callee (f := 22) rfl ?_); refine goesL_ (some 19) rfl rfl Tryd.func22 (by kernel_rfl) rfl #[] rfl (by (try simp only [List.map_toArray, List.map_cons, List.map_nil]); first | done | rfl | (simp only [List.length_drop, List.length_take]; rfl)) ?_; (with_reducible refine (whittlelaw1_able.calls k  true _ ?side1 A6.out).mono ?_); (case side1 => exact HT.out.on (by repeat (first | (with_reducible first | exact HB.out | apply below_alloc | apply pw_below_drewN | apply below_drew1 | refine below_set ?_ (Aside0.out (by assumption))) | exact HB.out))); rintro e w17 ⟨rfl, hb⟩; refine ⟨_, rfl, ?_⟩; have n0_ := Aside0.mk (Boxes.below (by (with_reducible repeat (first | apply boxes_drewN | apply boxes_drew | apply boxes_alloc)); exact BX.out) hb); have n1_ := Aside0.mk (below_step (by repeat (first | (with_reducible first | exact HB.out | apply below_alloc | apply pw_below_drewN | apply below_drew1 | refine below_set ?_ (Aside0.out (by assumption))) | exact HB.out)) hb); clear BX HB; have BX := n0_; have HB := n1_; clear n0_ n1_; (try clear hb); (try clear hb2); (try clear hk); (try clear hi); obtain ⟨⟨hnc18, hnb18⟩, -⟩ := BX.out.apart 0 rfl; have hcz19_0 : w17.cell? ⟨gb805, 0, none⟩ = some (.int .i64 a0_0) := (blk_cell (BX.out.get 1 rfl) 0).trans rfl; have hcz19_1 : w17.cell? ⟨gb805, 1, none⟩ = some (.int .i64 a0_1) := (blk_cell (BX.out.get 1 rfl) 1).trans rfl; have hfz19_0 := blk_frozen (BX.out.get 1 rfl) 0; have hfz19_1 := blk_frozen (BX.out.get 1 rfl) 1) | (go_at_call 31; (with_reducible refine (whittlelaw1_right.calls k a0_0 a0_1 false _ A8.out).mono ?_); rintro e w20 ⟨rfl, hb⟩; have n0_ := Aside0.mk (Boxes.below (by (with_reducible repeat (first | apply boxes_drewN | apply boxes_drew | apply boxes_alloc)); exact BX.out) hb); have n1_ := Aside0.mk (below_step (by repeat (first | (with_reducible first | exact HB.out | apply below_alloc | apply pw_below_drewN | apply below_drew1 | refine below_set ?_ (Aside0.out (by assumption))) | exact HB.out)) hb); clear BX HB; have BX := n0_; have HB := n1_; clear n0_ n1_; (try clear hb); (try clear hb2); (try clear hk); (try clear hi)))
    go_meet
    case rel => exact ⟨_, (true), (by first | rfl | (simp; done) | (simp [*]; done) | (simp [bne_nil]; done)), H', ⟨by first | omega | exact Nat.le_refl _⟩, ⟨by (with_reducible repeat (first | apply boxes_drewN | apply boxes_drew | apply boxes_alloc)); exact BX.out⟩, ⟨by repeat (first | (with_reducible first | exact HB.out | apply below_alloc | apply pw_below_drewN | apply below_drew1 | refine below_set ?_ (Aside0.out (by assumption))) | exact HB.out)⟩⟩
  ·replace c7 := Bool.eq_false_iff.mpr c7
   subst c7
   have H1 : (whittlelaw1_NumFloors.j0 k true a0_0 a0_1 a1_0 a1_1) = some r := by rw [if_neg (show ¬ (false = true) by decide)] at H; exact H
   clear H
   have H := H1
   clear H1
   have H' := Aside0.mk H
   clear H
   go_wp2_with (first | ((with_reducible refine gate_callee (f := 22) rfl ?_); refine goesL_ (some 19) rfl rfl Tryd.func22 (by kernel_rfl) rfl #[] rfl (by (try simp only [List.map_toArray, List.map_cons, List.map_nil]); first | done | rfl | (simp only [List.length_drop, List.length_take]; rfl)) ?_; (with_reducible refine (whittlelaw1_able.calls k  false _ ?side1 A6.out).mono ?_); (case side1 => exact HT.out.on (by repeat (first | (with_reducible first | exact HB.out | apply below_alloc | apply pw_below_drewN | apply below_drew1 | refine below_set ?_ (Aside0.out (by assumption))) | exact HB.out))); rintro e w21 ⟨rfl, hb⟩; refine ⟨_, rfl, ?_⟩; have n0_ := Aside0.mk (Boxes.below (by (with_reducible repeat (first | apply boxes_drewN | apply boxes_drew | apply boxes_alloc)); exact BX.out) hb); have n1_ := Aside0.mk (below_step (by repeat (first | (with_reducible first | exact HB.out | apply below_alloc | apply pw_below_drewN | apply below_drew1 | refine below_set ?_ (Aside0.out (by assumption))) | exact HB.out)) hb); clear BX HB; have BX := n0_; have HB := n1_; clear n0_ n1_; (try clear hb); (try clear hb2); (try clear hk); (try clear hi)))
   go_meet
   case rel => exact ⟨_, (true), (by first | rfl | (simp; done) | (simp [*]; done) | (simp [bne_nil]; done)), H', ⟨by first | omega | exact Nat.le_refl _⟩, ⟨by (with_reducible repeat (first | apply boxes_drewN | apply boxes_drew | apply boxes_alloc)); exact BX.out⟩, ⟨by repeat (first | (with_reducible first | exact HB.out | apply below_alloc | apply pw_below_drewN | apply below_drew1 | refine below_set ?_ (Aside0.out (by assumption))) | exact HB.out)⟩⟩
 case rest =>
  clear HC3
  try clear c1
  try clear c2
  try clear p2
  try clear c7
  try clear c9
  try clear c12
  try clear c18
  try clear hcz13_0
  try clear hcz13_1
  try clear hcz15_0
  try clear hcz15_1
  try clear hcz19_0
  try clear hcz19_1
  try clear hfz13_0
  try clear hfz13_1
  try clear hfz15_0
  try clear hfz15_1
  try clear hfz19_0
  try clear hfz19_1
  obtain ⟨kq, x30_2, rfl, HA, HJ2, BX, HB⟩ := hcut
  cases kq with
  | zero => exact absurd HA.out (by simp [whittlelaw1_NumFloors.j0])
  | succ kj2 =>
   have H := HA.out
   clear HA
   simp only [whittlelaw1_NumFloors.j0] at H
   by_cases c22 : x30_2 = true
   ·subst c22
    have H1 : ((whittlelaw1_able.f kj2).bind fun t810 => (some t810)) = some r := by rw [if_pos rfl] at H; exact H
    clear H
    have H := H1
    clear H1
    replace H := Option.bind_eq_some_iff.mp H
    obtain ⟨t810, A230, H⟩ := H
    replace H : (some t810) = some r := H
    have A23 := Aside0.mk A230
    clear A230
    clear HR
    obtain rfl := Option.some.inj H
    go_wp2_with (first | ((with_reducible refine gate_callee (f := 22) rfl ?_); refine goesL_ (some 31) rfl rfl Tryd.func22 (by kernel_rfl) rfl #[] rfl (by (try simp only [List.map_toArray, List.map_cons, List.map_nil]); first | done | rfl | (simp only [List.length_drop, List.length_take]; rfl)) ?_; (with_reducible refine (whittlelaw1_able.calls kj2  t810 _ ?side1 A23.out).mono ?_); (case side1 => exact HT.out.on (by repeat (first | (with_reducible first | exact HB.out | apply below_alloc | apply pw_below_drewN | apply below_drew1 | refine below_set ?_ (Aside0.out (by assumption))) | exact HB.out))); rintro e w24 ⟨rfl, hb⟩; refine ⟨_, rfl, ?_⟩; have n0_ := Aside0.mk (Boxes.below (by (with_reducible repeat (first | apply boxes_drewN | apply boxes_drew | apply boxes_alloc)); exact BX.out) hb); have n1_ := Aside0.mk (below_step (by repeat (first | (with_reducible first | exact HB.out | apply below_alloc | apply pw_below_drewN | apply below_drew1 | refine below_set ?_ (Aside0.out (by assumption))) | exact HB.out)) hb); clear BX HB; have BX := n0_; have HB := n1_; clear n0_ n1_; (try clear hb); (try clear hb2); (try clear hk); (try clear hi)))
    go_ret
    exact ⟨by first | rfl | (simp [errW_none, errW_some] <;> rfl) | (simp [*, errW_none, errW_some] <;> rfl), by repeat (first | (with_reducible first | exact HB.out | apply below_alloc | apply pw_below_drewN | apply below_drew1 | refine below_set ?_ (Aside0.out (by assumption))) | exact HB.out)⟩
   ·replace c22 := Bool.eq_false_iff.mpr c22
    subst c22
    have H1 : ((num_Floor.f kj2 a0_0 a0_1).bind fun bt811 => ((num_Whole.f kj2 bt811.1 bt811.2).bind fun bt814 => (if bt814.2 = true then (if bt811.2 = 1 then (if bt814.1 = bt811.1 then ((num_Cmp.f kj2 bt811.1 bt811.2 a0_0 a0_1).bind fun t816 => (whittlelaw1_NumFloors.j1 kj2 (decide (t816 > 0)) a0_0 a0_1 a1_0 a1_1 bt811.1 bt811.2)) else (whittlelaw1_NumFloors.j1 kj2 true a0_0 a0_1 a1_0 a1_1 bt811.1 bt811.2)) else (whittlelaw1_NumFloors.j1 kj2 true a0_0 a0_1 a1_0 a1_1 bt811.1 bt811.2)) else (whittlelaw1_NumFloors.j1 kj2 true a0_0 a0_1 a1_0 a1_1 bt811.1 bt811.2)))) = some r := by rw [if_neg (show ¬ (false = true) by decide)] at H; exact H
    clear H
    have H := H1
    clear H1
    replace H := Option.bind_eq_some_iff.mp H
    obtain ⟨⟨t811, t812⟩, A250, H⟩ := H
    have A25 := Aside0.mk A250
    clear A250
    replace H := Option.bind_eq_some_iff.mp H
    obtain ⟨⟨t814, t815⟩, A260, H⟩ := H
    replace H : (if t815 = true then (if t812 = 1 then (if t814 = t811 then ((num_Cmp.f kj2 t811 t812 a0_0 a0_1).bind fun t816 => (whittlelaw1_NumFloors.j1 kj2 (decide (t816 > 0)) a0_0 a0_1 a1_0 a1_1 t811 t812)) else (whittlelaw1_NumFloors.j1 kj2 true a0_0 a0_1 a1_0 a1_1 t811 t812)) else (whittlelaw1_NumFloors.j1 kj2 true a0_0 a0_1 a1_0 a1_1 t811 t812)) else (whittlelaw1_NumFloors.j1 kj2 true a0_0 a0_1 a1_0 a1_1 t811 t812)) = some r := H
    have A26 := Aside0.mk A260
    clear A260
    have HC27 := Aside0.mk H
    clear H
    obtain ⟨⟨hnc28, hnb28⟩, -⟩ := BX.out.apart 0 rfl
    have hcz29_0 : wc.cell? ⟨gb805, 0, none⟩ = some (.int .i64 a0_0) := (blk_cell (BX.out.get 1 rfl) 0).trans rfl
    have hcz29_1 : wc.cell? ⟨gb805, 1, none⟩ = some (.int .i64 a0_1) := (blk_cell (BX.out.get 1 rfl) 1).trans rfl
    have hfz29_0 := blk_frozen (BX.out.get 1 rfl) 0
    have hfz29_1 := blk_frozen (BX.out.get 1 rfl) 1
    go_upto_region 5 with (first | ((with_reducible refine gate_callee (f := 47) rfl ?_); refine goesL_ (some 33) rfl rfl Tryd.func47 (by kernel_rfl) rfl #[.agg #[.int .i64 a0_0, .int .i64 a0_1]] rfl (by (try simp only [List.map_toArray, List.map_cons, List.map_nil]); first | done | rfl | (simp only [List.length_drop, List.length_take]; rfl)) ?_; (with_reducible refine (num_Floor.calls kj2 a0_0 a0_1 t811 t812 _ A25.out).mono ?_); rintro e w30 ⟨rfl, hb⟩; refine ⟨_, rfl, ?_⟩; have n0_ := Aside0.mk (Boxes.below (by (with_reducible repeat (first | apply boxes_drewN | apply boxes_drew | apply boxes_alloc)); exact BX.out) hb); have n1_ := Aside0.mk (below_step (by repeat (first | (with_reducible first | exact HB.out | apply below_alloc | apply pw_below_drewN | apply below_drew1 | refine below_set ?_ (Aside0.out (by assumption))) | exact HB.out)) hb); clear BX HB; have BX := n0_; have HB := n1_; clear n0_ n1_; (try clear hb); (try clear hb2); (try clear hk); (try clear hi)) | ((with_reducible refine gate_dst (N := 5) rfl ?_); refine box_event ?hg (N := 5) ?hd (cs := #[.int .i64 0, .int .i64 0]) (t := 23) ?hr ?_; (case hd => rfl); (case hg => rfl); (case hr => first | (go_simp; done) | (go_simp; rfl)); intro gb813 hg w31 hbox hb; have n0_ := Aside0.mk (Boxes.new (by (with_reducible repeat (first | apply boxes_drewN | apply boxes_drew | apply boxes_alloc)); exact BX.out) hg hbox hb (below_size (by repeat (first | (with_reducible first | exact HB.out | apply below_alloc | apply pw_below_drewN | apply below_drew1 | refine below_set ?_ (Aside0.out (by assumption))) | exact HB.out)))); have n1_ := Aside0.mk (below_step (by repeat (first | (with_reducible first | exact HB.out | apply below_alloc | apply pw_below_drewN | apply below_drew1 | refine below_set ?_ (Aside0.out (by assumption))) | exact HB.out)) hb); have n2_ := Aside0.mk ((by rw [hg]; exact (below_size (by repeat (first | (with_reducible first | exact HB.out | apply below_alloc | apply pw_below_drewN | apply below_drew1 | refine below_set ?_ (Aside0.out (by assumption))) | exact HB.out))) : w.heap.size ≤ gb813)); clear BX HB; have BX := n0_; have HB := n1_; have GE813 := n2_; clear n0_ n1_ n2_; clear hb hbox hg; obtain ⟨⟨hnb33, hnc33⟩, ⟨hnb32, hnc32⟩, -⟩ := BX.out.apart 0 rfl; have hcz34_0 : w31.cell? ⟨gb813, 0, none⟩ = some (.int .i64 0) := (blk_cell (BX.out.get 0 rfl) 0).trans rfl; have hcz34_1 : w31.cell? ⟨gb813, 1, none⟩ = some (.int .i64 0) := (blk_cell (BX.out.get 0 rfl) 1).trans rfl; have hfz34_0 := blk_frozen (BX.out.get 0 rfl) 0; have hfz34_1 := blk_frozen (BX.out.get 0 rfl) 1) | ((with_reducible refine gate_callee (f := 52) rfl ?_); refine goesL_ (some 36) rfl rfl Tryd.func52 (by kernel_rfl) rfl #[.agg #[.int .i64 t811, .int .i64 t812]] rfl (by (try simp only [List.map_toArray, List.map_cons, List.map_nil]); first | done | rfl | (simp only [List.length_drop, List.length_take]; rfl)) ?_; (with_reducible refine (num_Whole.calls kj2 t811 t812 t814 t815 _ A26.out).mono ?_); rintro e w35 ⟨rfl, hb⟩; refine ⟨_, rfl, ?_⟩; have n0_ : Aside0 (Boxes w.heap.size _ ((gb813, 23, #[.int .i64 t811, .int .i64 t812]) :: _)) := ⟨Boxes.below (by (with_reducible repeat (first | apply boxes_drewN | apply boxes_drew | apply boxes_alloc)); apply boxes_put 0; (with_reducible repeat (first | apply boxes_drewN | apply boxes_drew | apply boxes_alloc)); apply boxes_put 0; (with_reducible repeat (first | apply boxes_drewN | apply boxes_drew | apply boxes_alloc)); exact BX.out; any_goals rfl) hb⟩; have n1_ := Aside0.mk (below_step (by repeat (first | (with_reducible first | exact HB.out | apply below_alloc | apply pw_below_drewN | apply below_drew1 | refine below_set ?_ (Aside0.out (by assumption))) | exact HB.out)) hb); clear BX HB; have BX := n0_; have HB := n1_; clear n0_ n1_; (try clear hb); (try clear hb2); (try clear hk); (try clear hi)))
    (try simp only [Act.put, List.setIfInBounds_toArray, List.set_cons_zero, List.set_cons_succ])
    go_cut [57] (fun v57 wc => ∃ (kq : Nat) (x57_26 : Bool), v57 = .bool x57_26 ∧ Aside0 (whittlelaw1_NumFloors.j1 kq x57_26 a0_0 a0_1 a1_0 a1_1 t811 t812 = some r) ∧ Aside0 (kq ≤ kj2) ∧ Aside0 (Boxes w.heap.size wc [(gb813, 23, #[.int .i64 t811, .int .i64 t812]), (gb806, 23, #[.int .i64 a1_0, .int .i64 a1_1]), (gb805, 23, #[.int .i64 a0_0, .int .i64 a0_1])]) ∧ Aside0 (Below w.heap.size w wc))
    case first =>
     have H := HC27.out
     clear HC27
     by_cases c36 : t815 = true
     ·subst c36
      have H1 : (if t812 = 1 then (if t814 = t811 then ((num_Cmp.f kj2 t811 t812 a0_0 a0_1).bind fun t816 => (whittlelaw1_NumFloors.j1 kj2 (decide (t816 > 0)) a0_0 a0_1 a1_0 a1_1 t811 t812)) else (whittlelaw1_NumFloors.j1 kj2 true a0_0 a0_1 a1_0 a1_1 t811 t812)) else (whittlelaw1_NumFloors.j1 kj2 true a0_0 a0_1 a1_0 a1_1 t811 t812)) = some r := by rw [if_pos rfl] at H; exact H
      clear H
      have H := H1
      clear H1
      by_cases c37 : t812 = 1
      ·rw [if_pos c37] at H
       have c37b0 : (t812 == 1) = true := beq_iff_eq.mpr c37
       have c37b1 : (t812 != 1) = false := bne_eq_false_iff_eq.mpr c37
       clear c37
       (first | rw [c37b0] | (simp only [i64_w, i32_w]; rw [c37b0]) | skip)
       by_cases c38 : t814 = t811
       ·rw [if_pos c38] at H
        have c38b0 : (t814 == t811) = true := beq_iff_eq.mpr c38
        have c38b1 : (t814 != t811) = false := bne_eq_false_iff_eq.mpr c38
        clear c38
        replace H := Option.bind_eq_some_iff.mp H
        obtain ⟨t816, A390, H⟩ := H
        replace H : (whittlelaw1_NumFloors.j1 kj2 (decide (t816 > 0)) a0_0 a0_1 a1_0 a1_1 t811 t812) = some r := H
        have A39 := Aside0.mk A390
        clear A390
        have H' := Aside0.mk H
        clear H
        obtain ⟨⟨hnb41, hnc41⟩, ⟨hnb40, hnc40⟩, -⟩ := BX.out.apart 0 rfl
        have hcz42_0 : w35.cell? ⟨gb813, 0, none⟩ = some (.int .i64 t811) := (blk_cell (BX.out.get 0 rfl) 0).trans rfl
        have hcz42_1 : w35.cell? ⟨gb813, 1, none⟩ = some (.int .i64 t812) := (blk_cell (BX.out.get 0 rfl) 1).trans rfl
        have hfz42_0 := blk_frozen (BX.out.get 0 rfl) 0
        have hfz42_1 := blk_frozen (BX.out.get 0 rfl) 1
        obtain ⟨-, ⟨hnc43, hnb43⟩, -⟩ := BX.out.apart 1 rfl
        have hcz44_0 : w35.cell? ⟨gb805, 0, none⟩ = some (.int .i64 a0_0) := (blk_cell (BX.out.get 2 rfl) 0).trans rfl
        have hcz44_1 : w35.cell? ⟨gb805, 1, none⟩ = some (.int .i64 a0_1) := (blk_cell (BX.out.get 2 rfl) 1).trans rfl
        have hfz44_0 := blk_frozen (BX.out.get 2 rfl) 0
        have hfz44_1 := blk_frozen (BX.out.get 2 rfl) 1
        go_wp2_with (first | (go_at_call 25; (with_reducible refine (num_Cmp.calls kj2 t811 t812 a0_0 a0_1 t816 _ A39.out).mono ?_); rintro e w45 ⟨rfl, hb⟩; have n0_ := Aside0.mk (Boxes.below (by (with_reducible repeat (first | apply boxes_drewN | apply boxes_drew | apply boxes_alloc)); exact BX.out) hb); have n1_ := Aside0.mk (below_step (by repeat (first | (with_reducible first | exact HB.out | apply below_alloc | apply pw_below_drewN | apply below_drew1 | refine below_set ?_ (Aside0.out (by assumption))) | exact HB.out)) hb); clear BX HB; have BX := n0_; have HB := n1_; clear n0_ n1_; (try clear hb); (try clear hb2); (try clear hk); (try clear hi)))
        go_meet
        case rel => exact ⟨_, (decide (t816 > 0)), (by first | rfl | (simp; done) | (simp [*]; done) | (simp [bne_nil]; done)), H', ⟨by have := HJ2.out; first | omega | exact Nat.le_refl _⟩, ⟨by (with_reducible repeat (first | apply boxes_drewN | apply boxes_drew | apply boxes_alloc)); exact BX.out⟩, ⟨by repeat (first | (with_reducible first | exact HB.out | apply below_alloc | apply pw_below_drewN | apply below_drew1 | refine below_set ?_ (Aside0.out (by assumption))) | exact HB.out)⟩⟩
       ·rw [if_neg c38] at H
        have c38b0 : (t814 == t811) = false := beq_eq_false_iff_ne.mpr c38
        have c38b1 : (t814 != t811) = true := bne_iff_ne.mpr c38
        exact (no_meet (g := fun k_ => whittlelaw1_NumFloors.j1 k_ true a0_0 a0_1 a1_0 a1_1 t811 t812) HR.out H (by simp only [whittlelaw1_NumFloors.j1]) (fun k_ => by simp only [whittlelaw1_NumFloors.j1]; first | exact if_pos rfl | rfl | simp)).elim
      ·rw [if_neg c37] at H
       have c37b0 : (t812 == 1) = false := beq_eq_false_iff_ne.mpr c37
       have c37b1 : (t812 != 1) = true := bne_iff_ne.mpr c37
       (first | rw [c37b0] | (simp only [i64_w, i32_w]; rw [c37b0]) | skip)
       exact (no_meet (g := fun k_ => whittlelaw1_NumFloors.j1 k_ true a0_0 a0_1 a1_0 a1_1 t811 t812) HR.out H (by simp only [whittlelaw1_NumFloors.j1]) (fun k_ => by simp only [whittlelaw1_NumFloors.j1]; first | exact if_pos rfl | rfl | simp)).elim
     ·replace c36 := Bool.eq_false_iff.mpr c36
      subst c36
      have H1 : (whittlelaw1_NumFloors.j1 kj2 true a0_0 a0_1 a1_0 a1_1 t811 t812) = some r := by rw [if_neg (show ¬ (false = true) by decide)] at H; exact H
      clear H
      have H := H1
      clear H1
      exact (no_meet (g := fun k_ => whittlelaw1_NumFloors.j1 k_ true a0_0 a0_1 a1_0 a1_1 t811 t812) HR.out H (by simp only [whittlelaw1_NumFloors.j1]) (fun k_ => by simp only [whittlelaw1_NumFloors.j1]; first | exact if_pos rfl | rfl | simp)).elim
    case rest =>
     clear HC27
     try clear c1
     try clear c2
     try clear p2
     try clear c3
     try clear c4
     try clear c5
     try clear c7
     try clear c9
     try clear c12
     try clear c18
     try clear c22
     try clear c28
     try clear c32
     try clear c33
     try clear c36
     try clear c37
     try clear c37b0
     try clear c37b1
     try clear c38
     try clear c38b0
     try clear c38b1
     try clear c40
     try clear c41
     try clear c43
     try clear hcz13_0
     try clear hcz13_1
     try clear hcz15_0
     try clear hcz15_1
     try clear hcz19_0
     try clear hcz19_1
     try clear hcz29_0
     try clear hcz29_1
     try clear hcz34_0
     try clear hcz34_1
     try clear hcz42_0
     try clear hcz42_1
     try clear hcz44_0
     try clear hcz44_1
     try clear hfz13_0
     try clear hfz13_1
     try clear hfz15_0
     try clear hfz15_1
     try clear hfz19_0
     try clear hfz19_1
     try clear hfz29_0
     try clear hfz29_1
     try clear hfz34_0
     try clear hfz34_1
     try clear hfz42_0
     try clear hfz42_1
     try clear hfz44_0
     try clear hfz44_1
     try clear p2
     obtain ⟨kq, x57_26, rfl, HA, HJ26, BX, HB⟩ := hcut
     cases kq with
     | zero => exact absurd HA.out (by simp [whittlelaw1_NumFloors.j1])
     | succ kj26 =>
      have H := HA.out
      clear HA
      simp only [whittlelaw1_NumFloors.j1] at H
      by_cases c46 : x57_26 = true
      ·subst c46
       have H1 : (some false) = some r := by rw [if_pos rfl] at H; exact H
       clear H
       have H := H1
       clear H1
       exact absurd (Option.some.inj H) (by rw [HR.out]; decide)
      ·replace c46 := Bool.eq_false_iff.mpr c46
       subst c46
       have H1 : ((whittlelaw1_one.f).bind fun bt817 => ((num_Add.f kj26 t811 t812 bt817.1 bt817.2).bind fun bt819 => (if bt819.2.2 = true then ((num_Cmp.f kj26 a0_0 a0_1 bt819.1 bt819.2.1).bind fun t823 => (whittlelaw1_NumFloors.j2 kj26 (decide (t823 ≥ 0)) a0_0 a0_1 a1_0 a1_1)) else (whittlelaw1_NumFloors.j2 kj26 false a0_0 a0_1 a1_0 a1_1)))) = some r := by rw [if_neg (show ¬ (false = true) by decide)] at H; exact H
       clear H
       have H := H1
       clear H1
       replace H := Option.bind_eq_some_iff.mp H
       obtain ⟨⟨t817, t818⟩, A470, H⟩ := H
       have A47 := Aside0.mk A470
       clear A470
       replace H := Option.bind_eq_some_iff.mp H
       obtain ⟨⟨t819, t820, t821⟩, A480, H⟩ := H
       replace H : (if t821 = true then ((num_Cmp.f kj26 a0_0 a0_1 t819 t820).bind fun t823 => (whittlelaw1_NumFloors.j2 kj26 (decide (t823 ≥ 0)) a0_0 a0_1 a1_0 a1_1)) else (whittlelaw1_NumFloors.j2 kj26 false a0_0 a0_1 a1_0 a1_1)) = some r := H
       have A48 := Aside0.mk A480
       clear A480
       have HC49 := Aside0.mk H
       clear H
       try go_wp2
       have n0_ := Aside0.mk (boxes_drew BX.out)
       have n1_ := Aside0.mk (below_drew1 HB.out)
       clear BX HB
       have BX := n0_
       have HB := n1_
       clear n0_ n1_
       refine start_ (n := 9) (S := fun w' => w'.cell? ⟨gb813, 0, none⟩ = some (.int .i64 t811) ∧ w'.cell? ⟨gb813, 1, none⟩ = some (.int .i64 t812)) (ds := []) #[false, false, false, false, false, false, false, false, false] (by kernel_rfl) rfl rfl ⟨(blk_cell (BX.out.get 0 rfl) 0).trans rfl, (blk_cell (BX.out.get 0 rfl) 1).trans rfl⟩ (fun hHeld => ?_); refine with_tabW whittlelaw1_NumFloors.tab7 whittlelaw1_NumFloors.bits7 (fun HT_ HW_ => ?_)
       generalize wc.drew = w50 at BX HB hHeld ⊢
       refine take_ (i := 0) (N := some 59) (v := ?_) (a' := ?_) #[true, false, false, false, false, false, false, false, false] rfl rfl (take_ofW HT_.out HW_.out (by kernel_rfl)) (fun _ _ _ h => h) (Or.inl ⟨by rfl, ?_⟩) hHeld ?_ ?_
       rotate_left
       ·rintro w' ⟨s0, s1⟩
        go_simp
        with_reducible rfl
       rotate_left
       ·simp only [Act.put, List.setIfInBounds_toArray, List.set_cons_zero, List.set_cons_succ, i64_w, i32_w]
        rfl
       refine join_ (σ := Nat) 2 #[true, true, true, true, true, true, true, false, false] (fun s_ => [(60, .agg #[.int .i64 t817, .int .i64 t818]), (61, .tuple #[.agg #[.int .i64 t819, .int .i64 t820], .bool t821]), (8, .pointer (some ⟨s_, 0, none⟩)), (58, .tuple #[.agg #[.int .i64 t819, .int .i64 t820], .bool t821]), (62, .agg #[.int .i64 t819, .int .i64 t820]), (63, .bool t821)]) (fun s_ w' => (w'.cell? ⟨gb813, 0, none⟩ = some (.int .i64 t811) ∧ w'.cell? ⟨gb813, 1, none⟩ = some (.int .i64 t812)) ∧ (Boxes w.heap.size w' [(s_, 23, #[.int .i64 0, .int .i64 0]), (gb813, 23, #[.int .i64 t811, .int .i64 t812]), (gb806, 23, #[.int .i64 a1_0, .int .i64 a1_1]), (gb805, 23, #[.int .i64 a0_0, .int .i64 a0_1])]) ∧ (w.heap.size ≤ s_) ∧ (Below w.heap.size w w')) ?_ ?_
       rotate_left
       ·intro hCont
        refine two_ (i := 1) (j := 6) (Ni := some 60) (Nj := some 8) #[true, true, false, false, false, false, false, false, false] #[true, false, false, false, false, false, true, false, false] rfl rfl rfl rfl (two_of HT_.out (by kernel_rfl)) (by decide) (by decide) (fun K hK => ?_) (fun K hK => ?_)
        ·skip
         refine goes_ Tryd.func48 (by kernel_rfl) rfl #[] (by rfl) rfl rfl (by (try simp only [List.map_toArray, List.map_cons, List.map_nil]); first | done | rfl | (simp only [List.length_drop, List.length_take]; rfl)) ?_
         with_reducible refine (whittlelaw1_one.calls  t817 t818 _ A47.out).mono ?_
         rintro e w51 ⟨rfl, hb⟩
         refine ⟨_, rfl, ?_⟩
         have n0_ := Aside0.mk (Boxes.below (by (with_reducible repeat (first | apply boxes_drewN | apply boxes_drew | apply boxes_alloc)); exact BX.out) hb)
         have n1_ := Aside0.mk (below_step (by repeat (first | (with_reducible first | exact HB.out | apply below_alloc | apply pw_below_drewN | apply below_drew1 | refine below_set ?_ (Aside0.out (by assumption))) | exact HB.out)) hb)
         clear BX HB
         have BX := n0_
         have HB := n1_
         clear n0_ n1_
         (try clear hb)
         (try clear hb2)
         (try clear hk)
         (try clear hi)
         refine hK.out _ _ ⟨(blk_cell (BX.out.get 0 rfl) 0).trans rfl, (blk_cell (BX.out.get 0 rfl) 1).trans rfl⟩ (fun hHeld => ?_)
         clear hK K
         refine norm_ (a' := ?_) ?_ ?_
         rotate_left
         ·show Act.put _ (some 60) _ = _
          simp only [Act.put, List.setIfInBounds_toArray, List.set_cons_zero, List.set_cons_succ, i64_w, i32_w]
          rfl
         refine two_ (i := 2) (j := 6) (Ni := some 61) (Nj := some 8) #[true, true, true, false, false, false, false, false, false] #[true, true, false, false, false, false, true, false, false] rfl rfl rfl rfl (two_of HT_.out (by kernel_rfl)) (by decide) (by decide) (fun K hK => ?_) (fun K hK => ?_)
         ·skip
          refine goes_ Tryd.func33 (by kernel_rfl) rfl #[.agg #[.int .i64 t811, .int .i64 t812], .agg #[.int .i64 t817, .int .i64 t818]] (by rfl) rfl rfl (by (try simp only [List.map_toArray, List.map_cons, List.map_nil]); first | done | rfl | (simp only [List.length_drop, List.length_take]; rfl)) ?_
          with_reducible refine (num_Add.calls kj26 t811 t812 t817 t818 t819 t820 t821 _ A48.out).mono ?_
          rintro e w52 ⟨rfl, hb⟩
          refine ⟨_, rfl, ?_⟩
          have n0_ := Aside0.mk (Boxes.below (by (with_reducible repeat (first | apply boxes_drewN | apply boxes_drew | apply boxes_alloc)); exact BX.out) hb)
          have n1_ := Aside0.mk (below_step (by repeat (first | (with_reducible first | exact HB.out | apply below_alloc | apply pw_below_drewN | apply below_drew1 | refine below_set ?_ (Aside0.out (by assumption))) | exact HB.out)) hb)
          clear BX HB
          have BX := n0_
          have HB := n1_
          clear n0_ n1_
          (try clear hb)
          (try clear hb2)
          (try clear hk)
          (try clear hi)
          refine hK.out _ _ ⟨(blk_cell (BX.out.get 0 rfl) 0).trans rfl, (blk_cell (BX.out.get 0 rfl) 1).trans rfl⟩ (fun hHeld => ?_)
          clear hK K
          refine norm_ (a' := ?_) ?_ ?_
          rotate_left
          ·show Act.put _ (some 61) _ = _
           simp only [Act.put, List.setIfInBounds_toArray, List.set_cons_zero, List.set_cons_succ, i64_w, i32_w]
           rfl
          refine pure_ (i := 3) (N := some 58) (v := ?_) (a' := ?_) #[true, true, true, true, false, false, false, false, false] rfl rfl (any_of HT_.out (by kernel_rfl)) (fun _ _ _ h => h) (Or.inl ⟨by rfl, ?_⟩) ?_ ?_
          rotate_left
          ·intro w'
           go_simp
           with_reducible rfl
          rotate_left
          ·simp only [Act.put, List.setIfInBounds_toArray, List.set_cons_zero, List.set_cons_succ, i64_w, i32_w]
           rfl
          refine pure_ (i := 4) (N := some 62) (v := ?_) (a' := ?_) #[true, true, true, true, true, false, false, false, false] rfl rfl (any_of HT_.out (by kernel_rfl)) (fun _ _ _ h => h) (Or.inl ⟨by rfl, ?_⟩) ?_ ?_
          rotate_left
          ·intro w'
           go_simp
           with_reducible rfl
          rotate_left
          ·simp only [Act.put, List.setIfInBounds_toArray, List.set_cons_zero, List.set_cons_succ, i64_w, i32_w]
           rfl
          refine pure_ (i := 5) (N := some 63) (v := ?_) (a' := ?_) #[true, true, true, true, true, true, false, false, false] rfl rfl (any_of HT_.out (by kernel_rfl)) (fun _ _ _ h => h) (Or.inl ⟨by rfl, ?_⟩) ?_ ?_
          rotate_left
          ·intro w'
           go_simp
           with_reducible rfl
          rotate_left
          ·simp only [Act.put, List.setIfInBounds_toArray, List.set_cons_zero, List.set_cons_succ, i64_w, i32_w]
           rfl
          refine one_ (i := 6) (N := some 8) #[true, true, true, true, true, true, true, false, false] rfl rfl (one_of HT_.out (by kernel_rfl)) (by decide) (fun K hK => ?_)
          refine box_step ?hg (N := 8) ?hd (cs := #[.int .i64 0, .int .i64 0]) (t := 23) ?hr ?_; (case hd => rfl); (case hg => rfl); (case hr => first | (go_simp; done) | (go_simp; rfl))
          intro gb822 hg w53 hbox hb
          have n0_ := Aside0.mk (Boxes.new (by (with_reducible repeat (first | apply boxes_drewN | apply boxes_drew | apply boxes_alloc)); exact BX.out) hg hbox hb (below_size (by repeat (first | (with_reducible first | exact HB.out | apply below_alloc | apply pw_below_drewN | apply below_drew1 | refine below_set ?_ (Aside0.out (by assumption))) | exact HB.out))))
          have n1_ := Aside0.mk (below_step (by repeat (first | (with_reducible first | exact HB.out | apply below_alloc | apply pw_below_drewN | apply below_drew1 | refine below_set ?_ (Aside0.out (by assumption))) | exact HB.out)) hb)
          have n2_ := Aside0.mk ((by rw [hg]; exact (below_size (by repeat (first | (with_reducible first | exact HB.out | apply below_alloc | apply pw_below_drewN | apply below_drew1 | refine below_set ?_ (Aside0.out (by assumption))) | exact HB.out))) : w.heap.size ≤ gb822))
          clear BX HB
          have BX := n0_
          have HB := n1_
          have GE822 := n2_
          clear n0_ n1_ n2_
          clear hb hbox hg
          refine hK.out _ _ ⟨(blk_cell (BX.out.get 1 rfl) 0).trans rfl, (blk_cell (BX.out.get 1 rfl) 1).trans rfl⟩ (fun hHeld => ?_)
          clear hK K
          refine norm_ (a' := ?_) ?_ ?_
          rotate_left
          ·show Act.put _ (some 8) _ = _
           simp only [Act.put, List.setIfInBounds_toArray, List.set_cons_zero, List.set_cons_succ, i64_w, i32_w]
           rfl
          exact norm_ (by simp only [putAll, Act.put, List.setIfInBounds_toArray, List.set_cons_zero, List.set_cons_succ]) (hCont (gb822) _ ⟨hHeld, (by (with_reducible repeat (first | apply boxes_drewN | apply boxes_drew | apply boxes_alloc)); exact BX.out), GE822.out, (by repeat (first | (with_reducible first | exact HB.out | apply below_alloc | apply pw_below_drewN | apply below_drew1 | refine below_set ?_ (Aside0.out (by assumption))) | exact HB.out))⟩)
         ·skip
          refine box_step ?hg (N := 8) ?hd (cs := #[.int .i64 0, .int .i64 0]) (t := 23) ?hr ?_; (case hd => rfl); (case hg => rfl); (case hr => first | (go_simp; done) | (go_simp; rfl))
          intro gb822 hg w52 hbox hb
          have n0_ := Aside0.mk (Boxes.new (by (with_reducible repeat (first | apply boxes_drewN | apply boxes_drew | apply boxes_alloc)); exact BX.out) hg hbox hb (below_size (by repeat (first | (with_reducible first | exact HB.out | apply below_alloc | apply pw_below_drewN | apply below_drew1 | refine below_set ?_ (Aside0.out (by assumption))) | exact HB.out))))
          have n1_ := Aside0.mk (below_step (by repeat (first | (with_reducible first | exact HB.out | apply below_alloc | apply pw_below_drewN | apply below_drew1 | refine below_set ?_ (Aside0.out (by assumption))) | exact HB.out)) hb)
          have n2_ := Aside0.mk ((by rw [hg]; exact (below_size (by repeat (first | (with_reducible first | exact HB.out | apply below_alloc | apply pw_below_drewN | apply below_drew1 | refine below_set ?_ (Aside0.out (by assumption))) | exact HB.out))) : w.heap.size ≤ gb822))
          clear BX HB
          have BX := n0_
          have HB := n1_
          have GE822 := n2_
          clear n0_ n1_ n2_
          clear hb hbox hg
          refine hK.out _ _ ⟨(blk_cell (BX.out.get 1 rfl) 0).trans rfl, (blk_cell (BX.out.get 1 rfl) 1).trans rfl⟩ (fun hHeld => ?_)
          clear hK K
          refine norm_ (a' := ?_) ?_ ?_
          rotate_left
          ·show Act.put _ (some 8) _ = _
           simp only [Act.put, List.setIfInBounds_toArray, List.set_cons_zero, List.set_cons_succ, i64_w, i32_w]
           rfl
          refine one_ (i := 2) (N := some 61) #[true, true, true, false, false, false, true, false, false] rfl rfl (one_of HT_.out (by kernel_rfl)) (by decide) (fun K hK => ?_)
          refine goes_ Tryd.func33 (by kernel_rfl) rfl #[.agg #[.int .i64 t811, .int .i64 t812], .agg #[.int .i64 t817, .int .i64 t818]] (by rfl) rfl rfl (by (try simp only [List.map_toArray, List.map_cons, List.map_nil]); first | done | rfl | (simp only [List.length_drop, List.length_take]; rfl)) ?_
          with_reducible refine (num_Add.calls kj26 t811 t812 t817 t818 t819 t820 t821 _ A48.out).mono ?_
          rintro e w53 ⟨rfl, hb⟩
          refine ⟨_, rfl, ?_⟩
          have n0_ := Aside0.mk (Boxes.below (by (with_reducible repeat (first | apply boxes_drewN | apply boxes_drew | apply boxes_alloc)); exact BX.out) hb)
          have n1_ := Aside0.mk (below_step (by repeat (first | (with_reducible first | exact HB.out | apply below_alloc | apply pw_below_drewN | apply below_drew1 | refine below_set ?_ (Aside0.out (by assumption))) | exact HB.out)) hb)
          clear BX HB
          have BX := n0_
          have HB := n1_
          clear n0_ n1_
          (try clear hb)
          (try clear hb2)
          (try clear hk)
          (try clear hi)
          refine hK.out _ _ ⟨(blk_cell (BX.out.get 1 rfl) 0).trans rfl, (blk_cell (BX.out.get 1 rfl) 1).trans rfl⟩ (fun hHeld => ?_)
          clear hK K
          refine norm_ (a' := ?_) ?_ ?_
          rotate_left
          ·show Act.put _ (some 61) _ = _
           simp only [Act.put, List.setIfInBounds_toArray, List.set_cons_zero, List.set_cons_succ, i64_w, i32_w]
           rfl
          refine pure_ (i := 3) (N := some 58) (v := ?_) (a' := ?_) #[true, true, true, true, false, false, true, false, false] rfl rfl (any_of HT_.out (by kernel_rfl)) (fun _ _ _ h => h) (Or.inl ⟨by rfl, ?_⟩) ?_ ?_
          rotate_left
          ·intro w'
           go_simp
           with_reducible rfl
          rotate_left
          ·simp only [Act.put, List.setIfInBounds_toArray, List.set_cons_zero, List.set_cons_succ, i64_w, i32_w]
           rfl
          refine pure_ (i := 4) (N := some 62) (v := ?_) (a' := ?_) #[true, true, true, true, true, false, true, false, false] rfl rfl (any_of HT_.out (by kernel_rfl)) (fun _ _ _ h => h) (Or.inl ⟨by rfl, ?_⟩) ?_ ?_
          rotate_left
          ·intro w'
           go_simp
           with_reducible rfl
          rotate_left
          ·simp only [Act.put, List.setIfInBounds_toArray, List.set_cons_zero, List.set_cons_succ, i64_w, i32_w]
           rfl
          refine pure_ (i := 5) (N := some 63) (v := ?_) (a' := ?_) #[true, true, true, true, true, true, true, false, false] rfl rfl (any_of HT_.out (by kernel_rfl)) (fun _ _ _ h => h) (Or.inl ⟨by rfl, ?_⟩) ?_ ?_
          rotate_left
          ·intro w'
           go_simp
           with_reducible rfl
          rotate_left
          ·simp only [Act.put, List.setIfInBounds_toArray, List.set_cons_zero, List.set_cons_succ, i64_w, i32_w]
           rfl
          exact norm_ (by simp only [putAll, Act.put, List.setIfInBounds_toArray, List.set_cons_zero, List.set_cons_succ]) (hCont (gb822) _ ⟨hHeld, (by (with_reducible repeat (first | apply boxes_drewN | apply boxes_drew | apply boxes_alloc)); exact BX.out), GE822.out, (by repeat (first | (with_reducible first | exact HB.out | apply below_alloc | apply pw_below_drewN | apply below_drew1 | refine below_set ?_ (Aside0.out (by assumption))) | exact HB.out))⟩)
        ·skip
         refine box_step ?hg (N := 8) ?hd (cs := #[.int .i64 0, .int .i64 0]) (t := 23) ?hr ?_; (case hd => rfl); (case hg => rfl); (case hr => first | (go_simp; done) | (go_simp; rfl))
         intro gb822 hg w51 hbox hb
         have n0_ := Aside0.mk (Boxes.new (by (with_reducible repeat (first | apply boxes_drewN | apply boxes_drew | apply boxes_alloc)); exact BX.out) hg hbox hb (below_size (by repeat (first | (with_reducible first | exact HB.out | apply below_alloc | apply pw_below_drewN | apply below_drew1 | refine below_set ?_ (Aside0.out (by assumption))) | exact HB.out))))
         have n1_ := Aside0.mk (below_step (by repeat (first | (with_reducible first | exact HB.out | apply below_alloc | apply pw_below_drewN | apply below_drew1 | refine below_set ?_ (Aside0.out (by assumption))) | exact HB.out)) hb)
         have n2_ := Aside0.mk ((by rw [hg]; exact (below_size (by repeat (first | (with_reducible first | exact HB.out | apply below_alloc | apply pw_below_drewN | apply below_drew1 | refine below_set ?_ (Aside0.out (by assumption))) | exact HB.out))) : w.heap.size ≤ gb822))
         clear BX HB
         have BX := n0_
         have HB := n1_
         have GE822 := n2_
         clear n0_ n1_ n2_
         clear hb hbox hg
         refine hK.out _ _ ⟨(blk_cell (BX.out.get 1 rfl) 0).trans rfl, (blk_cell (BX.out.get 1 rfl) 1).trans rfl⟩ (fun hHeld => ?_)
         clear hK K
         refine norm_ (a' := ?_) ?_ ?_
         rotate_left
         ·show Act.put _ (some 8) _ = _
          simp only [Act.put, List.setIfInBounds_toArray, List.set_cons_zero, List.set_cons_succ, i64_w, i32_w]
          rfl
         refine one_ (i := 1) (N := some 60) #[true, true, false, false, false, false, true, false, false] rfl rfl (one_of HT_.out (by kernel_rfl)) (by decide) (fun K hK => ?_)
         refine goes_ Tryd.func48 (by kernel_rfl) rfl #[] (by rfl) rfl rfl (by (try simp only [List.map_toArray, List.map_cons, List.map_nil]); first | done | rfl | (simp only [List.length_drop, List.length_take]; rfl)) ?_
         with_reducible refine (whittlelaw1_one.calls  t817 t818 _ A47.out).mono ?_
         rintro e w52 ⟨rfl, hb⟩
         refine ⟨_, rfl, ?_⟩
         have n0_ := Aside0.mk (Boxes.below (by (with_reducible repeat (first | apply boxes_drewN | apply boxes_drew | apply boxes_alloc)); exact BX.out) hb)
         have n1_ := Aside0.mk (below_step (by repeat (first | (with_reducible first | exact HB.out | apply below_alloc | apply pw_below_drewN | apply below_drew1 | refine below_set ?_ (Aside0.out (by assumption))) | exact HB.out)) hb)
         clear BX HB
         have BX := n0_
         have HB := n1_
         clear n0_ n1_
         (try clear hb)
         (try clear hb2)
         (try clear hk)
         (try clear hi)
         refine hK.out _ _ ⟨(blk_cell (BX.out.get 1 rfl) 0).trans rfl, (blk_cell (BX.out.get 1 rfl) 1).trans rfl⟩ (fun hHeld => ?_)
         clear hK K
         refine norm_ (a' := ?_) ?_ ?_
         rotate_left
         ·show Act.put _ (some 60) _ = _
          simp only [Act.put, List.setIfInBounds_toArray, List.set_cons_zero, List.set_cons_succ, i64_w, i32_w]
          rfl
         refine one_ (i := 2) (N := some 61) #[true, true, true, false, false, false, true, false, false] rfl rfl (one_of HT_.out (by kernel_rfl)) (by decide) (fun K hK => ?_)
         refine goes_ Tryd.func33 (by kernel_rfl) rfl #[.agg #[.int .i64 t811, .int .i64 t812], .agg #[.int .i64 t817, .int .i64 t818]] (by rfl) rfl rfl (by (try simp only [List.map_toArray, List.map_cons, List.map_nil]); first | done | rfl | (simp only [List.length_drop, List.length_take]; rfl)) ?_
         with_reducible refine (num_Add.calls kj26 t811 t812 t817 t818 t819 t820 t821 _ A48.out).mono ?_
         rintro e w53 ⟨rfl, hb⟩
         refine ⟨_, rfl, ?_⟩
         have n0_ := Aside0.mk (Boxes.below (by (with_reducible repeat (first | apply boxes_drewN | apply boxes_drew | apply boxes_alloc)); exact BX.out) hb)
         have n1_ := Aside0.mk (below_step (by repeat (first | (with_reducible first | exact HB.out | apply below_alloc | apply pw_below_drewN | apply below_drew1 | refine below_set ?_ (Aside0.out (by assumption))) | exact HB.out)) hb)
         clear BX HB
         have BX := n0_
         have HB := n1_
         clear n0_ n1_
         (try clear hb)
         (try clear hb2)
         (try clear hk)
         (try clear hi)
         refine hK.out _ _ ⟨(blk_cell (BX.out.get 1 rfl) 0).trans rfl, (blk_cell (BX.out.get 1 rfl) 1).trans rfl⟩ (fun hHeld => ?_)
         clear hK K
         refine norm_ (a' := ?_) ?_ ?_
         rotate_left
         ·show Act.put _ (some 61) _ = _
          simp only [Act.put, List.setIfInBounds_toArray, List.set_cons_zero, List.set_cons_succ, i64_w, i32_w]
          rfl
         refine pure_ (i := 3) (N := some 58) (v := ?_) (a' := ?_) #[true, true, true, true, false, false, true, false, false] rfl rfl (any_of HT_.out (by kernel_rfl)) (fun _ _ _ h => h) (Or.inl ⟨by rfl, ?_⟩) ?_ ?_
         rotate_left
         ·intro w'
          go_simp
          with_reducible rfl
         rotate_left
         ·simp only [Act.put, List.setIfInBounds_toArray, List.set_cons_zero, List.set_cons_succ, i64_w, i32_w]
          rfl
         refine pure_ (i := 4) (N := some 62) (v := ?_) (a' := ?_) #[true, true, true, true, true, false, true, false, false] rfl rfl (any_of HT_.out (by kernel_rfl)) (fun _ _ _ h => h) (Or.inl ⟨by rfl, ?_⟩) ?_ ?_
         rotate_left
         ·intro w'
          go_simp
          with_reducible rfl
         rotate_left
         ·simp only [Act.put, List.setIfInBounds_toArray, List.set_cons_zero, List.set_cons_succ, i64_w, i32_w]
          rfl
         refine pure_ (i := 5) (N := some 63) (v := ?_) (a' := ?_) #[true, true, true, true, true, true, true, false, false] rfl rfl (any_of HT_.out (by kernel_rfl)) (fun _ _ _ h => h) (Or.inl ⟨by rfl, ?_⟩) ?_ ?_
         rotate_left
         ·intro w'
          go_simp
          with_reducible rfl
         rotate_left
         ·simp only [Act.put, List.setIfInBounds_toArray, List.set_cons_zero, List.set_cons_succ, i64_w, i32_w]
          rfl
         exact norm_ (by simp only [putAll, Act.put, List.setIfInBounds_toArray, List.set_cons_zero, List.set_cons_succ]) (hCont (gb822) _ ⟨hHeld, (by (with_reducible repeat (first | apply boxes_drewN | apply boxes_drew | apply boxes_alloc)); exact BX.out), GE822.out, (by repeat (first | (with_reducible first | exact HB.out | apply below_alloc | apply pw_below_drewN | apply below_drew1 | refine below_set ?_ (Aside0.out (by assumption))) | exact HB.out))⟩)
       rintro gb822 w54 ⟨hS_, hBX_, hJ0_, hJ1_⟩
       have n0_ : Aside0 (Boxes w.heap.size w54 [(gb822, 23, #[.int .i64 0, .int .i64 0]), (gb813, 23, #[.int .i64 t811, .int .i64 t812]), (gb806, 23, #[.int .i64 a1_0, .int .i64 a1_1]), (gb805, 23, #[.int .i64 a0_0, .int .i64 a0_1])]) := ⟨hBX_⟩
       have n1_ : Aside0 (w.heap.size ≤ gb822) := ⟨hJ0_⟩
       have n2_ : Aside0 (Below w.heap.size w w54) := ⟨hJ1_⟩
       clear BX HB hBX_ hJ0_ hJ1_
       have BX := n0_
       have GE822 := n1_
       have HB := n2_
       clear n0_ n1_ n2_
       have hHeld : w54.cell? ⟨gb813, 0, none⟩ = some (.int .i64 t811) ∧ w54.cell? ⟨gb813, 1, none⟩ = some (.int .i64 t812) := hS_
       refine norm_ (a' := ?_) ?_ ?_
       rotate_left
       ·simp only [putAll, Act.put, List.setIfInBounds_toArray, List.set_cons_zero, List.set_cons_succ]
        rfl
       refine one_ (i := 7) (N := none) #[true, true, true, true, true, true, true, true, false] rfl rfl (one_of HT_.out (by kernel_rfl)) (by decide) (fun K hK => ?_)
       have hs55 : w54.cell? ⟨gb822, 0, none⟩ = some (.int .i64 0) := (blk_cell (BX.out.get 0 rfl) 0).trans rfl
       have hfs55 := blk_frozen (BX.out.get 0 rfl) 0
       obtain ⟨⟨hms55_2, hns55_2⟩, ⟨hms55_1, hns55_1⟩, ⟨hms55_0, hns55_0⟩, -⟩ := BX.out.apart 0 rfl
       have hs56 : w54.cell? ⟨gb822, 1, none⟩ = some (.int .i64 0) := (blk_cell (BX.out.get 0 rfl) 1).trans rfl
       have hfs56 := blk_frozen (BX.out.get 0 rfl) 1
       obtain ⟨⟨hms56_2, hns56_2⟩, ⟨hms56_1, hns56_1⟩, ⟨hms56_0, hns56_0⟩, -⟩ := BX.out.apart 0 rfl
       refine skip_ (w1 := ?_) (by rfl) rfl ?_ ?_
       rotate_left
       ·go_simp
        rfl
       refine hK.out _ _ ⟨((cell_far (p := ⟨gb822, _, none⟩) (BX.out.ne 1 0 rfl rfl (by decide)) _).trans (((cell_far (p := ⟨gb822, _, none⟩) (BX.out.ne 1 0 rfl rfl (by decide)) _).trans (hHeld.1)))), ((cell_far (p := ⟨gb822, _, none⟩) (BX.out.ne 1 0 rfl rfl (by decide)) _).trans (((cell_far (p := ⟨gb822, _, none⟩) (BX.out.ne 1 0 rfl rfl (by decide)) _).trans (hHeld.2))))⟩ (fun hHeld => ?_)
       clear hK K
       refine pure_ (i := 8) (N := some 9) (v := ?_) (a' := ?_) #[true, true, true, true, true, true, true, true, true] rfl rfl (any_of HT_.out (by kernel_rfl)) (fun _ _ _ h => h) (Or.inl ⟨by rfl, ?_⟩) ?_ ?_
       rotate_left
       ·intro w'
        go_simp
        with_reducible rfl
       rotate_left
       ·simp only [Act.put, List.setIfInBounds_toArray, List.set_cons_zero, List.set_cons_succ, i64_w, i32_w]
        rfl
       refine done_ (done_of HT_.out (by kernel_rfl)) ?_
       go_upto_region 8 with (fail)
       go_cut [70] (fun v70 wc => ∃ (kq : Nat) (x70_48 : Bool), v70 = .bool x70_48 ∧ Aside0 (whittlelaw1_NumFloors.j2 kq x70_48 a0_0 a0_1 a1_0 a1_1 = some r) ∧ Aside0 (kq ≤ kj26) ∧ Aside0 (Boxes w.heap.size wc [(gb822, 23, #[.int .i64 t819, .int .i64 t820]), (gb813, 23, #[.int .i64 t811, .int .i64 t812]), (gb806, 23, #[.int .i64 a1_0, .int .i64 a1_1]), (gb805, 23, #[.int .i64 a0_0, .int .i64 a0_1])]) ∧ Aside0 (Below w.heap.size w wc))
       case first =>
        have H := HC49.out
        clear HC49
        by_cases c57 : t821 = true
        ·subst c57
         have H1 : ((num_Cmp.f kj26 a0_0 a0_1 t819 t820).bind fun t823 => (whittlelaw1_NumFloors.j2 kj26 (decide (t823 ≥ 0)) a0_0 a0_1 a1_0 a1_1)) = some r := by rw [if_pos rfl] at H; exact H
         clear H
         have H := H1
         clear H1
         replace H := Option.bind_eq_some_iff.mp H
         obtain ⟨t823, A580, H⟩ := H
         replace H : (whittlelaw1_NumFloors.j2 kj26 (decide (t823 ≥ 0)) a0_0 a0_1 a1_0 a1_1) = some r := H
         have A58 := Aside0.mk A580
         clear A580
         have H' := Aside0.mk H
         clear H
         obtain ⟨⟨hnb61, hnc61⟩, ⟨hnb60, hnc60⟩, ⟨hnb59, hnc59⟩, -⟩ := BX.out.apart 3 rfl
         have hcz62_0 : w54.cell? ⟨gb805, 0, none⟩ = some (.int .i64 a0_0) := (blk_cell (BX.out.get 3 rfl) 0).trans rfl
         have hcz62_1 : w54.cell? ⟨gb805, 1, none⟩ = some (.int .i64 a0_1) := (blk_cell (BX.out.get 3 rfl) 1).trans rfl
         have hfz62_0 := blk_frozen (BX.out.get 3 rfl) 0
         have hfz62_1 := blk_frozen (BX.out.get 3 rfl) 1
         obtain ⟨⟨hnb64, hnc64⟩, ⟨hnb63, hnc63⟩, -⟩ := BX.out.apart 0 rfl
         have hcz65_0 : w54.cell? ⟨gb822, 0, none⟩ = some (.int .i64 0) := (blk_cell (BX.out.get 0 rfl) 0).trans rfl
         have hcz65_1 : w54.cell? ⟨gb822, 1, none⟩ = some (.int .i64 0) := (blk_cell (BX.out.get 0 rfl) 1).trans rfl
         have hfz65_0 := blk_frozen (BX.out.get 0 rfl) 0
         have hfz65_1 := blk_frozen (BX.out.get 0 rfl) 1
         go_wp2_with (first | (go_at_call 25; (with_reducible refine (num_Cmp.calls kj26 a0_0 a0_1 t819 t820 t823 _ A58.out).mono ?_); rintro e w66 ⟨rfl, hb⟩; have n0_ : Aside0 (Boxes w.heap.size _ ((gb822, 23, #[.int .i64 t819, .int .i64 t820]) :: _)) := ⟨Boxes.below (by (with_reducible repeat (first | apply boxes_drewN | apply boxes_drew | apply boxes_alloc)); apply boxes_put 0; (with_reducible repeat (first | apply boxes_drewN | apply boxes_drew | apply boxes_alloc)); apply boxes_put 0; (with_reducible repeat (first | apply boxes_drewN | apply boxes_drew | apply boxes_alloc)); exact BX.out; any_goals rfl) hb⟩; have n1_ := Aside0.mk (below_step (by repeat (first | (with_reducible first | exact HB.out | apply below_alloc | apply pw_below_drewN | apply below_drew1 | refine below_set ?_ (Aside0.out (by assumption))) | exact HB.out)) hb); clear BX HB; have BX := n0_; have HB := n1_; clear n0_ n1_; (try clear hb); (try clear hb2); (try clear hk); (try clear hi)))
         go_meet
         case rel => exact ⟨_, (decide (t823 ≥ 0)), (by first | rfl | (simp; done) | (simp [*]; done) | (simp [bne_nil]; done)), H', ⟨by have := HJ2.out; have := HJ26.out; first | omega | exact Nat.le_refl _⟩, ⟨by (with_reducible repeat (first | apply boxes_drewN | apply boxes_drew | apply boxes_alloc)); exact BX.out⟩, ⟨by repeat (first | (with_reducible first | exact HB.out | apply below_alloc | apply pw_below_drewN | apply below_drew1 | refine below_set ?_ (Aside0.out (by assumption))) | exact HB.out)⟩⟩
        ·replace c57 := Bool.eq_false_iff.mpr c57
         subst c57
         have H1 : (whittlelaw1_NumFloors.j2 kj26 false a0_0 a0_1 a1_0 a1_1) = some r := by rw [if_neg (show ¬ (false = true) by decide)] at H; exact H
         clear H
         have H := H1
         clear H1
         have H' := Aside0.mk H
         clear H
         go_wp2
         go_meet
         case rel => exact ⟨_, (false), (by first | rfl | (simp; done) | (simp [*]; done) | (simp [bne_nil]; done)), H', ⟨by have := HJ2.out; have := HJ26.out; first | omega | exact Nat.le_refl _⟩, ⟨by (with_reducible repeat (first | apply boxes_drewN | apply boxes_drew | apply boxes_alloc)); apply boxes_put 0; (with_reducible repeat (first | apply boxes_drewN | apply boxes_drew | apply boxes_alloc)); apply boxes_put 0; (with_reducible repeat (first | apply boxes_drewN | apply boxes_drew | apply boxes_alloc)); exact BX.out; any_goals rfl⟩, ⟨by repeat (first | (with_reducible first | exact HB.out | apply below_alloc | apply pw_below_drewN | apply below_drew1 | refine below_set ?_ (Aside0.out (by assumption))) | exact HB.out)⟩⟩
       case rest =>
        clear HC49
        try clear c1
        try clear c2
        try clear p2
        try clear c3
        try clear c4
        try clear c5
        try clear c6
        try clear c7
        try clear c9
        try clear c12
        try clear c18
        try clear c22
        try clear c28
        try clear c32
        try clear c33
        try clear c36
        try clear c37
        try clear c37b0
        try clear c37b1
        try clear c38
        try clear c38b0
        try clear c38b1
        try clear c40
        try clear c41
        try clear c43
        try clear c46
        try clear c48
        try clear c57
        try clear c59
        try clear c60
        try clear c61
        try clear c63
        try clear c64
        try clear hcz13_0
        try clear hcz13_1
        try clear hcz15_0
        try clear hcz15_1
        try clear hcz19_0
        try clear hcz19_1
        try clear hcz29_0
        try clear hcz29_1
        try clear hcz34_0
        try clear hcz34_1
        try clear hcz42_0
        try clear hcz42_1
        try clear hcz44_0
        try clear hcz44_1
        try clear hcz62_0
        try clear hcz62_1
        try clear hcz65_0
        try clear hcz65_1
        try clear hfz13_0
        try clear hfz13_1
        try clear hfz15_0
        try clear hfz15_1
        try clear hfz19_0
        try clear hfz19_1
        try clear hfz29_0
        try clear hfz29_1
        try clear hfz34_0
        try clear hfz34_1
        try clear hfz42_0
        try clear hfz42_1
        try clear hfz44_0
        try clear hfz44_1
        try clear hfz62_0
        try clear hfz62_1
        try clear hfz65_0
        try clear hfz65_1
        try clear p2
        obtain ⟨kq, x70_48, rfl, HA, HJ48, BX, HB⟩ := hcut
        cases kq with
        | zero => exact absurd HA.out (by simp [whittlelaw1_NumFloors.j2])
        | succ kj48 =>
         have H := HA.out
         clear HA
         simp only [whittlelaw1_NumFloors.j2] at H
         by_cases c67 : x70_48 = true
         ·subst c67
          have H1 : (some false) = some r := by rw [if_pos rfl] at H; exact H
          clear H
          have H := H1
          clear H1
          exact absurd (Option.some.inj H) (by rw [HR.out]; decide)
         ·replace c67 := Bool.eq_false_iff.mpr c67
          subst c67
          have H1 : ((num_Mod.f kj48 a0_0 a0_1 a1_0 a1_1).bind fun bt824 => (if a1_0 = 0 then (some (!bt824.2.2)) else (if bt824.2.2 = true then ((whittlelaw1_zero.f).bind fun bt828 => ((num_Cmp.f kj48 a1_0 a1_1 bt828.1 bt828.2).bind fun t830 => ((whittlelaw1_zero.f).bind fun bt831 => ((num_Cmp.f kj48 bt824.1 bt824.2.1 bt831.1 bt831.2).bind fun t833 => (if t833 = (wrap64 (-t830)) then (whittlelaw1_NumFloors.j3 kj48 true a0_0 a0_1 a1_0 a1_1 bt824.1 bt824.2.1) else ((num_Cmp.f kj48 bt824.1 bt824.2.1 a1_0 a1_1).bind fun t834 => (whittlelaw1_NumFloors.j3 kj48 (decide ((wrap64 (t834 * t830)) ≥ 0)) a0_0 a0_1 a1_0 a1_1 bt824.1 bt824.2.1))))))) else (some true)))) = some r := by rw [if_neg (show ¬ (false = true) by decide)] at H; exact H
          clear H
          have H := H1
          clear H1
          replace H := Option.bind_eq_some_iff.mp H
          obtain ⟨⟨t824, t825, t826⟩, A680, H⟩ := H
          replace H : (if a1_0 = 0 then (some (!t826)) else (if t826 = true then ((whittlelaw1_zero.f).bind fun bt828 => ((num_Cmp.f kj48 a1_0 a1_1 bt828.1 bt828.2).bind fun t830 => ((whittlelaw1_zero.f).bind fun bt831 => ((num_Cmp.f kj48 t824 t825 bt831.1 bt831.2).bind fun t833 => (if t833 = (wrap64 (-t830)) then (whittlelaw1_NumFloors.j3 kj48 true a0_0 a0_1 a1_0 a1_1 t824 t825) else ((num_Cmp.f kj48 t824 t825 a1_0 a1_1).bind fun t834 => (whittlelaw1_NumFloors.j3 kj48 (decide ((wrap64 (t834 * t830)) ≥ 0)) a0_0 a0_1 a1_0 a1_1 t824 t825))))))) else (some true))) = some r := H
          have A68 := Aside0.mk A680
          clear A680
          by_cases c69 : a1_0 = 0
          ·rw [if_pos c69] at H
           have c69b0 : (a1_0 == 0) = true := beq_iff_eq.mpr c69
           have c69b1 : (a1_0 != 0) = false := bne_eq_false_iff_eq.mpr c69
           clear c69
           clear HR
           obtain rfl := Option.some.inj H
           obtain ⟨⟨hnb72, hnc72⟩, ⟨hnb71, hnc71⟩, ⟨hnb70, hnc70⟩, -⟩ := BX.out.apart 3 rfl
           have hcz73_0 : wc.cell? ⟨gb805, 0, none⟩ = some (.int .i64 a0_0) := (blk_cell (BX.out.get 3 rfl) 0).trans rfl
           have hcz73_1 : wc.cell? ⟨gb805, 1, none⟩ = some (.int .i64 a0_1) := (blk_cell (BX.out.get 3 rfl) 1).trans rfl
           have hfz73_0 := blk_frozen (BX.out.get 3 rfl) 0
           have hfz73_1 := blk_frozen (BX.out.get 3 rfl) 1
           obtain ⟨⟨hnb75, hnc75⟩, ⟨hnb74, hnc74⟩, -⟩ := BX.out.apart 2 rfl
           have hcz76_0 : wc.cell? ⟨gb806, 0, none⟩ = some (.int .i64 a1_0) := (blk_cell (BX.out.get 2 rfl) 0).trans rfl
           have hcz76_1 : wc.cell? ⟨gb806, 1, none⟩ = some (.int .i64 a1_1) := (blk_cell (BX.out.get 2 rfl) 1).trans rfl
           have hfz76_0 := blk_frozen (BX.out.get 2 rfl) 0
           have hfz76_1 := blk_frozen (BX.out.get 2 rfl) 1
           go_wp2_with (first | ((with_reducible refine gate_callee (f := 49) rfl ?_); refine goesL_ (some 74) rfl rfl Tryd.func49 (by kernel_rfl) rfl #[.agg #[.int .i64 a0_0, .int .i64 a0_1], .agg #[.int .i64 a1_0, .int .i64 a1_1]] rfl (by (try simp only [List.map_toArray, List.map_cons, List.map_nil]); first | done | rfl | (simp only [List.length_drop, List.length_take]; rfl)) ?_; (with_reducible refine (num_Mod.calls kj48 a0_0 a0_1 a1_0 a1_1 t824 t825 t826 _ A68.out).mono ?_); rintro e w77 ⟨rfl, hb⟩; refine ⟨_, rfl, ?_⟩; have n0_ := Aside0.mk (Boxes.below (by (with_reducible repeat (first | apply boxes_drewN | apply boxes_drew | apply boxes_alloc)); exact BX.out) hb); have n1_ := Aside0.mk (below_step (by repeat (first | (with_reducible first | exact HB.out | apply below_alloc | apply pw_below_drewN | apply below_drew1 | refine below_set ?_ (Aside0.out (by assumption))) | exact HB.out)) hb); clear BX HB; have BX := n0_; have HB := n1_; clear n0_ n1_; (try clear hb); (try clear hb2); (try clear hk); (try clear hi)) | ((with_reducible refine gate_dst (N := 10) rfl ?_); refine box_event ?hg (N := 10) ?hd (cs := #[.int .i64 0, .int .i64 0]) (t := 23) ?hr ?_; (case hd => rfl); (case hg => rfl); (case hr => first | (go_simp; done) | (go_simp; rfl)); intro gb827 hg w78 hbox hb; have n0_ := Aside0.mk (Boxes.new (by (with_reducible repeat (first | apply boxes_drewN | apply boxes_drew | apply boxes_alloc)); exact BX.out) hg hbox hb (below_size (by repeat (first | (with_reducible first | exact HB.out | apply below_alloc | apply pw_below_drewN | apply below_drew1 | refine below_set ?_ (Aside0.out (by assumption))) | exact HB.out)))); have n1_ := Aside0.mk (below_step (by repeat (first | (with_reducible first | exact HB.out | apply below_alloc | apply pw_below_drewN | apply below_drew1 | refine below_set ?_ (Aside0.out (by assumption))) | exact HB.out)) hb); have n2_ := Aside0.mk ((by rw [hg]; exact (below_size (by repeat (first | (with_reducible first | exact HB.out | apply below_alloc | apply pw_below_drewN | apply below_drew1 | refine below_set ?_ (Aside0.out (by assumption))) | exact HB.out))) : w.heap.size ≤ gb827)); clear BX HB; have BX := n0_; have HB := n1_; have GE827 := n2_; clear n0_ n1_ n2_; clear hb hbox hg; obtain ⟨⟨hnb82, hnc82⟩, ⟨hnb81, hnc81⟩, ⟨hnb80, hnc80⟩, ⟨hnb79, hnc79⟩, -⟩ := BX.out.apart 0 rfl; have hcz83_0 : w78.cell? ⟨gb827, 0, none⟩ = some (.int .i64 0) := (blk_cell (BX.out.get 0 rfl) 0).trans rfl; have hcz83_1 : w78.cell? ⟨gb827, 1, none⟩ = some (.int .i64 0) := (blk_cell (BX.out.get 0 rfl) 1).trans rfl; have hfz83_0 := blk_frozen (BX.out.get 0 rfl) 0; have hfz83_1 := blk_frozen (BX.out.get 0 rfl) 1; have hcz84_0 : w78.cell? ⟨gb806, 0, none⟩ = some (.int .i64 a1_0) := (blk_cell (BX.out.get 3 rfl) 0).trans rfl; have hcz84_1 : w78.cell? ⟨gb806, 1, none⟩ = some (.int .i64 a1_1) := (blk_cell (BX.out.get 3 rfl) 1).trans rfl; have hfz84_0 := blk_frozen (BX.out.get 3 rfl) 0; have hfz84_1 := blk_frozen (BX.out.get 3 rfl) 1))
           go_ret
           exact ⟨by first | rfl | (simp [errW_none, errW_some] <;> rfl) | (simp [*, errW_none, errW_some] <;> rfl), by repeat (first | (with_reducible first | exact HB.out | apply below_alloc | apply pw_below_drewN | apply below_drew1 | refine below_set ?_ (Aside0.out (by assumption))) | exact HB.out)⟩
          ·rw [if_neg c69] at H
           have c69b0 : (a1_0 == 0) = false := beq_eq_false_iff_ne.mpr c69
           have c69b1 : (a1_0 != 0) = true := bne_iff_ne.mpr c69
           by_cases c85 : t826 = true
           ·subst c85
            have H1 : ((whittlelaw1_zero.f).bind fun bt828 => ((num_Cmp.f kj48 a1_0 a1_1 bt828.1 bt828.2).bind fun t830 => ((whittlelaw1_zero.f).bind fun bt831 => ((num_Cmp.f kj48 t824 t825 bt831.1 bt831.2).bind fun t833 => (if t833 = (wrap64 (-t830)) then (whittlelaw1_NumFloors.j3 kj48 true a0_0 a0_1 a1_0 a1_1 t824 t825) else ((num_Cmp.f kj48 t824 t825 a1_0 a1_1).bind fun t834 => (whittlelaw1_NumFloors.j3 kj48 (decide ((wrap64 (t834 * t830)) ≥ 0)) a0_0 a0_1 a1_0 a1_1 t824 t825))))))) = some r := by rw [if_pos rfl] at H; exact H
            clear H
            have H := H1
            clear H1
            replace H := Option.bind_eq_some_iff.mp H
            obtain ⟨⟨t828, t829⟩, A860, H⟩ := H
            have A86 := Aside0.mk A860
            clear A860
            replace H := Option.bind_eq_some_iff.mp H
            obtain ⟨t830, A870, H⟩ := H
            replace H : ((whittlelaw1_zero.f).bind fun bt831 => ((num_Cmp.f kj48 t824 t825 bt831.1 bt831.2).bind fun t833 => (if t833 = (wrap64 (-t830)) then (whittlelaw1_NumFloors.j3 kj48 true a0_0 a0_1 a1_0 a1_1 t824 t825) else ((num_Cmp.f kj48 t824 t825 a1_0 a1_1).bind fun t834 => (whittlelaw1_NumFloors.j3 kj48 (decide ((wrap64 (t834 * t830)) ≥ 0)) a0_0 a0_1 a1_0 a1_1 t824 t825))))) = some r := H
            have A87 := Aside0.mk A870
            clear A870
            have HC88 := Aside0.mk H
            clear H
            obtain ⟨⟨hnb91, hnc91⟩, ⟨hnb90, hnc90⟩, ⟨hnb89, hnc89⟩, -⟩ := BX.out.apart 3 rfl
            have hcz92_0 : wc.cell? ⟨gb805, 0, none⟩ = some (.int .i64 a0_0) := (blk_cell (BX.out.get 3 rfl) 0).trans rfl
            have hcz92_1 : wc.cell? ⟨gb805, 1, none⟩ = some (.int .i64 a0_1) := (blk_cell (BX.out.get 3 rfl) 1).trans rfl
            have hfz92_0 := blk_frozen (BX.out.get 3 rfl) 0
            have hfz92_1 := blk_frozen (BX.out.get 3 rfl) 1
            obtain ⟨⟨hnb94, hnc94⟩, ⟨hnb93, hnc93⟩, -⟩ := BX.out.apart 2 rfl
            have hcz95_0 : wc.cell? ⟨gb806, 0, none⟩ = some (.int .i64 a1_0) := (blk_cell (BX.out.get 2 rfl) 0).trans rfl
            have hcz95_1 : wc.cell? ⟨gb806, 1, none⟩ = some (.int .i64 a1_1) := (blk_cell (BX.out.get 2 rfl) 1).trans rfl
            have hfz95_0 := blk_frozen (BX.out.get 2 rfl) 0
            have hfz95_1 := blk_frozen (BX.out.get 2 rfl) 1
            try go_wp2_with (first | ((with_reducible refine gate_callee (f := 49) rfl ?_); refine goesL_ (some 74) rfl rfl Tryd.func49 (by kernel_rfl) rfl #[.agg #[.int .i64 a0_0, .int .i64 a0_1], .agg #[.int .i64 a1_0, .int .i64 a1_1]] rfl (by (try simp only [List.map_toArray, List.map_cons, List.map_nil]); first | done | rfl | (simp only [List.length_drop, List.length_take]; rfl)) ?_; (with_reducible refine (num_Mod.calls kj48 a0_0 a0_1 a1_0 a1_1 t824 t825 true _ A68.out).mono ?_); rintro e w96 ⟨rfl, hb⟩; refine ⟨_, rfl, ?_⟩; have n0_ := Aside0.mk (Boxes.below (by (with_reducible repeat (first | apply boxes_drewN | apply boxes_drew | apply boxes_alloc)); exact BX.out) hb); have n1_ := Aside0.mk (below_step (by repeat (first | (with_reducible first | exact HB.out | apply below_alloc | apply pw_below_drewN | apply below_drew1 | refine below_set ?_ (Aside0.out (by assumption))) | exact HB.out)) hb); clear BX HB; have BX := n0_; have HB := n1_; clear n0_ n1_; (try clear hb); (try clear hb2); (try clear hk); (try clear hi)) | ((with_reducible refine gate_dst (N := 10) rfl ?_); refine box_event ?hg (N := 10) ?hd (cs := #[.int .i64 0, .int .i64 0]) (t := 23) ?hr ?_; (case hd => rfl); (case hg => rfl); (case hr => first | (go_simp; done) | (go_simp; rfl)); intro gb827 hg w97 hbox hb; have n0_ := Aside0.mk (Boxes.new (by (with_reducible repeat (first | apply boxes_drewN | apply boxes_drew | apply boxes_alloc)); exact BX.out) hg hbox hb (below_size (by repeat (first | (with_reducible first | exact HB.out | apply below_alloc | apply pw_below_drewN | apply below_drew1 | refine below_set ?_ (Aside0.out (by assumption))) | exact HB.out)))); have n1_ := Aside0.mk (below_step (by repeat (first | (with_reducible first | exact HB.out | apply below_alloc | apply pw_below_drewN | apply below_drew1 | refine below_set ?_ (Aside0.out (by assumption))) | exact HB.out)) hb); have n2_ := Aside0.mk ((by rw [hg]; exact (below_size (by repeat (first | (with_reducible first | exact HB.out | apply below_alloc | apply pw_below_drewN | apply below_drew1 | refine below_set ?_ (Aside0.out (by assumption))) | exact HB.out))) : w.heap.size ≤ gb827)); clear BX HB; have BX := n0_; have HB := n1_; have GE827 := n2_; clear n0_ n1_ n2_; clear hb hbox hg; obtain ⟨⟨hnb101, hnc101⟩, ⟨hnb100, hnc100⟩, ⟨hnb99, hnc99⟩, ⟨hnb98, hnc98⟩, -⟩ := BX.out.apart 0 rfl; have hcz102_0 : w97.cell? ⟨gb827, 0, none⟩ = some (.int .i64 0) := (blk_cell (BX.out.get 0 rfl) 0).trans rfl; have hcz102_1 : w97.cell? ⟨gb827, 1, none⟩ = some (.int .i64 0) := (blk_cell (BX.out.get 0 rfl) 1).trans rfl; have hfz102_0 := blk_frozen (BX.out.get 0 rfl) 0; have hfz102_1 := blk_frozen (BX.out.get 0 rfl) 1; have hcz103_0 : w97.cell? ⟨gb806, 0, none⟩ = some (.int .i64 a1_0) := (blk_cell (BX.out.get 3 rfl) 0).trans rfl; have hcz103_1 : w97.cell? ⟨gb806, 1, none⟩ = some (.int .i64 a1_1) := (blk_cell (BX.out.get 3 rfl) 1).trans rfl; have hfz103_0 := blk_frozen (BX.out.get 3 rfl) 0; have hfz103_1 := blk_frozen (BX.out.get 3 rfl) 1))
            have n0_ : Aside0 (Boxes w.heap.size ((w97.setCell ⟨gb827, 0, none⟩ (.int .i64 t824)).setCell ⟨gb827, 1, none⟩ (.int .i64 t825)) ((gb827, 23, #[.int .i64 t824, .int .i64 t825]) :: _)) := ⟨by (with_reducible repeat (first | apply boxes_drewN | apply boxes_drew | apply boxes_alloc)); apply boxes_put 0; (with_reducible repeat (first | apply boxes_drewN | apply boxes_drew | apply boxes_alloc)); apply boxes_put 0; (with_reducible repeat (first | apply boxes_drewN | apply boxes_drew | apply boxes_alloc)); exact BX.out; any_goals rfl⟩
            have n1_ : Aside0 (Below w.heap.size w ((w97.setCell ⟨gb827, 0, none⟩ (.int .i64 t824)).setCell ⟨gb827, 1, none⟩ (.int .i64 t825))) := ⟨by repeat (first | (with_reducible first | exact HB.out | apply below_alloc | apply pw_below_drewN | apply below_drew1 | refine below_set ?_ (Aside0.out (by assumption))) | exact HB.out)⟩
            (try clear BX)
            (try clear HB)
            generalize ((w97.setCell ⟨gb827, 0, none⟩ (.int .i64 t824)).setCell ⟨gb827, 1, none⟩ (.int .i64 t825)) = w104 at n0_ n1_ ⊢
            have BX := n0_
            have HB := n1_
            clear n0_ n1_
            have n0_ := Aside0.mk (boxes_drew BX.out)
            have n1_ := Aside0.mk (below_drew1 HB.out)
            clear BX HB
            have BX := n0_
            have HB := n1_
            clear n0_ n1_
            refine start_ (n := 4) (S := fun w' => w'.cell? ⟨gb806, 0, none⟩ = some (.int .i64 a1_0) ∧ w'.cell? ⟨gb806, 1, none⟩ = some (.int .i64 a1_1)) (ds := []) #[false, false, false, false] (by kernel_rfl) rfl rfl ⟨(blk_cell (BX.out.get 3 rfl) 0).trans rfl, (blk_cell (BX.out.get 3 rfl) 1).trans rfl⟩ (fun hHeld => ?_)
            generalize w104.drew = w105 at BX HB hHeld ⊢
            refine take_ (i := 0) (N := some 84) (v := ?_) (a' := ?_) #[true, false, false, false] rfl rfl (by kernel_rfl) (fun _ _ _ h => h) (Or.inl ⟨by rfl, ?_⟩) hHeld ?_ ?_
            rotate_left
            ·rintro w' ⟨s0, s1⟩
             go_simp
             with_reducible rfl
            rotate_left
            ·simp only [Act.put, List.setIfInBounds_toArray, List.set_cons_zero, List.set_cons_succ, i64_w, i32_w]
             rfl
            refine one_ (i := 1) (N := some 85) #[true, true, false, false] rfl rfl (by kernel_rfl) (by decide) (fun K hK => ?_)
            refine goes_ Tryd.func32 (by kernel_rfl) rfl #[] (by rfl) rfl rfl (by (try simp only [List.map_toArray, List.map_cons, List.map_nil]); first | done | rfl | (simp only [List.length_drop, List.length_take]; rfl)) ?_
            with_reducible refine (whittlelaw1_zero.calls  t828 t829 _ A86.out).mono ?_
            rintro e w106 ⟨rfl, hb⟩
            refine ⟨_, rfl, ?_⟩
            have n0_ := Aside0.mk (Boxes.below (by (with_reducible repeat (first | apply boxes_drewN | apply boxes_drew | apply boxes_alloc)); exact BX.out) hb)
            have n1_ := Aside0.mk (below_step (by repeat (first | (with_reducible first | exact HB.out | apply below_alloc | apply pw_below_drewN | apply below_drew1 | refine below_set ?_ (Aside0.out (by assumption))) | exact HB.out)) hb)
            clear BX HB
            have BX := n0_
            have HB := n1_
            clear n0_ n1_
            (try clear hb)
            (try clear hb2)
            (try clear hk)
            (try clear hi)
            refine hK.out _ _ ⟨(blk_cell (BX.out.get 3 rfl) 0).trans rfl, (blk_cell (BX.out.get 3 rfl) 1).trans rfl⟩ (fun hHeld => ?_)
            clear hK K
            refine norm_ (a' := ?_) ?_ ?_
            rotate_left
            ·show Act.put _ (some 85) _ = _
             simp only [Act.put, List.setIfInBounds_toArray, List.set_cons_zero, List.set_cons_succ, i64_w, i32_w]
             rfl
            refine one_ (i := 2) (N := some 86) #[true, true, true, false] rfl rfl (by kernel_rfl) (by decide) (fun K hK => ?_)
            refine goes_ Tryd.func25 (by kernel_rfl) rfl #[.agg #[.int .i64 a1_0, .int .i64 a1_1], .agg #[.int .i64 t828, .int .i64 t829]] (by rfl) rfl rfl (by (try simp only [List.map_toArray, List.map_cons, List.map_nil]); first | done | rfl | (simp only [List.length_drop, List.length_take]; rfl)) ?_
            with_reducible refine (num_Cmp.calls kj48 a1_0 a1_1 t828 t829 t830 _ A87.out).mono ?_
            rintro e w107 ⟨rfl, hb⟩
            refine ⟨_, rfl, ?_⟩
            have n0_ := Aside0.mk (Boxes.below (by (with_reducible repeat (first | apply boxes_drewN | apply boxes_drew | apply boxes_alloc)); exact BX.out) hb)
            have n1_ := Aside0.mk (below_step (by repeat (first | (with_reducible first | exact HB.out | apply below_alloc | apply pw_below_drewN | apply below_drew1 | refine below_set ?_ (Aside0.out (by assumption))) | exact HB.out)) hb)
            clear BX HB
            have BX := n0_
            have HB := n1_
            clear n0_ n1_
            (try clear hb)
            (try clear hb2)
            (try clear hk)
            (try clear hi)
            refine hK.out _ _ ⟨(blk_cell (BX.out.get 3 rfl) 0).trans rfl, (blk_cell (BX.out.get 3 rfl) 1).trans rfl⟩ (fun hHeld => ?_)
            clear hK K
            refine norm_ (a' := ?_) ?_ ?_
            rotate_left
            ·show Act.put _ (some 86) _ = _
             simp only [Act.put, List.setIfInBounds_toArray, List.set_cons_zero, List.set_cons_succ, i64_w, i32_w]
             rfl
            refine pure_ (i := 3) (N := some 12) (v := ?_) (a' := ?_) #[true, true, true, true] rfl rfl (by kernel_rfl) (fun _ _ _ h => h) (Or.inl ⟨by rfl, ?_⟩) ?_ ?_
            rotate_left
            ·intro w'
             go_simp
             with_reducible rfl
            rotate_left
            ·simp only [Act.put, List.setIfInBounds_toArray, List.set_cons_zero, List.set_cons_succ, i64_w, i32_w]
             rfl
            refine done_ (by kernel_rfl) ?_
            go_upto_region 16 with (fail)
            go_cut [100] (fun v100 wc => ∃ (kq : Nat) (x100_87 : Bool), v100 = .bool x100_87 ∧ Aside0 (whittlelaw1_NumFloors.j3 kq x100_87 a0_0 a0_1 a1_0 a1_1 t824 t825 = some r) ∧ Aside0 (kq ≤ kj48) ∧ Aside0 (Boxes w.heap.size wc [(gb827, 23, #[.int .i64 t824, .int .i64 t825]), (gb822, 23, #[.int .i64 t819, .int .i64 t820]), (gb813, 23, #[.int .i64 t811, .int .i64 t812]), (gb806, 23, #[.int .i64 a1_0, .int .i64 a1_1]), (gb805, 23, #[.int .i64 a0_0, .int .i64 a0_1])]) ∧ Aside0 (Below w.heap.size w wc))
            case first =>
             have H := HC88.out
             clear HC88
             replace H := Option.bind_eq_some_iff.mp H
             obtain ⟨⟨t831, t832⟩, A1080, H⟩ := H
             have A108 := Aside0.mk A1080
             clear A1080
             replace H := Option.bind_eq_some_iff.mp H
             obtain ⟨t833, A1090, H⟩ := H
             replace H : (if t833 = (wrap64 (-t830)) then (whittlelaw1_NumFloors.j3 kj48 true a0_0 a0_1 a1_0 a1_1 t824 t825) else ((num_Cmp.f kj48 t824 t825 a1_0 a1_1).bind fun t834 => (whittlelaw1_NumFloors.j3 kj48 (decide ((wrap64 (t834 * t830)) ≥ 0)) a0_0 a0_1 a1_0 a1_1 t824 t825))) = some r := H
             have A109 := Aside0.mk A1090
             clear A1090
             by_cases c110 : t833 = (wrap64 (-t830))
             ·rw [if_pos c110] at H
              have c110b0 : (t833 == (wrap64 (-t830))) = true := beq_iff_eq.mpr c110
              have c110b1 : (t833 != (wrap64 (-t830))) = false := bne_eq_false_iff_eq.mpr c110
              clear c110
              (first | rw [c110b0] | (simp only [i64_w, i32_w]; rw [c110b0]) | skip)
              exact (no_meet (g := fun k_ => whittlelaw1_NumFloors.j3 k_ true a0_0 a0_1 a1_0 a1_1 t824 t825) HR.out H (by simp only [whittlelaw1_NumFloors.j3]) (fun k_ => by simp only [whittlelaw1_NumFloors.j3]; first | exact if_pos rfl | rfl | simp)).elim
             ·rw [if_neg c110] at H
              have c110b0 : (t833 == (wrap64 (-t830))) = false := beq_eq_false_iff_ne.mpr c110
              have c110b1 : (t833 != (wrap64 (-t830))) = true := bne_iff_ne.mpr c110
              (first | rw [c110b0] | (simp only [i64_w, i32_w]; rw [c110b0]) | skip)
              replace H := Option.bind_eq_some_iff.mp H
              obtain ⟨t834, A1110, H⟩ := H
              replace H : (whittlelaw1_NumFloors.j3 kj48 (decide ((wrap64 (t834 * t830)) ≥ 0)) a0_0 a0_1 a1_0 a1_1 t824 t825) = some r := H
              have A111 := Aside0.mk A1110
              clear A1110
              have H' := Aside0.mk H
              clear H
              try go_wp2
              have n0_ := Aside0.mk (boxes_drew BX.out)
              have n1_ := Aside0.mk (below_drew1 HB.out)
              clear BX HB
              have BX := n0_
              have HB := n1_
              clear n0_ n1_
              refine start_ (n := 14) (S := fun w' => w'.cell? ⟨gb827, 0, none⟩ = some (.int .i64 t824) ∧ w'.cell? ⟨gb827, 1, none⟩ = some (.int .i64 t825) ∧ w'.cell? ⟨gb806, 0, none⟩ = some (.int .i64 a1_0) ∧ w'.cell? ⟨gb806, 1, none⟩ = some (.int .i64 a1_1)) (ds := []) #[false, false, false, false, false, false, false, false, false, false, false, false, false, false] (by kernel_rfl) rfl rfl ⟨(blk_cell (BX.out.get 0 rfl) 0).trans rfl, (blk_cell (BX.out.get 0 rfl) 1).trans rfl, (blk_cell (BX.out.get 3 rfl) 0).trans rfl, (blk_cell (BX.out.get 3 rfl) 1).trans rfl⟩ (fun hHeld => ?_); refine with_tabW whittlelaw1_NumFloors.tab16 whittlelaw1_NumFloors.bits16 (fun HT_ HW_ => ?_)
              generalize w107.drew = w112 at BX HB hHeld ⊢
              refine pure_ (i := 3) (N := some 90) (v := ?_) (a' := ?_) #[false, false, false, true, false, false, false, false, false, false, false, false, false, false] rfl rfl (any_of HT_.out (by kernel_rfl)) (fun _ _ _ h => h) (Or.inl ⟨by rfl, ?_⟩) ?_ ?_
              rotate_left
              ·intro w'
               go_simp
               with_reducible rfl
              rotate_left
              ·simp only [Act.put, List.setIfInBounds_toArray, List.set_cons_zero, List.set_cons_succ, i64_w, i32_w]
               rfl
              refine pure_ (i := 4) (N := some 91) (v := ?_) (a' := ?_) #[false, false, false, true, true, false, false, false, false, false, false, false, false, false] rfl rfl (any_of HT_.out (by kernel_rfl)) (fun _ _ _ h => h) (Or.inl ⟨by rfl, ?_⟩) ?_ ?_
              rotate_left
              ·intro w'
               go_simp
               with_reducible rfl
              rotate_left
              ·simp only [Act.put, List.setIfInBounds_toArray, List.set_cons_zero, List.set_cons_succ, i64_w, i32_w]
               rfl
              refine take_ (i := 0) (N := some 87) (v := ?_) (a' := ?_) #[true, false, false, true, true, false, false, false, false, false, false, false, false, false] rfl rfl (take_ofW HT_.out HW_.out (by kernel_rfl)) (fun _ _ _ h => h) (Or.inl ⟨by rfl, ?_⟩) hHeld ?_ ?_
              rotate_left
              ·rintro w' ⟨s0, s1, s2, s3⟩
               go_simp
               with_reducible rfl
              rotate_left
              ·simp only [Act.put, List.setIfInBounds_toArray, List.set_cons_zero, List.set_cons_succ, i64_w, i32_w]
               rfl
              refine one_ (i := 1) (N := some 88) #[true, true, false, true, true, false, false, false, false, false, false, false, false, false] rfl rfl (one_of HT_.out (by kernel_rfl)) (by decide) (fun K hK => ?_)
              refine goes_ Tryd.func32 (by kernel_rfl) rfl #[] (by rfl) rfl rfl (by (try simp only [List.map_toArray, List.map_cons, List.map_nil]); first | done | rfl | (simp only [List.length_drop, List.length_take]; rfl)) ?_
              with_reducible refine (whittlelaw1_zero.calls  t831 t832 _ A108.out).mono ?_
              rintro e w113 ⟨rfl, hb⟩
              refine ⟨_, rfl, ?_⟩
              have n0_ := Aside0.mk (Boxes.below (by (with_reducible repeat (first | apply boxes_drewN | apply boxes_drew | apply boxes_alloc)); exact BX.out) hb)
              have n1_ := Aside0.mk (below_step (by repeat (first | (with_reducible first | exact HB.out | apply below_alloc | apply pw_below_drewN | apply below_drew1 | refine below_set ?_ (Aside0.out (by assumption))) | exact HB.out)) hb)
              clear BX HB
              have BX := n0_
              have HB := n1_
              clear n0_ n1_
              (try clear hb)
              (try clear hb2)
              (try clear hk)
              (try clear hi)
              refine hK.out _ _ ⟨(blk_cell (BX.out.get 0 rfl) 0).trans rfl, (blk_cell (BX.out.get 0 rfl) 1).trans rfl, (blk_cell (BX.out.get 3 rfl) 0).trans rfl, (blk_cell (BX.out.get 3 rfl) 1).trans rfl⟩ (fun hHeld => ?_)
              clear hK K
              refine norm_ (a' := ?_) ?_ ?_
              rotate_left
              ·show Act.put _ (some 88) _ = _
               simp only [Act.put, List.setIfInBounds_toArray, List.set_cons_zero, List.set_cons_succ, i64_w, i32_w]
               rfl
              refine one_ (i := 2) (N := some 89) #[true, true, true, true, true, false, false, false, false, false, false, false, false, false] rfl rfl (one_of HT_.out (by kernel_rfl)) (by decide) (fun K hK => ?_)
              refine goes_ Tryd.func25 (by kernel_rfl) rfl #[.agg #[.int .i64 t824, .int .i64 t825], .agg #[.int .i64 t831, .int .i64 t832]] (by rfl) rfl rfl (by (try simp only [List.map_toArray, List.map_cons, List.map_nil]); first | done | rfl | (simp only [List.length_drop, List.length_take]; rfl)) ?_
              with_reducible refine (num_Cmp.calls kj48 t824 t825 t831 t832 t833 _ A109.out).mono ?_
              rintro e w114 ⟨rfl, hb⟩
              refine ⟨_, rfl, ?_⟩
              have n0_ := Aside0.mk (Boxes.below (by (with_reducible repeat (first | apply boxes_drewN | apply boxes_drew | apply boxes_alloc)); exact BX.out) hb)
              have n1_ := Aside0.mk (below_step (by repeat (first | (with_reducible first | exact HB.out | apply below_alloc | apply pw_below_drewN | apply below_drew1 | refine below_set ?_ (Aside0.out (by assumption))) | exact HB.out)) hb)
              clear BX HB
              have BX := n0_
              have HB := n1_
              clear n0_ n1_
              (try clear hb)
              (try clear hb2)
              (try clear hk)
              (try clear hi)
              refine hK.out _ _ ⟨(blk_cell (BX.out.get 0 rfl) 0).trans rfl, (blk_cell (BX.out.get 0 rfl) 1).trans rfl, (blk_cell (BX.out.get 3 rfl) 0).trans rfl, (blk_cell (BX.out.get 3 rfl) 1).trans rfl⟩ (fun hHeld => ?_)
              clear hK K
              refine norm_ (a' := ?_) ?_ ?_
              rotate_left
              ·show Act.put _ (some 89) _ = _
               simp only [Act.put, List.setIfInBounds_toArray, List.set_cons_zero, List.set_cons_succ, i64_w, i32_w]
               rfl
              refine pure_ (i := 5) (N := some 92) (v := ?_) (a' := ?_) #[true, true, true, true, true, true, false, false, false, false, false, false, false, false] rfl rfl (any_of HT_.out (by kernel_rfl)) (fun _ _ _ h => h) (Or.inl ⟨by rfl, ?_⟩) ?_ ?_
              rotate_left
              ·intro w'
               go_simp
               with_reducible rfl
              rotate_left
              ·simp only [Act.put, List.setIfInBounds_toArray, List.set_cons_zero, List.set_cons_succ, i64_w, i32_w]
               rfl
              refine pure_ (i := 6) (N := some 93) (v := ?_) (a' := ?_) #[true, true, true, true, true, true, true, false, false, false, false, false, false, false] rfl rfl (any_of HT_.out (by kernel_rfl)) (fun _ _ _ h => h) (Or.inl ⟨by rfl, ?_⟩) ?_ ?_
              rotate_left
              ·intro w'
               go_simp
               with_reducible rfl
              rotate_left
              ·simp only [Act.put, List.setIfInBounds_toArray, List.set_cons_zero, List.set_cons_succ, i64_w, i32_w]
               rfl
              refine pure_ (i := 10) (N := some 97) (v := ?_) (a' := ?_) #[true, true, true, true, true, true, true, false, false, false, true, false, false, false] rfl rfl (any_of HT_.out (by kernel_rfl)) (fun _ _ _ h => h) (Or.inl ⟨by rfl, ?_⟩) ?_ ?_
              rotate_left
              ·intro w'
               go_simp
               with_reducible rfl
              rotate_left
              ·simp only [Act.put, List.setIfInBounds_toArray, List.set_cons_zero, List.set_cons_succ, i64_w, i32_w]
               rfl
              refine take_ (i := 7) (N := some 94) (v := ?_) (a' := ?_) #[true, true, true, true, true, true, true, true, false, false, true, false, false, false] rfl rfl (take_ofW HT_.out HW_.out (by kernel_rfl)) (fun _ _ _ h => h) (Or.inl ⟨by rfl, ?_⟩) hHeld ?_ ?_
              rotate_left
              ·rintro w' ⟨s0, s1, s2, s3⟩
               go_simp
               with_reducible rfl
              rotate_left
              ·simp only [Act.put, List.setIfInBounds_toArray, List.set_cons_zero, List.set_cons_succ, i64_w, i32_w]
               rfl
              refine take_ (i := 8) (N := some 95) (v := ?_) (a' := ?_) #[true, true, true, true, true, true, true, true, true, false, true, false, false, false] rfl rfl (take_ofW HT_.out HW_.out (by kernel_rfl)) (fun _ _ _ h => h) (Or.inl ⟨by rfl, ?_⟩) hHeld ?_ ?_
              rotate_left
              ·rintro w' ⟨s0, s1, s2, s3⟩
               go_simp
               with_reducible rfl
              rotate_left
              ·simp only [Act.put, List.setIfInBounds_toArray, List.set_cons_zero, List.set_cons_succ, i64_w, i32_w]
               rfl
              refine one_ (i := 9) (N := some 96) #[true, true, true, true, true, true, true, true, true, true, true, false, false, false] rfl rfl (one_of HT_.out (by kernel_rfl)) (by decide) (fun K hK => ?_)
              refine goes_ Tryd.func25 (by kernel_rfl) rfl #[.agg #[.int .i64 t824, .int .i64 t825], .agg #[.int .i64 a1_0, .int .i64 a1_1]] (by rfl) rfl rfl (by (try simp only [List.map_toArray, List.map_cons, List.map_nil]); first | done | rfl | (simp only [List.length_drop, List.length_take]; rfl)) ?_
              with_reducible refine (num_Cmp.calls kj48 t824 t825 a1_0 a1_1 t834 _ A111.out).mono ?_
              rintro e w115 ⟨rfl, hb⟩
              refine ⟨_, rfl, ?_⟩
              have n0_ := Aside0.mk (Boxes.below (by (with_reducible repeat (first | apply boxes_drewN | apply boxes_drew | apply boxes_alloc)); exact BX.out) hb)
              have n1_ := Aside0.mk (below_step (by repeat (first | (with_reducible first | exact HB.out | apply below_alloc | apply pw_below_drewN | apply below_drew1 | refine below_set ?_ (Aside0.out (by assumption))) | exact HB.out)) hb)
              clear BX HB
              have BX := n0_
              have HB := n1_
              clear n0_ n1_
              (try clear hb)
              (try clear hb2)
              (try clear hk)
              (try clear hi)
              refine hK.out _ _ ⟨(blk_cell (BX.out.get 0 rfl) 0).trans rfl, (blk_cell (BX.out.get 0 rfl) 1).trans rfl, (blk_cell (BX.out.get 3 rfl) 0).trans rfl, (blk_cell (BX.out.get 3 rfl) 1).trans rfl⟩ (fun hHeld => ?_)
              clear hK K
              refine norm_ (a' := ?_) ?_ ?_
              rotate_left
              ·show Act.put _ (some 96) _ = _
               simp only [Act.put, List.setIfInBounds_toArray, List.set_cons_zero, List.set_cons_succ, i64_w, i32_w]
               rfl
              refine pure_ (i := 11) (N := some 98) (v := ?_) (a' := ?_) #[true, true, true, true, true, true, true, true, true, true, true, true, false, false] rfl rfl (any_of HT_.out (by kernel_rfl)) (fun _ _ _ h => h) (Or.inl ⟨by rfl, ?_⟩) ?_ ?_
              rotate_left
              ·intro w'
               go_simp
               with_reducible rfl
              rotate_left
              ·simp only [Act.put, List.setIfInBounds_toArray, List.set_cons_zero, List.set_cons_succ, i64_w, i32_w]
               rfl
              refine pure_ (i := 12) (N := some 99) (v := ?_) (a' := ?_) #[true, true, true, true, true, true, true, true, true, true, true, true, true, false] rfl rfl (any_of HT_.out (by kernel_rfl)) (fun _ _ _ h => h) (Or.inl ⟨by rfl, ?_⟩) ?_ ?_
              rotate_left
              ·intro w'
               go_simp
               with_reducible rfl
              rotate_left
              ·simp only [Act.put, List.setIfInBounds_toArray, List.set_cons_zero, List.set_cons_succ, i64_w, i32_w]
               rfl
              refine pure_ (i := 13) (N := some 100) (v := ?_) (a' := ?_) #[true, true, true, true, true, true, true, true, true, true, true, true, true, true] rfl rfl (any_of HT_.out (by kernel_rfl)) (fun _ _ _ h => h) (Or.inl ⟨by rfl, ?_⟩) ?_ ?_
              rotate_left
              ·intro w'
               go_simp
               with_reducible rfl
              rotate_left
              ·simp only [Act.put, List.setIfInBounds_toArray, List.set_cons_zero, List.set_cons_succ, i64_w, i32_w]
               rfl
              refine done_ (done_of HT_.out (by kernel_rfl)) ?_
              try go_wp2
              go_meet
              case rel => exact ⟨_, (decide ((wrap64 (t834 * t830)) ≥ 0)), (by first | rfl | (simp; done) | (simp [*]; done) | (simp [bne_nil]; done)), H', ⟨by have := HJ2.out; have := HJ26.out; have := HJ48.out; first | omega | exact Nat.le_refl _⟩, ⟨by (with_reducible repeat (first | apply boxes_drewN | apply boxes_drew | apply boxes_alloc)); exact BX.out⟩, ⟨by repeat (first | (with_reducible first | exact HB.out | apply below_alloc | apply pw_below_drewN | apply below_drew1 | refine below_set ?_ (Aside0.out (by assumption))) | exact HB.out)⟩⟩
            case rest =>
             clear HC88
             try clear c1
             try clear c2
             try clear p2
             try clear c3
             try clear c4
             try clear c5
             try clear c6
             try clear p6
             try clear c7
             try clear c8
             try clear c9
             try clear c10
             try clear c11
             try clear c12
             try clear c18
             try clear c22
             try clear c25
             try clear c28
             try clear c32
             try clear c33
             try clear c36
             try clear c37
             try clear c37b0
             try clear c37b1
             try clear c38
             try clear c38b0
             try clear c38b1
             try clear c40
             try clear c41
             try clear c43
             try clear c46
             try clear c48
             try clear c49
             try clear c57
             try clear c59
             try clear c60
             try clear c61
             try clear c63
             try clear c64
             try clear p64
             try clear c67
             try clear c69
             try clear c69b0
             try clear c69b1
             try clear c70
             try clear c71
             try clear c72
             try clear c74
             try clear c75
             try clear c79
             try clear c80
             try clear c81
             try clear c82
             try clear c85
             try clear c89
             try clear c90
             try clear c91
             try clear c93
             try clear c94
             try clear c98
             try clear c99
             try clear c100
             try clear c101
             try clear c110
             try clear c110b0
             try clear c110b1
             try clear hcz102_0
             try clear hcz102_1
             try clear hcz103_0
             try clear hcz103_1
             try clear hcz13_0
             try clear hcz13_1
             try clear hcz15_0
             try clear hcz15_1
             try clear hcz19_0
             try clear hcz19_1
             try clear hcz29_0
             try clear hcz29_1
             try clear hcz34_0
             try clear hcz34_1
             try clear hcz42_0
             try clear hcz42_1
             try clear hcz44_0
             try clear hcz44_1
             try clear hcz62_0
             try clear hcz62_1
             try clear hcz65_0
             try clear hcz65_1
             try clear hcz73_0
             try clear hcz73_1
             try clear hcz76_0
             try clear hcz76_1
             try clear hcz83_0
             try clear hcz83_1
             try clear hcz84_0
             try clear hcz84_1
             try clear hcz92_0
             try clear hcz92_1
             try clear hcz95_0
             try clear hcz95_1
             try clear hfz102_0
             try clear hfz102_1
             try clear hfz103_0
             try clear hfz103_1
             try clear hfz13_0
             try clear hfz13_1
             try clear hfz15_0
             try clear hfz15_1
             try clear hfz19_0
             try clear hfz19_1
             try clear hfz29_0
             try clear hfz29_1
             try clear hfz34_0
             try clear hfz34_1
             try clear hfz42_0
             try clear hfz42_1
             try clear hfz44_0
             try clear hfz44_1
             try clear hfz62_0
             try clear hfz62_1
             try clear hfz65_0
             try clear hfz65_1
             try clear hfz73_0
             try clear hfz73_1
             try clear hfz76_0
             try clear hfz76_1
             try clear hfz83_0
             try clear hfz83_1
             try clear hfz84_0
             try clear hfz84_1
             try clear hfz92_0
             try clear hfz92_1
             try clear hfz95_0
             try clear hfz95_1
             try clear p2
             obtain ⟨kq, x100_87, rfl, HA, HJ87, BX, HB⟩ := hcut
             cases kq with
             | zero => exact absurd HA.out (by simp [whittlelaw1_NumFloors.j3])
             | succ kj87 =>
              have H := HA.out
              clear HA
              simp only [whittlelaw1_NumFloors.j3] at H
              by_cases c116 : x100_87 = true
              ·subst c116
               have H1 : (some false) = some r := by rw [if_pos rfl] at H; exact H
               clear H
               have H := H1
               clear H1
               exact absurd (Option.some.inj H) (by rw [HR.out]; decide)
              ·replace c116 := Bool.eq_false_iff.mpr c116
               subst c116
               have H1 : ((num_Sub.f kj87 a0_0 a0_1 t824 t825).bind fun bt835 => ((num_Div.f kj87 bt835.1 bt835.2.1 a1_0 a1_1).bind fun bt839 => (if bt835.2.2 = true then (if bt839.2.2 = true then ((num_Whole.f kj87 bt839.1 bt839.2.1).bind fun bt843 => (some bt843.2)) else (some true)) else (some true)))) = some r := by rw [if_neg (show ¬ (false = true) by decide)] at H; exact H
               clear H
               have H := H1
               clear H1
               replace H := Option.bind_eq_some_iff.mp H
               obtain ⟨⟨t835, t836, t837⟩, A1170, H⟩ := H
               have A117 := Aside0.mk A1170
               clear A1170
               replace H := Option.bind_eq_some_iff.mp H
               obtain ⟨⟨t839, t840, t841⟩, A1180, H⟩ := H
               replace H : (if t837 = true then (if t841 = true then ((num_Whole.f kj87 t839 t840).bind fun bt843 => (some bt843.2)) else (some true)) else (some true)) = some r := H
               have A118 := Aside0.mk A1180
               clear A1180
               by_cases c119 : t837 = true
               ·subst c119
                have H1 : (if t841 = true then ((num_Whole.f kj87 t839 t840).bind fun bt843 => (some bt843.2)) else (some true)) = some r := by rw [if_pos rfl] at H; exact H
                clear H
                have H := H1
                clear H1
                by_cases c120 : t841 = true
                ·subst c120
                 have H1 : ((num_Whole.f kj87 t839 t840).bind fun bt843 => (some bt843.2)) = some r := by rw [if_pos rfl] at H; exact H
                 clear H
                 have H := H1
                 clear H1
                 replace H := Option.bind_eq_some_iff.mp H
                 obtain ⟨⟨t843, t844⟩, A1210, H⟩ := H
                 replace H : (some t844) = some r := H
                 have A121 := Aside0.mk A1210
                 clear A1210
                 clear HR
                 obtain rfl := Option.some.inj H
                 obtain ⟨⟨hnb125, hnc125⟩, ⟨hnb124, hnc124⟩, ⟨hnb123, hnc123⟩, ⟨hnb122, hnc122⟩, -⟩ := BX.out.apart 4 rfl
                 have hcz126_0 : wc.cell? ⟨gb805, 0, none⟩ = some (.int .i64 a0_0) := (blk_cell (BX.out.get 4 rfl) 0).trans rfl
                 have hcz126_1 : wc.cell? ⟨gb805, 1, none⟩ = some (.int .i64 a0_1) := (blk_cell (BX.out.get 4 rfl) 1).trans rfl
                 have hfz126_0 := blk_frozen (BX.out.get 4 rfl) 0
                 have hfz126_1 := blk_frozen (BX.out.get 4 rfl) 1
                 obtain ⟨⟨hnb129, hnc129⟩, ⟨hnb128, hnc128⟩, ⟨hnb127, hnc127⟩, -⟩ := BX.out.apart 0 rfl
                 have hcz130_0 : wc.cell? ⟨gb827, 0, none⟩ = some (.int .i64 t824) := (blk_cell (BX.out.get 0 rfl) 0).trans rfl
                 have hcz130_1 : wc.cell? ⟨gb827, 1, none⟩ = some (.int .i64 t825) := (blk_cell (BX.out.get 0 rfl) 1).trans rfl
                 have hfz130_0 := blk_frozen (BX.out.get 0 rfl) 0
                 have hfz130_1 := blk_frozen (BX.out.get 0 rfl) 1
                 go_wp2_with (first | ((with_reducible refine gate_callee (f := 35) rfl ?_); refine goesL_ (some 104) rfl rfl Tryd.func35 (by kernel_rfl) rfl #[.agg #[.int .i64 a0_0, .int .i64 a0_1], .agg #[.int .i64 t824, .int .i64 t825]] rfl (by (try simp only [List.map_toArray, List.map_cons, List.map_nil]); first | done | rfl | (simp only [List.length_drop, List.length_take]; rfl)) ?_; (with_reducible refine (num_Sub.calls kj87 a0_0 a0_1 t824 t825 t835 t836 true _ A117.out).mono ?_); rintro e w131 ⟨rfl, hb⟩; refine ⟨_, rfl, ?_⟩; have n0_ := Aside0.mk (Boxes.below (by (with_reducible repeat (first | apply boxes_drewN | apply boxes_drew | apply boxes_alloc)); exact BX.out) hb); have n1_ := Aside0.mk (below_step (by repeat (first | (with_reducible first | exact HB.out | apply below_alloc | apply pw_below_drewN | apply below_drew1 | refine below_set ?_ (Aside0.out (by assumption))) | exact HB.out)) hb); clear BX HB; have BX := n0_; have HB := n1_; clear n0_ n1_; (try clear hb); (try clear hb2); (try clear hk); (try clear hi)) | ((with_reducible refine gate_dst (N := 13) rfl ?_); refine box_event ?hg (N := 13) ?hd (cs := #[.int .i64 0, .int .i64 0]) (t := 23) ?hr ?_; (case hd => rfl); (case hg => rfl); (case hr => first | (go_simp; done) | (go_simp; rfl)); intro gb838 hg w132 hbox hb; have n0_ := Aside0.mk (Boxes.new (by (with_reducible repeat (first | apply boxes_drewN | apply boxes_drew | apply boxes_alloc)); exact BX.out) hg hbox hb (below_size (by repeat (first | (with_reducible first | exact HB.out | apply below_alloc | apply pw_below_drewN | apply below_drew1 | refine below_set ?_ (Aside0.out (by assumption))) | exact HB.out)))); have n1_ := Aside0.mk (below_step (by repeat (first | (with_reducible first | exact HB.out | apply below_alloc | apply pw_below_drewN | apply below_drew1 | refine below_set ?_ (Aside0.out (by assumption))) | exact HB.out)) hb); have n2_ := Aside0.mk ((by rw [hg]; exact (below_size (by repeat (first | (with_reducible first | exact HB.out | apply below_alloc | apply pw_below_drewN | apply below_drew1 | refine below_set ?_ (Aside0.out (by assumption))) | exact HB.out))) : w.heap.size ≤ gb838)); clear BX HB; have BX := n0_; have HB := n1_; have GE838 := n2_; clear n0_ n1_ n2_; clear hb hbox hg; obtain ⟨⟨hnb137, hnc137⟩, ⟨hnb136, hnc136⟩, ⟨hnb135, hnc135⟩, ⟨hnb134, hnc134⟩, ⟨hnb133, hnc133⟩, -⟩ := BX.out.apart 0 rfl; have hcz138_0 : w132.cell? ⟨gb838, 0, none⟩ = some (.int .i64 0) := (blk_cell (BX.out.get 0 rfl) 0).trans rfl; have hcz138_1 : w132.cell? ⟨gb838, 1, none⟩ = some (.int .i64 0) := (blk_cell (BX.out.get 0 rfl) 1).trans rfl; have hfz138_0 := blk_frozen (BX.out.get 0 rfl) 0; have hfz138_1 := blk_frozen (BX.out.get 0 rfl) 1; obtain ⟨-, -, ⟨hnb140, hnc140⟩, ⟨hnb139, hnc139⟩, -⟩ := BX.out.apart 4 rfl; have hcz141_0 : w132.cell? ⟨gb806, 0, none⟩ = some (.int .i64 a1_0) := (blk_cell (BX.out.get 4 rfl) 0).trans rfl; have hcz141_1 : w132.cell? ⟨gb806, 1, none⟩ = some (.int .i64 a1_1) := (blk_cell (BX.out.get 4 rfl) 1).trans rfl; have hfz141_0 := blk_frozen (BX.out.get 4 rfl) 0; have hfz141_1 := blk_frozen (BX.out.get 4 rfl) 1) | ((with_reducible refine gate_callee (f := 41) rfl ?_); refine goesL_ (some 110) rfl rfl Tryd.func41 (by kernel_rfl) rfl #[.agg #[.int .i64 t835, .int .i64 t836], .agg #[.int .i64 a1_0, .int .i64 a1_1]] rfl (by (try simp only [List.map_toArray, List.map_cons, List.map_nil]); first | done | rfl | (simp only [List.length_drop, List.length_take]; rfl)) ?_; (with_reducible refine (num_Div.calls kj87 t835 t836 a1_0 a1_1 t839 t840 true _ A118.out).mono ?_); rintro e w142 ⟨rfl, hb⟩; refine ⟨_, rfl, ?_⟩; have n0_ : Aside0 (Boxes w.heap.size _ ((gb838, 23, #[.int .i64 t835, .int .i64 t836]) :: _)) := ⟨Boxes.below (by (with_reducible repeat (first | apply boxes_drewN | apply boxes_drew | apply boxes_alloc)); apply boxes_put 0; (with_reducible repeat (first | apply boxes_drewN | apply boxes_drew | apply boxes_alloc)); apply boxes_put 0; (with_reducible repeat (first | apply boxes_drewN | apply boxes_drew | apply boxes_alloc)); exact BX.out; any_goals rfl) hb⟩; have n1_ := Aside0.mk (below_step (by repeat (first | (with_reducible first | exact HB.out | apply below_alloc | apply pw_below_drewN | apply below_drew1 | refine below_set ?_ (Aside0.out (by assumption))) | exact HB.out)) hb); clear BX HB; have BX := n0_; have HB := n1_; clear n0_ n1_; (try clear hb); (try clear hb2); (try clear hk); (try clear hi)) | ((with_reducible refine gate_dst (N := 15) rfl ?_); refine box_event ?hg (N := 15) ?hd (cs := #[.int .i64 0, .int .i64 0]) (t := 23) ?hr ?_; (case hd => rfl); (case hg => rfl); (case hr => first | (go_simp; done) | (go_simp; rfl)); intro gb842 hg w143 hbox hb; have n0_ := Aside0.mk (Boxes.new (by (with_reducible repeat (first | apply boxes_drewN | apply boxes_drew | apply boxes_alloc)); exact BX.out) hg hbox hb (below_size (by repeat (first | (with_reducible first | exact HB.out | apply below_alloc | apply pw_below_drewN | apply below_drew1 | refine below_set ?_ (Aside0.out (by assumption))) | exact HB.out)))); have n1_ := Aside0.mk (below_step (by repeat (first | (with_reducible first | exact HB.out | apply below_alloc | apply pw_below_drewN | apply below_drew1 | refine below_set ?_ (Aside0.out (by assumption))) | exact HB.out)) hb); have n2_ := Aside0.mk ((by rw [hg]; exact (below_size (by repeat (first | (with_reducible first | exact HB.out | apply below_alloc | apply pw_below_drewN | apply below_drew1 | refine below_set ?_ (Aside0.out (by assumption))) | exact HB.out))) : w.heap.size ≤ gb842)); clear BX HB; have BX := n0_; have HB := n1_; have GE842 := n2_; clear n0_ n1_ n2_; clear hb hbox hg; obtain ⟨⟨hnb149, hnc149⟩, ⟨hnb148, hnc148⟩, ⟨hnb147, hnc147⟩, ⟨hnb146, hnc146⟩, ⟨hnb145, hnc145⟩, ⟨hnb144, hnc144⟩, -⟩ := BX.out.apart 0 rfl; have hcz150_0 : w143.cell? ⟨gb842, 0, none⟩ = some (.int .i64 0) := (blk_cell (BX.out.get 0 rfl) 0).trans rfl; have hcz150_1 : w143.cell? ⟨gb842, 1, none⟩ = some (.int .i64 0) := (blk_cell (BX.out.get 0 rfl) 1).trans rfl; have hfz150_0 := blk_frozen (BX.out.get 0 rfl) 0; have hfz150_1 := blk_frozen (BX.out.get 0 rfl) 1) | ((with_reducible refine gate_callee (f := 52) rfl ?_); refine goesL_ (some 121) rfl rfl Tryd.func52 (by kernel_rfl) rfl #[.agg #[.int .i64 t839, .int .i64 t840]] rfl (by (try simp only [List.map_toArray, List.map_cons, List.map_nil]); first | done | rfl | (simp only [List.length_drop, List.length_take]; rfl)) ?_; (with_reducible refine (num_Whole.calls kj87 t839 t840 t843 t844 _ A121.out).mono ?_); rintro e w151 ⟨rfl, hb⟩; refine ⟨_, rfl, ?_⟩; have n0_ : Aside0 (Boxes w.heap.size _ ((gb842, 23, #[.int .i64 t839, .int .i64 t840]) :: _)) := ⟨Boxes.below (by (with_reducible repeat (first | apply boxes_drewN | apply boxes_drew | apply boxes_alloc)); apply boxes_put 0; (with_reducible repeat (first | apply boxes_drewN | apply boxes_drew | apply boxes_alloc)); apply boxes_put 0; (with_reducible repeat (first | apply boxes_drewN | apply boxes_drew | apply boxes_alloc)); exact BX.out; any_goals rfl) hb⟩; have n1_ := Aside0.mk (below_step (by repeat (first | (with_reducible first | exact HB.out | apply below_alloc | apply pw_below_drewN | apply below_drew1 | refine below_set ?_ (Aside0.out (by assumption))) | exact HB.out)) hb); clear BX HB; have BX := n0_; have HB := n1_; clear n0_ n1_; (try clear hb); (try clear hb2); (try clear hk); (try clear hi)))
                 go_ret
                 exact ⟨by first | rfl | (simp [errW_none, errW_some] <;> rfl) | (simp [*, errW_none, errW_some] <;> rfl), by repeat (first | (with_reducible first | exact HB.out | apply below_alloc | apply pw_below_drewN | apply below_drew1 | refine below_set ?_ (Aside0.out (by assumption))) | exact HB.out)⟩
                ·replace c120 := Bool.eq_false_iff.mpr c120
                 subst c120
                 have H1 : (some true) = some r := by rw [if_neg (show ¬ (false = true) by decide)] at H; exact H
                 clear H
                 have H := H1
                 clear H1
                 clear HR
                 obtain rfl := Option.some.inj H
                 obtain ⟨⟨hnb155, hnc155⟩, ⟨hnb154, hnc154⟩, ⟨hnb153, hnc153⟩, ⟨hnb152, hnc152⟩, -⟩ := BX.out.apart 4 rfl
                 have hcz156_0 : wc.cell? ⟨gb805, 0, none⟩ = some (.int .i64 a0_0) := (blk_cell (BX.out.get 4 rfl) 0).trans rfl
                 have hcz156_1 : wc.cell? ⟨gb805, 1, none⟩ = some (.int .i64 a0_1) := (blk_cell (BX.out.get 4 rfl) 1).trans rfl
                 have hfz156_0 := blk_frozen (BX.out.get 4 rfl) 0
                 have hfz156_1 := blk_frozen (BX.out.get 4 rfl) 1
                 obtain ⟨⟨hnb159, hnc159⟩, ⟨hnb158, hnc158⟩, ⟨hnb157, hnc157⟩, -⟩ := BX.out.apart 0 rfl
                 have hcz160_0 : wc.cell? ⟨gb827, 0, none⟩ = some (.int .i64 t824) := (blk_cell (BX.out.get 0 rfl) 0).trans rfl
                 have hcz160_1 : wc.cell? ⟨gb827, 1, none⟩ = some (.int .i64 t825) := (blk_cell (BX.out.get 0 rfl) 1).trans rfl
                 have hfz160_0 := blk_frozen (BX.out.get 0 rfl) 0
                 have hfz160_1 := blk_frozen (BX.out.get 0 rfl) 1
                 go_wp2_with (first | ((with_reducible refine gate_callee (f := 35) rfl ?_); refine goesL_ (some 104) rfl rfl Tryd.func35 (by kernel_rfl) rfl #[.agg #[.int .i64 a0_0, .int .i64 a0_1], .agg #[.int .i64 t824, .int .i64 t825]] rfl (by (try simp only [List.map_toArray, List.map_cons, List.map_nil]); first | done | rfl | (simp only [List.length_drop, List.length_take]; rfl)) ?_; (with_reducible refine (num_Sub.calls kj87 a0_0 a0_1 t824 t825 t835 t836 true _ A117.out).mono ?_); rintro e w161 ⟨rfl, hb⟩; refine ⟨_, rfl, ?_⟩; have n0_ := Aside0.mk (Boxes.below (by (with_reducible repeat (first | apply boxes_drewN | apply boxes_drew | apply boxes_alloc)); exact BX.out) hb); have n1_ := Aside0.mk (below_step (by repeat (first | (with_reducible first | exact HB.out | apply below_alloc | apply pw_below_drewN | apply below_drew1 | refine below_set ?_ (Aside0.out (by assumption))) | exact HB.out)) hb); clear BX HB; have BX := n0_; have HB := n1_; clear n0_ n1_; (try clear hb); (try clear hb2); (try clear hk); (try clear hi)) | ((with_reducible refine gate_dst (N := 13) rfl ?_); refine box_event ?hg (N := 13) ?hd (cs := #[.int .i64 0, .int .i64 0]) (t := 23) ?hr ?_; (case hd => rfl); (case hg => rfl); (case hr => first | (go_simp; done) | (go_simp; rfl)); intro gb838 hg w162 hbox hb; have n0_ := Aside0.mk (Boxes.new (by (with_reducible repeat (first | apply boxes_drewN | apply boxes_drew | apply boxes_alloc)); exact BX.out) hg hbox hb (below_size (by repeat (first | (with_reducible first | exact HB.out | apply below_alloc | apply pw_below_drewN | apply below_drew1 | refine below_set ?_ (Aside0.out (by assumption))) | exact HB.out)))); have n1_ := Aside0.mk (below_step (by repeat (first | (with_reducible first | exact HB.out | apply below_alloc | apply pw_below_drewN | apply below_drew1 | refine below_set ?_ (Aside0.out (by assumption))) | exact HB.out)) hb); have n2_ := Aside0.mk ((by rw [hg]; exact (below_size (by repeat (first | (with_reducible first | exact HB.out | apply below_alloc | apply pw_below_drewN | apply below_drew1 | refine below_set ?_ (Aside0.out (by assumption))) | exact HB.out))) : w.heap.size ≤ gb838)); clear BX HB; have BX := n0_; have HB := n1_; have GE838 := n2_; clear n0_ n1_ n2_; clear hb hbox hg; obtain ⟨⟨hnb167, hnc167⟩, ⟨hnb166, hnc166⟩, ⟨hnb165, hnc165⟩, ⟨hnb164, hnc164⟩, ⟨hnb163, hnc163⟩, -⟩ := BX.out.apart 0 rfl; have hcz168_0 : w162.cell? ⟨gb838, 0, none⟩ = some (.int .i64 0) := (blk_cell (BX.out.get 0 rfl) 0).trans rfl; have hcz168_1 : w162.cell? ⟨gb838, 1, none⟩ = some (.int .i64 0) := (blk_cell (BX.out.get 0 rfl) 1).trans rfl; have hfz168_0 := blk_frozen (BX.out.get 0 rfl) 0; have hfz168_1 := blk_frozen (BX.out.get 0 rfl) 1; obtain ⟨-, -, ⟨hnb170, hnc170⟩, ⟨hnb169, hnc169⟩, -⟩ := BX.out.apart 4 rfl; have hcz171_0 : w162.cell? ⟨gb806, 0, none⟩ = some (.int .i64 a1_0) := (blk_cell (BX.out.get 4 rfl) 0).trans rfl; have hcz171_1 : w162.cell? ⟨gb806, 1, none⟩ = some (.int .i64 a1_1) := (blk_cell (BX.out.get 4 rfl) 1).trans rfl; have hfz171_0 := blk_frozen (BX.out.get 4 rfl) 0; have hfz171_1 := blk_frozen (BX.out.get 4 rfl) 1) | ((with_reducible refine gate_callee (f := 41) rfl ?_); refine goesL_ (some 110) rfl rfl Tryd.func41 (by kernel_rfl) rfl #[.agg #[.int .i64 t835, .int .i64 t836], .agg #[.int .i64 a1_0, .int .i64 a1_1]] rfl (by (try simp only [List.map_toArray, List.map_cons, List.map_nil]); first | done | rfl | (simp only [List.length_drop, List.length_take]; rfl)) ?_; (with_reducible refine (num_Div.calls kj87 t835 t836 a1_0 a1_1 t839 t840 false _ A118.out).mono ?_); rintro e w172 ⟨rfl, hb⟩; refine ⟨_, rfl, ?_⟩; have n0_ : Aside0 (Boxes w.heap.size _ ((gb838, 23, #[.int .i64 t835, .int .i64 t836]) :: _)) := ⟨Boxes.below (by (with_reducible repeat (first | apply boxes_drewN | apply boxes_drew | apply boxes_alloc)); apply boxes_put 0; (with_reducible repeat (first | apply boxes_drewN | apply boxes_drew | apply boxes_alloc)); apply boxes_put 0; (with_reducible repeat (first | apply boxes_drewN | apply boxes_drew | apply boxes_alloc)); exact BX.out; any_goals rfl) hb⟩; have n1_ := Aside0.mk (below_step (by repeat (first | (with_reducible first | exact HB.out | apply below_alloc | apply pw_below_drewN | apply below_drew1 | refine below_set ?_ (Aside0.out (by assumption))) | exact HB.out)) hb); clear BX HB; have BX := n0_; have HB := n1_; clear n0_ n1_; (try clear hb); (try clear hb2); (try clear hk); (try clear hi)) | ((with_reducible refine gate_dst (N := 15) rfl ?_); refine box_event ?hg (N := 15) ?hd (cs := #[.int .i64 0, .int .i64 0]) (t := 23) ?hr ?_; (case hd => rfl); (case hg => rfl); (case hr => first | (go_simp; done) | (go_simp; rfl)); intro gb842 hg w173 hbox hb; have n0_ := Aside0.mk (Boxes.new (by (with_reducible repeat (first | apply boxes_drewN | apply boxes_drew | apply boxes_alloc)); exact BX.out) hg hbox hb (below_size (by repeat (first | (with_reducible first | exact HB.out | apply below_alloc | apply pw_below_drewN | apply below_drew1 | refine below_set ?_ (Aside0.out (by assumption))) | exact HB.out)))); have n1_ := Aside0.mk (below_step (by repeat (first | (with_reducible first | exact HB.out | apply below_alloc | apply pw_below_drewN | apply below_drew1 | refine below_set ?_ (Aside0.out (by assumption))) | exact HB.out)) hb); have n2_ := Aside0.mk ((by rw [hg]; exact (below_size (by repeat (first | (with_reducible first | exact HB.out | apply below_alloc | apply pw_below_drewN | apply below_drew1 | refine below_set ?_ (Aside0.out (by assumption))) | exact HB.out))) : w.heap.size ≤ gb842)); clear BX HB; have BX := n0_; have HB := n1_; have GE842 := n2_; clear n0_ n1_ n2_; clear hb hbox hg; obtain ⟨⟨hnb179, hnc179⟩, ⟨hnb178, hnc178⟩, ⟨hnb177, hnc177⟩, ⟨hnb176, hnc176⟩, ⟨hnb175, hnc175⟩, ⟨hnb174, hnc174⟩, -⟩ := BX.out.apart 0 rfl; have hcz180_0 : w173.cell? ⟨gb842, 0, none⟩ = some (.int .i64 0) := (blk_cell (BX.out.get 0 rfl) 0).trans rfl; have hcz180_1 : w173.cell? ⟨gb842, 1, none⟩ = some (.int .i64 0) := (blk_cell (BX.out.get 0 rfl) 1).trans rfl; have hfz180_0 := blk_frozen (BX.out.get 0 rfl) 0; have hfz180_1 := blk_frozen (BX.out.get 0 rfl) 1))
                 go_ret
                 exact ⟨by first | rfl | (simp [errW_none, errW_some] <;> rfl) | (simp [*, errW_none, errW_some] <;> rfl), by repeat (first | (with_reducible first | exact HB.out | apply below_alloc | apply pw_below_drewN | apply below_drew1 | refine below_set ?_ (Aside0.out (by assumption))) | exact HB.out)⟩
               ·replace c119 := Bool.eq_false_iff.mpr c119
                subst c119
                have H1 : (some true) = some r := by rw [if_neg (show ¬ (false = true) by decide)] at H; exact H
                clear H
                have H := H1
                clear H1
                clear HR
                obtain rfl := Option.some.inj H
                obtain ⟨⟨hnb184, hnc184⟩, ⟨hnb183, hnc183⟩, ⟨hnb182, hnc182⟩, ⟨hnb181, hnc181⟩, -⟩ := BX.out.apart 4 rfl
                have hcz185_0 : wc.cell? ⟨gb805, 0, none⟩ = some (.int .i64 a0_0) := (blk_cell (BX.out.get 4 rfl) 0).trans rfl
                have hcz185_1 : wc.cell? ⟨gb805, 1, none⟩ = some (.int .i64 a0_1) := (blk_cell (BX.out.get 4 rfl) 1).trans rfl
                have hfz185_0 := blk_frozen (BX.out.get 4 rfl) 0
                have hfz185_1 := blk_frozen (BX.out.get 4 rfl) 1
                obtain ⟨⟨hnb188, hnc188⟩, ⟨hnb187, hnc187⟩, ⟨hnb186, hnc186⟩, -⟩ := BX.out.apart 0 rfl
                have hcz189_0 : wc.cell? ⟨gb827, 0, none⟩ = some (.int .i64 t824) := (blk_cell (BX.out.get 0 rfl) 0).trans rfl
                have hcz189_1 : wc.cell? ⟨gb827, 1, none⟩ = some (.int .i64 t825) := (blk_cell (BX.out.get 0 rfl) 1).trans rfl
                have hfz189_0 := blk_frozen (BX.out.get 0 rfl) 0
                have hfz189_1 := blk_frozen (BX.out.get 0 rfl) 1
                go_wp2_with (first | ((with_reducible refine gate_callee (f := 35) rfl ?_); refine goesL_ (some 104) rfl rfl Tryd.func35 (by kernel_rfl) rfl #[.agg #[.int .i64 a0_0, .int .i64 a0_1], .agg #[.int .i64 t824, .int .i64 t825]] rfl (by (try simp only [List.map_toArray, List.map_cons, List.map_nil]); first | done | rfl | (simp only [List.length_drop, List.length_take]; rfl)) ?_; (with_reducible refine (num_Sub.calls kj87 a0_0 a0_1 t824 t825 t835 t836 false _ A117.out).mono ?_); rintro e w190 ⟨rfl, hb⟩; refine ⟨_, rfl, ?_⟩; have n0_ := Aside0.mk (Boxes.below (by (with_reducible repeat (first | apply boxes_drewN | apply boxes_drew | apply boxes_alloc)); exact BX.out) hb); have n1_ := Aside0.mk (below_step (by repeat (first | (with_reducible first | exact HB.out | apply below_alloc | apply pw_below_drewN | apply below_drew1 | refine below_set ?_ (Aside0.out (by assumption))) | exact HB.out)) hb); clear BX HB; have BX := n0_; have HB := n1_; clear n0_ n1_; (try clear hb); (try clear hb2); (try clear hk); (try clear hi)) | ((with_reducible refine gate_dst (N := 13) rfl ?_); refine box_event ?hg (N := 13) ?hd (cs := #[.int .i64 0, .int .i64 0]) (t := 23) ?hr ?_; (case hd => rfl); (case hg => rfl); (case hr => first | (go_simp; done) | (go_simp; rfl)); intro gb838 hg w191 hbox hb; have n0_ := Aside0.mk (Boxes.new (by (with_reducible repeat (first | apply boxes_drewN | apply boxes_drew | apply boxes_alloc)); exact BX.out) hg hbox hb (below_size (by repeat (first | (with_reducible first | exact HB.out | apply below_alloc | apply pw_below_drewN | apply below_drew1 | refine below_set ?_ (Aside0.out (by assumption))) | exact HB.out)))); have n1_ := Aside0.mk (below_step (by repeat (first | (with_reducible first | exact HB.out | apply below_alloc | apply pw_below_drewN | apply below_drew1 | refine below_set ?_ (Aside0.out (by assumption))) | exact HB.out)) hb); have n2_ := Aside0.mk ((by rw [hg]; exact (below_size (by repeat (first | (with_reducible first | exact HB.out | apply below_alloc | apply pw_below_drewN | apply below_drew1 | refine below_set ?_ (Aside0.out (by assumption))) | exact HB.out))) : w.heap.size ≤ gb838)); clear BX HB; have BX := n0_; have HB := n1_; have GE838 := n2_; clear n0_ n1_ n2_; clear hb hbox hg; obtain ⟨⟨hnb196, hnc196⟩, ⟨hnb195, hnc195⟩, ⟨hnb194, hnc194⟩, ⟨hnb193, hnc193⟩, ⟨hnb192, hnc192⟩, -⟩ := BX.out.apart 0 rfl; have hcz197_0 : w191.cell? ⟨gb838, 0, none⟩ = some (.int .i64 0) := (blk_cell (BX.out.get 0 rfl) 0).trans rfl; have hcz197_1 : w191.cell? ⟨gb838, 1, none⟩ = some (.int .i64 0) := (blk_cell (BX.out.get 0 rfl) 1).trans rfl; have hfz197_0 := blk_frozen (BX.out.get 0 rfl) 0; have hfz197_1 := blk_frozen (BX.out.get 0 rfl) 1; obtain ⟨-, -, ⟨hnb199, hnc199⟩, ⟨hnb198, hnc198⟩, -⟩ := BX.out.apart 4 rfl; have hcz200_0 : w191.cell? ⟨gb806, 0, none⟩ = some (.int .i64 a1_0) := (blk_cell (BX.out.get 4 rfl) 0).trans rfl; have hcz200_1 : w191.cell? ⟨gb806, 1, none⟩ = some (.int .i64 a1_1) := (blk_cell (BX.out.get 4 rfl) 1).trans rfl; have hfz200_0 := blk_frozen (BX.out.get 4 rfl) 0; have hfz200_1 := blk_frozen (BX.out.get 4 rfl) 1) | ((with_reducible refine gate_callee (f := 41) rfl ?_); refine goesL_ (some 110) rfl rfl Tryd.func41 (by kernel_rfl) rfl #[.agg #[.int .i64 t835, .int .i64 t836], .agg #[.int .i64 a1_0, .int .i64 a1_1]] rfl (by (try simp only [List.map_toArray, List.map_cons, List.map_nil]); first | done | rfl | (simp only [List.length_drop, List.length_take]; rfl)) ?_; (with_reducible refine (num_Div.calls kj87 t835 t836 a1_0 a1_1 t839 t840 t841 _ A118.out).mono ?_); rintro e w201 ⟨rfl, hb⟩; refine ⟨_, rfl, ?_⟩; have n0_ : Aside0 (Boxes w.heap.size _ ((gb838, 23, #[.int .i64 t835, .int .i64 t836]) :: _)) := ⟨Boxes.below (by (with_reducible repeat (first | apply boxes_drewN | apply boxes_drew | apply boxes_alloc)); apply boxes_put 0; (with_reducible repeat (first | apply boxes_drewN | apply boxes_drew | apply boxes_alloc)); apply boxes_put 0; (with_reducible repeat (first | apply boxes_drewN | apply boxes_drew | apply boxes_alloc)); exact BX.out; any_goals rfl) hb⟩; have n1_ := Aside0.mk (below_step (by repeat (first | (with_reducible first | exact HB.out | apply below_alloc | apply pw_below_drewN | apply below_drew1 | refine below_set ?_ (Aside0.out (by assumption))) | exact HB.out)) hb); clear BX HB; have BX := n0_; have HB := n1_; clear n0_ n1_; (try clear hb); (try clear hb2); (try clear hk); (try clear hi)) | ((with_reducible refine gate_dst (N := 15) rfl ?_); refine box_event ?hg (N := 15) ?hd (cs := #[.int .i64 0, .int .i64 0]) (t := 23) ?hr ?_; (case hd => rfl); (case hg => rfl); (case hr => first | (go_simp; done) | (go_simp; rfl)); intro gb842 hg w202 hbox hb; have n0_ := Aside0.mk (Boxes.new (by (with_reducible repeat (first | apply boxes_drewN | apply boxes_drew | apply boxes_alloc)); exact BX.out) hg hbox hb (below_size (by repeat (first | (with_reducible first | exact HB.out | apply below_alloc | apply pw_below_drewN | apply below_drew1 | refine below_set ?_ (Aside0.out (by assumption))) | exact HB.out)))); have n1_ := Aside0.mk (below_step (by repeat (first | (with_reducible first | exact HB.out | apply below_alloc | apply pw_below_drewN | apply below_drew1 | refine below_set ?_ (Aside0.out (by assumption))) | exact HB.out)) hb); have n2_ := Aside0.mk ((by rw [hg]; exact (below_size (by repeat (first | (with_reducible first | exact HB.out | apply below_alloc | apply pw_below_drewN | apply below_drew1 | refine below_set ?_ (Aside0.out (by assumption))) | exact HB.out))) : w.heap.size ≤ gb842)); clear BX HB; have BX := n0_; have HB := n1_; have GE842 := n2_; clear n0_ n1_ n2_; clear hb hbox hg; obtain ⟨⟨hnb208, hnc208⟩, ⟨hnb207, hnc207⟩, ⟨hnb206, hnc206⟩, ⟨hnb205, hnc205⟩, ⟨hnb204, hnc204⟩, ⟨hnb203, hnc203⟩, -⟩ := BX.out.apart 0 rfl; have hcz209_0 : w202.cell? ⟨gb842, 0, none⟩ = some (.int .i64 0) := (blk_cell (BX.out.get 0 rfl) 0).trans rfl; have hcz209_1 : w202.cell? ⟨gb842, 1, none⟩ = some (.int .i64 0) := (blk_cell (BX.out.get 0 rfl) 1).trans rfl; have hfz209_0 := blk_frozen (BX.out.get 0 rfl) 0; have hfz209_1 := blk_frozen (BX.out.get 0 rfl) 1))
                go_ret
                exact ⟨by first | rfl | (simp [errW_none, errW_some] <;> rfl) | (simp [*, errW_none, errW_some] <;> rfl), by repeat (first | (with_reducible first | exact HB.out | apply below_alloc | apply pw_below_drewN | apply below_drew1 | refine below_set ?_ (Aside0.out (by assumption))) | exact HB.out)⟩
           ·replace c85 := Bool.eq_false_iff.mpr c85
            subst c85
            have H1 : (some true) = some r := by rw [if_neg (show ¬ (false = true) by decide)] at H; exact H
            clear H
            have H := H1
            clear H1
            clear HR
            obtain rfl := Option.some.inj H
            obtain ⟨⟨hnb212, hnc212⟩, ⟨hnb211, hnc211⟩, ⟨hnb210, hnc210⟩, -⟩ := BX.out.apart 3 rfl
            have hcz213_0 : wc.cell? ⟨gb805, 0, none⟩ = some (.int .i64 a0_0) := (blk_cell (BX.out.get 3 rfl) 0).trans rfl
            have hcz213_1 : wc.cell? ⟨gb805, 1, none⟩ = some (.int .i64 a0_1) := (blk_cell (BX.out.get 3 rfl) 1).trans rfl
            have hfz213_0 := blk_frozen (BX.out.get 3 rfl) 0
            have hfz213_1 := blk_frozen (BX.out.get 3 rfl) 1
            obtain ⟨⟨hnb215, hnc215⟩, ⟨hnb214, hnc214⟩, -⟩ := BX.out.apart 2 rfl
            have hcz216_0 : wc.cell? ⟨gb806, 0, none⟩ = some (.int .i64 a1_0) := (blk_cell (BX.out.get 2 rfl) 0).trans rfl
            have hcz216_1 : wc.cell? ⟨gb806, 1, none⟩ = some (.int .i64 a1_1) := (blk_cell (BX.out.get 2 rfl) 1).trans rfl
            have hfz216_0 := blk_frozen (BX.out.get 2 rfl) 0
            have hfz216_1 := blk_frozen (BX.out.get 2 rfl) 1
            go_wp2_with (first | ((with_reducible refine gate_callee (f := 49) rfl ?_); refine goesL_ (some 74) rfl rfl Tryd.func49 (by kernel_rfl) rfl #[.agg #[.int .i64 a0_0, .int .i64 a0_1], .agg #[.int .i64 a1_0, .int .i64 a1_1]] rfl (by (try simp only [List.map_toArray, List.map_cons, List.map_nil]); first | done | rfl | (simp only [List.length_drop, List.length_take]; rfl)) ?_; (with_reducible refine (num_Mod.calls kj48 a0_0 a0_1 a1_0 a1_1 t824 t825 false _ A68.out).mono ?_); rintro e w217 ⟨rfl, hb⟩; refine ⟨_, rfl, ?_⟩; have n0_ := Aside0.mk (Boxes.below (by (with_reducible repeat (first | apply boxes_drewN | apply boxes_drew | apply boxes_alloc)); exact BX.out) hb); have n1_ := Aside0.mk (below_step (by repeat (first | (with_reducible first | exact HB.out | apply below_alloc | apply pw_below_drewN | apply below_drew1 | refine below_set ?_ (Aside0.out (by assumption))) | exact HB.out)) hb); clear BX HB; have BX := n0_; have HB := n1_; clear n0_ n1_; (try clear hb); (try clear hb2); (try clear hk); (try clear hi)) | ((with_reducible refine gate_dst (N := 10) rfl ?_); refine box_event ?hg (N := 10) ?hd (cs := #[.int .i64 0, .int .i64 0]) (t := 23) ?hr ?_; (case hd => rfl); (case hg => rfl); (case hr => first | (go_simp; done) | (go_simp; rfl)); intro gb827 hg w218 hbox hb; have n0_ := Aside0.mk (Boxes.new (by (with_reducible repeat (first | apply boxes_drewN | apply boxes_drew | apply boxes_alloc)); exact BX.out) hg hbox hb (below_size (by repeat (first | (with_reducible first | exact HB.out | apply below_alloc | apply pw_below_drewN | apply below_drew1 | refine below_set ?_ (Aside0.out (by assumption))) | exact HB.out)))); have n1_ := Aside0.mk (below_step (by repeat (first | (with_reducible first | exact HB.out | apply below_alloc | apply pw_below_drewN | apply below_drew1 | refine below_set ?_ (Aside0.out (by assumption))) | exact HB.out)) hb); have n2_ := Aside0.mk ((by rw [hg]; exact (below_size (by repeat (first | (with_reducible first | exact HB.out | apply below_alloc | apply pw_below_drewN | apply below_drew1 | refine below_set ?_ (Aside0.out (by assumption))) | exact HB.out))) : w.heap.size ≤ gb827)); clear BX HB; have BX := n0_; have HB := n1_; have GE827 := n2_; clear n0_ n1_ n2_; clear hb hbox hg; obtain ⟨⟨hnb222, hnc222⟩, ⟨hnb221, hnc221⟩, ⟨hnb220, hnc220⟩, ⟨hnb219, hnc219⟩, -⟩ := BX.out.apart 0 rfl; have hcz223_0 : w218.cell? ⟨gb827, 0, none⟩ = some (.int .i64 0) := (blk_cell (BX.out.get 0 rfl) 0).trans rfl; have hcz223_1 : w218.cell? ⟨gb827, 1, none⟩ = some (.int .i64 0) := (blk_cell (BX.out.get 0 rfl) 1).trans rfl; have hfz223_0 := blk_frozen (BX.out.get 0 rfl) 0; have hfz223_1 := blk_frozen (BX.out.get 0 rfl) 1; have hcz224_0 : w218.cell? ⟨gb806, 0, none⟩ = some (.int .i64 a1_0) := (blk_cell (BX.out.get 3 rfl) 0).trans rfl; have hcz224_1 : w218.cell? ⟨gb806, 1, none⟩ = some (.int .i64 a1_1) := (blk_cell (BX.out.get 3 rfl) 1).trans rfl; have hfz224_0 := blk_frozen (BX.out.get 3 rfl) 0; have hfz224_1 := blk_frozen (BX.out.get 3 rfl) 1))
            go_ret
            exact ⟨by first | rfl | (simp [errW_none, errW_some] <;> rfl) | (simp [*, errW_none, errW_some] <;> rfl), by repeat (first | (with_reducible first | exact HB.out | apply below_alloc | apply pw_below_drewN | apply below_drew1 | refine below_set ?_ (Aside0.out (by assumption))) | exact HB.out)⟩

end Go.Proofs.YtlcjfabbnclalaaDoor.F
