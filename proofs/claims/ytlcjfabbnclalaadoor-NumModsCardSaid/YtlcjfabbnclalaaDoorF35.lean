-- Laid by program (wip/tools/gen.sh of this repo) out of the translation; Lean checks it.
import Derived.Test.YtlcjfabbnclalaaDoorF0
import Derived.Test.YtlcjfabbnclalaaDoorB0
import Derived.Test.YtlcjfabbnclalaaDoorF1
import Derived.Test.YtlcjfabbnclalaaDoorF6
import Derived.Test.YtlcjfabbnclalaaDoorF17
import Derived.Test.YtlcjfabbnclalaaDoorF29
import Derived.Test.YtlcjfabbnclalaaDoorF31
import Derived.Test.YtlcjfabbnclalaaDoorF32
import Derived.Test.YtlcjfabbnclalaaDoorF33
import Derived.Test.YtlcjfabbnclalaaDoorF34
import Derived.Test.YtlcjfabbnclalaaDoorG1
namespace Go.Proofs.YtlcjfabbnclalaaDoor.F
open Go.RowKit Go.Proofs.YtlcjfabbnclalaaDoorW.PrintWords Go.Proofs.YtlcjfabbnclalaaDoorW.PrintLast Go.Proofs.YtlcjfabbnclalaaDoorW.PrintMore
attribute [local go_sem] max2_int min2_int max_two min_two max_three min_three max_four min_four   -- for this text's walks alone
set_option linter.unusedVariables false
set_option linter.unusedSimpArgs false

attribute [local go_sem high] eqA23
/-! ### whittlelaw1_NumMods: function 16 -/
def whittlelaw1_NumMods.j0 : Nat → Bool → Int → Int → Option (Bool)
 | 0, _, _, _ => none
 | k + 1, x80, x747000, x747001 => if x80 = true then (some false) else ((whittlelaw1_able.f k).bind fun t768 => (if t768 = true then ((num_Neg.f k x747000 x747001).bind fun bt769 => ((whittleref1_Neg.f k x747000 x747001).bind fun bt771 => (if (bt769.1 == bt771.1 && (bt769.2 == bt771.2)) = true then ((num_Abs.f k x747000 x747001).bind fun bt773 => ((whittleref1_Abs.f k x747000 x747001).bind fun bt775 => (if (bt773.1 == bt775.1 && (bt773.2 == bt775.2)) = true then ((num_Floor.f k x747000 x747001).bind fun bt777 => ((whittleref1_Floor.f k x747000 x747001).bind fun bt779 => (some (bt777.1 == bt779.1 && (bt777.2 == bt779.2))))) else (some false)))) else (some false)))) else (some false)))
def whittlelaw1_NumMods.f (k : Nat) (a0_0 : Int) (a0_1 : Int) (a1_0 : Int) (a1_1 : Int) (a2 : Int) : Option (Bool) := (num_Mod.f k a0_0 a0_1 a1_0 a1_1).bind fun bt748 => ((whittleref1_Mod.f k a0_0 a0_1 a1_0 a1_1).bind fun bt752 => ((num_Round.f k a0_0 a0_1 a2).bind fun bt756 => ((whittleref1_Round.f k a0_0 a0_1 a2).bind fun bt760 => ((num_Whole.f k a0_0 a0_1).bind fun bt764 => ((whittleref1_Whole.f k a0_0 a0_1).bind fun bt766 => (if (!(bt748.1 == bt752.1) || (!(bt748.2.1 == bt752.2.1))) = true then (whittlelaw1_NumMods.j0 k true a0_0 a0_1) else (if (bt748.2.2 != bt752.2.2) = true then (whittlelaw1_NumMods.j0 k true a0_0 a0_1) else (if (!(bt756.1 == bt760.1) || (!(bt756.2.1 == bt760.2.1))) = true then (whittlelaw1_NumMods.j0 k true a0_0 a0_1) else (if (bt756.2.2 != bt760.2.2) = true then (whittlelaw1_NumMods.j0 k true a0_0 a0_1) else (if bt764.1 = bt766.1 then (whittlelaw1_NumMods.j0 k (bt764.2 != bt766.2) a0_0 a0_1) else (whittlelaw1_NumMods.j0 k true a0_0 a0_1)))))))))))
theorem whittlelaw1_NumMods.mono_l : ∀ k, (∀ y0 y1 y2, LeO (whittlelaw1_NumMods.j0 k y0 y1 y2) (whittlelaw1_NumMods.j0 (k + 1) y0 y1 y2))
 | 0 => fun _ _ _ r h => by simp [whittlelaw1_NumMods.j0] at h
 | k + 1 => by
  have ih0 := whittlelaw1_NumMods.mono_l k
  ·intro y0 y1 y2
   unfold whittlelaw1_NumMods.j0
   repeat' first
   | (with_reducible exact ih0 _ _ _)
   | (with_reducible exact num_Abs.mono _ _ _)
   | (with_reducible exact num_Floor.mono _ _ _)
   | (with_reducible exact num_Mod.mono _ _ _ _ _)
   | (with_reducible exact num_Neg.mono _ _ _)
   | (with_reducible exact num_Round.mono _ _ _ _)
   | (with_reducible exact num_Whole.mono _ _ _)
   | (with_reducible exact whittlelaw1_able.mono _)
   | (with_reducible exact whittleref1_Abs.mono _ _ _)
   | (with_reducible exact whittleref1_Floor.mono _ _ _)
   | (with_reducible exact whittleref1_Mod.mono _ _ _ _ _)
   | (with_reducible exact whittleref1_Neg.mono _ _ _)
   | (with_reducible exact whittleref1_Round.mono _ _ _ _)
   | (with_reducible exact whittleref1_Whole.mono _ _ _)
   | (with_reducible exact LeO.refl _)
   | (with_reducible exact LeO.none _)
   | (with_reducible refine LeO.ite ?_ ?_)
   | (with_reducible refine LeO.bind ?_ (fun _ => ?_))
   | exact ih0 _ _ _
   | exact num_Abs.mono _ _ _
   | exact num_Floor.mono _ _ _
   | exact num_Mod.mono _ _ _ _ _
   | exact num_Neg.mono _ _ _
   | exact num_Round.mono _ _ _ _
   | exact num_Whole.mono _ _ _
   | exact whittlelaw1_able.mono _
   | exact whittleref1_Abs.mono _ _ _
   | exact whittleref1_Floor.mono _ _ _
   | exact whittleref1_Mod.mono _ _ _ _ _
   | exact whittleref1_Neg.mono _ _ _
   | exact whittleref1_Round.mono _ _ _ _
   | exact whittleref1_Whole.mono _ _ _
   | exact LeO.none _
   | refine LeO.ite ?_ ?_
   | refine LeO.bind ?_ (fun _ => ?_)
theorem whittlelaw1_NumMods.mono : ∀ a0 a1 a2 a3 a4 k, LeO (whittlelaw1_NumMods.f k a0 a1 a2 a3 a4) (whittlelaw1_NumMods.f (k + 1) a0 a1 a2 a3 a4) := by
 intro a0 a1 a2 a3 a4 k
 have ih0 := whittlelaw1_NumMods.mono_l k
 unfold whittlelaw1_NumMods.f
 repeat' first
   | (with_reducible exact ih0 _ _ _)
   | (with_reducible exact num_Abs.mono _ _ _)
   | (with_reducible exact num_Floor.mono _ _ _)
   | (with_reducible exact num_Mod.mono _ _ _ _ _)
   | (with_reducible exact num_Neg.mono _ _ _)
   | (with_reducible exact num_Round.mono _ _ _ _)
   | (with_reducible exact num_Whole.mono _ _ _)
   | (with_reducible exact whittlelaw1_able.mono _)
   | (with_reducible exact whittleref1_Abs.mono _ _ _)
   | (with_reducible exact whittleref1_Floor.mono _ _ _)
   | (with_reducible exact whittleref1_Mod.mono _ _ _ _ _)
   | (with_reducible exact whittleref1_Neg.mono _ _ _)
   | (with_reducible exact whittleref1_Round.mono _ _ _ _)
   | (with_reducible exact whittleref1_Whole.mono _ _ _)
   | (with_reducible exact LeO.refl _)
   | (with_reducible exact LeO.none _)
   | (with_reducible refine LeO.ite ?_ ?_)
   | (with_reducible refine LeO.bind ?_ (fun _ => ?_))
   | exact ih0 _ _ _
   | exact num_Abs.mono _ _ _
   | exact num_Floor.mono _ _ _
   | exact num_Mod.mono _ _ _ _ _
   | exact num_Neg.mono _ _ _
   | exact num_Round.mono _ _ _ _
   | exact num_Whole.mono _ _ _
   | exact whittlelaw1_able.mono _
   | exact whittleref1_Abs.mono _ _ _
   | exact whittleref1_Floor.mono _ _ _
   | exact whittleref1_Mod.mono _ _ _ _ _
   | exact whittleref1_Neg.mono _ _ _
   | exact whittleref1_Round.mono _ _ _ _
   | exact whittleref1_Whole.mono _ _ _
   | exact LeO.none _
   | refine LeO.ite ?_ ?_
   | refine LeO.bind ?_ (fun _ => ?_)
def whittlelaw1_NumMods.T9 : Bool × List (List Nat × List Nat) := (true, [([], []), ([0, 0], [0]), ([1], [1]), ([2, 1, 1], [1, 2]), ([1], [1]), ([4, 3, 1], [1, 4]), ([3, 5, 1], [1, 3, 5]), ([1, 6], [1, 6]), ([7, 5], [7]), ([8], [8]), ([9, 8, 8], [8, 9]), ([8], [8]), ([11, 10, 8], [8, 11]), ([10, 12, 8], [8, 10, 12]), ([8, 13], [8, 13]), ([14, 12], [14]), ([15], [15]), ([16, 15, 15], [15, 16]), ([15], [15]), ([18, 17, 15], [15, 18]), ([17, 19, 15], [15, 17, 19]), ([15, 20], [15, 20]), ([21, 19, 0, 1, 2, 3, 4, 5, 6, 7, 8, 9, 10, 11, 12, 13, 14, 15, 16, 17, 18, 19, 20, 21], [21])])
def whittlelaw1_NumMods.B9 : List Nat := [0, 1, 3, 7, 3, 31, 63, 127, 255, 511, 1023, 511, 4095, 8191, 16383, 32767, 65535, 131071, 65535, 524287, 1048575, 2097151, 4194303]
theorem whittlelaw1_NumMods.tab9 : rtab .any (opsOf Tryd.f16 9) = whittlelaw1_NumMods.T9 := by kernel_rfl
theorem whittlelaw1_NumMods.bits9 : waitsOk whittlelaw1_NumMods.T9.2 whittlelaw1_NumMods.B9 = true := by kernel_rfl
set_option maxHeartbeats 8000000 in
set_option maxRecDepth 100000 in
theorem whittlelaw1_NumMods.calls (k : Nat) (a0_0 : Int) (a0_1 : Int) (a1_0 : Int) (a1_1 : Int) (a2 : Int) (r : Bool) (w : World) (HT0 : TabAt w) (hr0 : r = true) (h : whittlelaw1_NumMods.f k a0_0 a0_1 a1_0 a1_1 a2 = some r) :
  Calls Tryd.prog 16 #[.agg #[.int .i64 a0_0, .int .i64 a0_1], .agg #[.int .i64 a1_0, .int .i64 a1_1], .int .i64 a2] w fun e w' => e = .returned (.bool r) ∧ Below w.heap.size w w' := by
 have hu23 := Tryd.underlying23
 have HT := Aside0.mk HT0
 clear HT0
 have HR := Aside0.mk hr0
 clear hr0
 have HB := Aside0.mk (Below.refl w.heap.size w)
 have H : ((num_Mod.f k a0_0 a0_1 a1_0 a1_1).bind fun bt748 => ((whittleref1_Mod.f k a0_0 a0_1 a1_0 a1_1).bind fun bt752 => ((num_Round.f k a0_0 a0_1 a2).bind fun bt756 => ((whittleref1_Round.f k a0_0 a0_1 a2).bind fun bt760 => ((num_Whole.f k a0_0 a0_1).bind fun bt764 => ((whittleref1_Whole.f k a0_0 a0_1).bind fun bt766 => (if (!(bt748.1 == bt752.1) || (!(bt748.2.1 == bt752.2.1))) = true then (whittlelaw1_NumMods.j0 k true a0_0 a0_1) else (if (bt748.2.2 != bt752.2.2) = true then (whittlelaw1_NumMods.j0 k true a0_0 a0_1) else (if (!(bt756.1 == bt760.1) || (!(bt756.2.1 == bt760.2.1))) = true then (whittlelaw1_NumMods.j0 k true a0_0 a0_1) else (if (bt756.2.2 != bt760.2.2) = true then (whittlelaw1_NumMods.j0 k true a0_0 a0_1) else (if bt764.1 = bt766.1 then (whittlelaw1_NumMods.j0 k (bt764.2 != bt766.2) a0_0 a0_1) else (whittlelaw1_NumMods.j0 k true a0_0 a0_1)))))))))))) = some r := h
 clear h
 replace H := Option.bind_eq_some_iff.mp H
 obtain ⟨⟨t748, t749, t750⟩, A40, H⟩ := H
 have A4 := Aside0.mk A40
 clear A40
 replace H := Option.bind_eq_some_iff.mp H
 obtain ⟨⟨t752, t753, t754⟩, A50, H⟩ := H
 have A5 := Aside0.mk A50
 clear A50
 replace H := Option.bind_eq_some_iff.mp H
 obtain ⟨⟨t756, t757, t758⟩, A60, H⟩ := H
 have A6 := Aside0.mk A60
 clear A60
 replace H := Option.bind_eq_some_iff.mp H
 obtain ⟨⟨t760, t761, t762⟩, A70, H⟩ := H
 have A7 := Aside0.mk A70
 clear A70
 replace H := Option.bind_eq_some_iff.mp H
 obtain ⟨⟨t764, t765⟩, A80, H⟩ := H
 have A8 := Aside0.mk A80
 clear A80
 replace H := Option.bind_eq_some_iff.mp H
 obtain ⟨⟨t766, t767⟩, A90, H⟩ := H
 replace H : (if (!(t748 == t752) || (!(t749 == t753))) = true then (whittlelaw1_NumMods.j0 k true a0_0 a0_1) else (if (t750 != t754) = true then (whittlelaw1_NumMods.j0 k true a0_0 a0_1) else (if (!(t756 == t760) || (!(t757 == t761))) = true then (whittlelaw1_NumMods.j0 k true a0_0 a0_1) else (if (t758 != t762) = true then (whittlelaw1_NumMods.j0 k true a0_0 a0_1) else (if t764 = t766 then (whittlelaw1_NumMods.j0 k (t765 != t767) a0_0 a0_1) else (whittlelaw1_NumMods.j0 k true a0_0 a0_1)))))) = some r := H
 have A9 := Aside0.mk A90
 clear A90
 have HC10 := Aside0.mk H
 clear H
 go_enter Tryd.func16, Tryd.ntmps16
 go_upto_region 7 with (first | ((with_reducible refine gate_dst (N := 3) rfl ?_); refine box_event ?hg (N := 3) ?hd (cs := #[.int .i64 a0_0, .int .i64 a0_1]) (t := 23) ?hr ?_; (case hd => rfl); (case hg => rfl); (case hr => first | (go_simp; done) | (go_simp; rfl)); intro gb746 hg w11 hbox hb; have n0_ := Aside0.mk (Boxes.new (b := w.heap.size) (L := []) trivial hg hbox hb (below_size (by repeat (first | (with_reducible first | exact HB.out | apply below_alloc | apply pw_below_drewN | apply below_drew1 | refine below_set ?_ (Aside0.out (by assumption))) | exact HB.out)))); have n1_ := Aside0.mk (below_step (by repeat (first | (with_reducible first | exact HB.out | apply below_alloc | apply pw_below_drewN | apply below_drew1 | refine below_set ?_ (Aside0.out (by assumption))) | exact HB.out)) hb); have n2_ := Aside0.mk ((by rw [hg]; exact (below_size (by repeat (first | (with_reducible first | exact HB.out | apply below_alloc | apply pw_below_drewN | apply below_drew1 | refine below_set ?_ (Aside0.out (by assumption))) | exact HB.out))) : w.heap.size ≤ gb746)); clear HB; have BX := n0_; have HB := n1_; have GE746 := n2_; clear n0_ n1_ n2_; clear hb hbox hg) | ((with_reducible refine gate_dst (N := 4) rfl ?_); refine box_event ?hg (N := 4) ?hd (cs := #[.int .i64 a1_0, .int .i64 a1_1]) (t := 23) ?hr ?_; (case hd => rfl); (case hg => rfl); (case hr => first | (go_simp; done) | (go_simp; rfl)); intro gb747 hg w12 hbox hb; have n0_ := Aside0.mk (Boxes.new (by (with_reducible repeat (first | apply boxes_drewN | apply boxes_drew | apply boxes_alloc)); exact BX.out) hg hbox hb (below_size (by repeat (first | (with_reducible first | exact HB.out | apply below_alloc | apply pw_below_drewN | apply below_drew1 | refine below_set ?_ (Aside0.out (by assumption))) | exact HB.out)))); have n1_ := Aside0.mk (below_step (by repeat (first | (with_reducible first | exact HB.out | apply below_alloc | apply pw_below_drewN | apply below_drew1 | refine below_set ?_ (Aside0.out (by assumption))) | exact HB.out)) hb); have n2_ := Aside0.mk ((by rw [hg]; exact (below_size (by repeat (first | (with_reducible first | exact HB.out | apply below_alloc | apply pw_below_drewN | apply below_drew1 | refine below_set ?_ (Aside0.out (by assumption))) | exact HB.out))) : w.heap.size ≤ gb747)); clear BX HB; have BX := n0_; have HB := n1_; have GE747 := n2_; clear n0_ n1_ n2_; clear hb hbox hg; obtain ⟨⟨hnc13, hnb13⟩, -⟩ := BX.out.apart 0 rfl; have hcz14_0 : w12.cell? ⟨gb746, 0, none⟩ = some (.int .i64 a0_0) := (blk_cell (BX.out.get 1 rfl) 0).trans rfl; have hcz14_1 : w12.cell? ⟨gb746, 1, none⟩ = some (.int .i64 a0_1) := (blk_cell (BX.out.get 1 rfl) 1).trans rfl; have hfz14_0 := blk_frozen (BX.out.get 1 rfl) 0; have hfz14_1 := blk_frozen (BX.out.get 1 rfl) 1; have hcz15_0 : w12.cell? ⟨gb747, 0, none⟩ = some (.int .i64 a1_0) := (blk_cell (BX.out.get 0 rfl) 0).trans rfl; have hcz15_1 : w12.cell? ⟨gb747, 1, none⟩ = some (.int .i64 a1_1) := (blk_cell (BX.out.get 0 rfl) 1).trans rfl; have hfz15_0 := blk_frozen (BX.out.get 0 rfl) 0; have hfz15_1 := blk_frozen (BX.out.get 0 rfl) 1) | ((with_reducible refine gate_callee (f := 49) rfl ?_); refine goesL_ (some 22) rfl rfl Tryd.func49 (by kernel_rfl) rfl #[.agg #[.int .i64 a0_0, .int .i64 a0_1], .agg #[.int .i64 a1_0, .int .i64 a1_1]] rfl (by (try simp only [List.map_toArray, List.map_cons, List.map_nil]); first | done | rfl | (simp only [List.length_drop, List.length_take]; rfl)) ?_; (with_reducible refine (num_Mod.calls k a0_0 a0_1 a1_0 a1_1 t748 t749 t750 _ A4.out).mono ?_); rintro e w16 ⟨rfl, hb⟩; refine ⟨_, rfl, ?_⟩; have n0_ := Aside0.mk (Boxes.below (by (with_reducible repeat (first | apply boxes_drewN | apply boxes_drew | apply boxes_alloc)); exact BX.out) hb); have n1_ := Aside0.mk (below_step (by repeat (first | (with_reducible first | exact HB.out | apply below_alloc | apply pw_below_drewN | apply below_drew1 | refine below_set ?_ (Aside0.out (by assumption))) | exact HB.out)) hb); clear BX HB; have BX := n0_; have HB := n1_; clear n0_ n1_; (try clear hb); (try clear hb2); (try clear hk); (try clear hi)) | ((with_reducible refine gate_dst (N := 7) rfl ?_); refine box_event ?hg (N := 7) ?hd (cs := #[.int .i64 0, .int .i64 0]) (t := 23) ?hr ?_; (case hd => rfl); (case hg => rfl); (case hr => first | (go_simp; done) | (go_simp; rfl)); intro gb751 hg w17 hbox hb; have n0_ := Aside0.mk (Boxes.new (by (with_reducible repeat (first | apply boxes_drewN | apply boxes_drew | apply boxes_alloc)); exact BX.out) hg hbox hb (below_size (by repeat (first | (with_reducible first | exact HB.out | apply below_alloc | apply pw_below_drewN | apply below_drew1 | refine below_set ?_ (Aside0.out (by assumption))) | exact HB.out)))); have n1_ := Aside0.mk (below_step (by repeat (first | (with_reducible first | exact HB.out | apply below_alloc | apply pw_below_drewN | apply below_drew1 | refine below_set ?_ (Aside0.out (by assumption))) | exact HB.out)) hb); have n2_ := Aside0.mk ((by rw [hg]; exact (below_size (by repeat (first | (with_reducible first | exact HB.out | apply below_alloc | apply pw_below_drewN | apply below_drew1 | refine below_set ?_ (Aside0.out (by assumption))) | exact HB.out))) : w.heap.size ≤ gb751)); clear BX HB; have BX := n0_; have HB := n1_; have GE751 := n2_; clear n0_ n1_ n2_; clear hb hbox hg; obtain ⟨⟨hnb19, hnc19⟩, ⟨hnb18, hnc18⟩, -⟩ := BX.out.apart 0 rfl; have hcz20_0 : w17.cell? ⟨gb751, 0, none⟩ = some (.int .i64 0) := (blk_cell (BX.out.get 0 rfl) 0).trans rfl; have hcz20_1 : w17.cell? ⟨gb751, 1, none⟩ = some (.int .i64 0) := (blk_cell (BX.out.get 0 rfl) 1).trans rfl; have hfz20_0 := blk_frozen (BX.out.get 0 rfl) 0; have hfz20_1 := blk_frozen (BX.out.get 0 rfl) 1; have hcz21_0 : w17.cell? ⟨gb746, 0, none⟩ = some (.int .i64 a0_0) := (blk_cell (BX.out.get 2 rfl) 0).trans rfl; have hcz21_1 : w17.cell? ⟨gb746, 1, none⟩ = some (.int .i64 a0_1) := (blk_cell (BX.out.get 2 rfl) 1).trans rfl; have hfz21_0 := blk_frozen (BX.out.get 2 rfl) 0; have hfz21_1 := blk_frozen (BX.out.get 2 rfl) 1; have hcz22_0 : w17.cell? ⟨gb747, 0, none⟩ = some (.int .i64 a1_0) := (blk_cell (BX.out.get 1 rfl) 0).trans rfl; have hcz22_1 : w17.cell? ⟨gb747, 1, none⟩ = some (.int .i64 a1_1) := (blk_cell (BX.out.get 1 rfl) 1).trans rfl; have hfz22_0 := blk_frozen (BX.out.get 1 rfl) 0; have hfz22_1 := blk_frozen (BX.out.get 1 rfl) 1) | ((with_reducible refine gate_callee (f := 50) rfl ?_); refine goesL_ (some 28) rfl rfl Tryd.func50 (by kernel_rfl) rfl #[.agg #[.int .i64 a0_0, .int .i64 a0_1], .agg #[.int .i64 a1_0, .int .i64 a1_1]] rfl (by (try simp only [List.map_toArray, List.map_cons, List.map_nil]); first | done | rfl | (simp only [List.length_drop, List.length_take]; rfl)) ?_; (with_reducible refine (whittleref1_Mod.calls k a0_0 a0_1 a1_0 a1_1 t752 t753 t754 _ A5.out).mono ?_); rintro e w23 ⟨rfl, hb⟩; refine ⟨_, rfl, ?_⟩; have n0_ : Aside0 (Boxes w.heap.size _ ((gb751, 23, #[.int .i64 t748, .int .i64 t749]) :: _)) := ⟨Boxes.below (by (with_reducible repeat (first | apply boxes_drewN | apply boxes_drew | apply boxes_alloc)); apply boxes_put 0; (with_reducible repeat (first | apply boxes_drewN | apply boxes_drew | apply boxes_alloc)); apply boxes_put 0; (with_reducible repeat (first | apply boxes_drewN | apply boxes_drew | apply boxes_alloc)); exact BX.out; any_goals rfl) hb⟩; have n1_ := Aside0.mk (below_step (by repeat (first | (with_reducible first | exact HB.out | apply below_alloc | apply pw_below_drewN | apply below_drew1 | refine below_set ?_ (Aside0.out (by assumption))) | exact HB.out)) hb); clear BX HB; have BX := n0_; have HB := n1_; clear n0_ n1_; (try clear hb); (try clear hb2); (try clear hk); (try clear hi)) | ((with_reducible refine gate_dst (N := 9) rfl ?_); refine box_event ?hg (N := 9) ?hd (cs := #[.int .i64 0, .int .i64 0]) (t := 23) ?hr ?_; (case hd => rfl); (case hg => rfl); (case hr => first | (go_simp; done) | (go_simp; rfl)); intro gb755 hg w24 hbox hb; have n0_ := Aside0.mk (Boxes.new (by (with_reducible repeat (first | apply boxes_drewN | apply boxes_drew | apply boxes_alloc)); exact BX.out) hg hbox hb (below_size (by repeat (first | (with_reducible first | exact HB.out | apply below_alloc | apply pw_below_drewN | apply below_drew1 | refine below_set ?_ (Aside0.out (by assumption))) | exact HB.out)))); have n1_ := Aside0.mk (below_step (by repeat (first | (with_reducible first | exact HB.out | apply below_alloc | apply pw_below_drewN | apply below_drew1 | refine below_set ?_ (Aside0.out (by assumption))) | exact HB.out)) hb); have n2_ := Aside0.mk ((by rw [hg]; exact (below_size (by repeat (first | (with_reducible first | exact HB.out | apply below_alloc | apply pw_below_drewN | apply below_drew1 | refine below_set ?_ (Aside0.out (by assumption))) | exact HB.out))) : w.heap.size ≤ gb755)); clear BX HB; have BX := n0_; have HB := n1_; have GE755 := n2_; clear n0_ n1_ n2_; clear hb hbox hg; obtain ⟨⟨hnb27, hnc27⟩, ⟨hnb26, hnc26⟩, ⟨hnb25, hnc25⟩, -⟩ := BX.out.apart 0 rfl; have hcz28_0 : w24.cell? ⟨gb755, 0, none⟩ = some (.int .i64 0) := (blk_cell (BX.out.get 0 rfl) 0).trans rfl; have hcz28_1 : w24.cell? ⟨gb755, 1, none⟩ = some (.int .i64 0) := (blk_cell (BX.out.get 0 rfl) 1).trans rfl; have hfz28_0 := blk_frozen (BX.out.get 0 rfl) 0; have hfz28_1 := blk_frozen (BX.out.get 0 rfl) 1; have hcz29_0 : w24.cell? ⟨gb746, 0, none⟩ = some (.int .i64 a0_0) := (blk_cell (BX.out.get 3 rfl) 0).trans rfl; have hcz29_1 : w24.cell? ⟨gb746, 1, none⟩ = some (.int .i64 a0_1) := (blk_cell (BX.out.get 3 rfl) 1).trans rfl; have hfz29_0 := blk_frozen (BX.out.get 3 rfl) 0; have hfz29_1 := blk_frozen (BX.out.get 3 rfl) 1) | ((with_reducible refine gate_callee (f := 45) rfl ?_); refine goesL_ (some 34) rfl rfl Tryd.func45 (by kernel_rfl) rfl #[.agg #[.int .i64 a0_0, .int .i64 a0_1], .int .i64 a2] rfl (by (try simp only [List.map_toArray, List.map_cons, List.map_nil]); first | done | rfl | (simp only [List.length_drop, List.length_take]; rfl)) ?_; (with_reducible refine (num_Round.calls k a0_0 a0_1 a2 t756 t757 t758 _ A6.out).mono ?_); rintro e w30 ⟨rfl, hb⟩; refine ⟨_, rfl, ?_⟩; have n0_ : Aside0 (Boxes w.heap.size _ ((gb755, 23, #[.int .i64 t752, .int .i64 t753]) :: _)) := ⟨Boxes.below (by (with_reducible repeat (first | apply boxes_drewN | apply boxes_drew | apply boxes_alloc)); apply boxes_put 0; (with_reducible repeat (first | apply boxes_drewN | apply boxes_drew | apply boxes_alloc)); apply boxes_put 0; (with_reducible repeat (first | apply boxes_drewN | apply boxes_drew | apply boxes_alloc)); exact BX.out; any_goals rfl) hb⟩; have n1_ := Aside0.mk (below_step (by repeat (first | (with_reducible first | exact HB.out | apply below_alloc | apply pw_below_drewN | apply below_drew1 | refine below_set ?_ (Aside0.out (by assumption))) | exact HB.out)) hb); clear BX HB; have BX := n0_; have HB := n1_; clear n0_ n1_; (try clear hb); (try clear hb2); (try clear hk); (try clear hi)) | ((with_reducible refine gate_dst (N := 11) rfl ?_); refine box_event ?hg (N := 11) ?hd (cs := #[.int .i64 0, .int .i64 0]) (t := 23) ?hr ?_; (case hd => rfl); (case hg => rfl); (case hr => first | (go_simp; done) | (go_simp; rfl)); intro gb759 hg w31 hbox hb; have n0_ := Aside0.mk (Boxes.new (by (with_reducible repeat (first | apply boxes_drewN | apply boxes_drew | apply boxes_alloc)); exact BX.out) hg hbox hb (below_size (by repeat (first | (with_reducible first | exact HB.out | apply below_alloc | apply pw_below_drewN | apply below_drew1 | refine below_set ?_ (Aside0.out (by assumption))) | exact HB.out)))); have n1_ := Aside0.mk (below_step (by repeat (first | (with_reducible first | exact HB.out | apply below_alloc | apply pw_below_drewN | apply below_drew1 | refine below_set ?_ (Aside0.out (by assumption))) | exact HB.out)) hb); have n2_ := Aside0.mk ((by rw [hg]; exact (below_size (by repeat (first | (with_reducible first | exact HB.out | apply below_alloc | apply pw_below_drewN | apply below_drew1 | refine below_set ?_ (Aside0.out (by assumption))) | exact HB.out))) : w.heap.size ≤ gb759)); clear BX HB; have BX := n0_; have HB := n1_; have GE759 := n2_; clear n0_ n1_ n2_; clear hb hbox hg; obtain ⟨⟨hnb35, hnc35⟩, ⟨hnb34, hnc34⟩, ⟨hnb33, hnc33⟩, ⟨hnb32, hnc32⟩, -⟩ := BX.out.apart 0 rfl; have hcz36_0 : w31.cell? ⟨gb759, 0, none⟩ = some (.int .i64 0) := (blk_cell (BX.out.get 0 rfl) 0).trans rfl; have hcz36_1 : w31.cell? ⟨gb759, 1, none⟩ = some (.int .i64 0) := (blk_cell (BX.out.get 0 rfl) 1).trans rfl; have hfz36_0 := blk_frozen (BX.out.get 0 rfl) 0; have hfz36_1 := blk_frozen (BX.out.get 0 rfl) 1; have hcz37_0 : w31.cell? ⟨gb746, 0, none⟩ = some (.int .i64 a0_0) := (blk_cell (BX.out.get 4 rfl) 0).trans rfl; have hcz37_1 : w31.cell? ⟨gb746, 1, none⟩ = some (.int .i64 a0_1) := (blk_cell (BX.out.get 4 rfl) 1).trans rfl; have hfz37_0 := blk_frozen (BX.out.get 4 rfl) 0; have hfz37_1 := blk_frozen (BX.out.get 4 rfl) 1) | ((with_reducible refine gate_callee (f := 51) rfl ?_); refine goesL_ (some 40) rfl rfl Tryd.func51 (by kernel_rfl) rfl #[.agg #[.int .i64 a0_0, .int .i64 a0_1], .int .i64 a2] rfl (by (try simp only [List.map_toArray, List.map_cons, List.map_nil]); first | done | rfl | (simp only [List.length_drop, List.length_take]; rfl)) ?_; (with_reducible refine (whittleref1_Round.calls k a0_0 a0_1 a2 t760 t761 t762 _ A7.out).mono ?_); rintro e w38 ⟨rfl, hb⟩; refine ⟨_, rfl, ?_⟩; have n0_ : Aside0 (Boxes w.heap.size _ ((gb759, 23, #[.int .i64 t756, .int .i64 t757]) :: _)) := ⟨Boxes.below (by (with_reducible repeat (first | apply boxes_drewN | apply boxes_drew | apply boxes_alloc)); apply boxes_put 0; (with_reducible repeat (first | apply boxes_drewN | apply boxes_drew | apply boxes_alloc)); apply boxes_put 0; (with_reducible repeat (first | apply boxes_drewN | apply boxes_drew | apply boxes_alloc)); exact BX.out; any_goals rfl) hb⟩; have n1_ := Aside0.mk (below_step (by repeat (first | (with_reducible first | exact HB.out | apply below_alloc | apply pw_below_drewN | apply below_drew1 | refine below_set ?_ (Aside0.out (by assumption))) | exact HB.out)) hb); clear BX HB; have BX := n0_; have HB := n1_; clear n0_ n1_; (try clear hb); (try clear hb2); (try clear hk); (try clear hi)) | ((with_reducible refine gate_dst (N := 13) rfl ?_); refine box_event ?hg (N := 13) ?hd (cs := #[.int .i64 0, .int .i64 0]) (t := 23) ?hr ?_; (case hd => rfl); (case hg => rfl); (case hr => first | (go_simp; done) | (go_simp; rfl)); intro gb763 hg w39 hbox hb; have n0_ := Aside0.mk (Boxes.new (by (with_reducible repeat (first | apply boxes_drewN | apply boxes_drew | apply boxes_alloc)); exact BX.out) hg hbox hb (below_size (by repeat (first | (with_reducible first | exact HB.out | apply below_alloc | apply pw_below_drewN | apply below_drew1 | refine below_set ?_ (Aside0.out (by assumption))) | exact HB.out)))); have n1_ := Aside0.mk (below_step (by repeat (first | (with_reducible first | exact HB.out | apply below_alloc | apply pw_below_drewN | apply below_drew1 | refine below_set ?_ (Aside0.out (by assumption))) | exact HB.out)) hb); have n2_ := Aside0.mk ((by rw [hg]; exact (below_size (by repeat (first | (with_reducible first | exact HB.out | apply below_alloc | apply pw_below_drewN | apply below_drew1 | refine below_set ?_ (Aside0.out (by assumption))) | exact HB.out))) : w.heap.size ≤ gb763)); clear BX HB; have BX := n0_; have HB := n1_; have GE763 := n2_; clear n0_ n1_ n2_; clear hb hbox hg; obtain ⟨⟨hnb44, hnc44⟩, ⟨hnb43, hnc43⟩, ⟨hnb42, hnc42⟩, ⟨hnb41, hnc41⟩, ⟨hnb40, hnc40⟩, -⟩ := BX.out.apart 0 rfl; have hcz45_0 : w39.cell? ⟨gb763, 0, none⟩ = some (.int .i64 0) := (blk_cell (BX.out.get 0 rfl) 0).trans rfl; have hcz45_1 : w39.cell? ⟨gb763, 1, none⟩ = some (.int .i64 0) := (blk_cell (BX.out.get 0 rfl) 1).trans rfl; have hfz45_0 := blk_frozen (BX.out.get 0 rfl) 0; have hfz45_1 := blk_frozen (BX.out.get 0 rfl) 1; have hcz46_0 : w39.cell? ⟨gb746, 0, none⟩ = some (.int .i64 a0_0) := (blk_cell (BX.out.get 5 rfl) 0).trans rfl; have hcz46_1 : w39.cell? ⟨gb746, 1, none⟩ = some (.int .i64 a0_1) := (blk_cell (BX.out.get 5 rfl) 1).trans rfl; have hfz46_0 := blk_frozen (BX.out.get 5 rfl) 0; have hfz46_1 := blk_frozen (BX.out.get 5 rfl) 1) | ((with_reducible refine gate_callee (f := 52) rfl ?_); refine goesL_ (some 45) rfl rfl Tryd.func52 (by kernel_rfl) rfl #[.agg #[.int .i64 a0_0, .int .i64 a0_1]] rfl (by (try simp only [List.map_toArray, List.map_cons, List.map_nil]); first | done | rfl | (simp only [List.length_drop, List.length_take]; rfl)) ?_; (with_reducible refine (num_Whole.calls k a0_0 a0_1 t764 t765 _ A8.out).mono ?_); rintro e w47 ⟨rfl, hb⟩; refine ⟨_, rfl, ?_⟩; have n0_ : Aside0 (Boxes w.heap.size _ ((gb763, 23, #[.int .i64 t760, .int .i64 t761]) :: _)) := ⟨Boxes.below (by (with_reducible repeat (first | apply boxes_drewN | apply boxes_drew | apply boxes_alloc)); apply boxes_put 0; (with_reducible repeat (first | apply boxes_drewN | apply boxes_drew | apply boxes_alloc)); apply boxes_put 0; (with_reducible repeat (first | apply boxes_drewN | apply boxes_drew | apply boxes_alloc)); exact BX.out; any_goals rfl) hb⟩; have n1_ := Aside0.mk (below_step (by repeat (first | (with_reducible first | exact HB.out | apply below_alloc | apply pw_below_drewN | apply below_drew1 | refine below_set ?_ (Aside0.out (by assumption))) | exact HB.out)) hb); clear BX HB; have BX := n0_; have HB := n1_; clear n0_ n1_; (try clear hb); (try clear hb2); (try clear hk); (try clear hi); have hcz48_0 : w47.cell? ⟨gb746, 0, none⟩ = some (.int .i64 a0_0) := (blk_cell (BX.out.get 5 rfl) 0).trans rfl; have hcz48_1 : w47.cell? ⟨gb746, 1, none⟩ = some (.int .i64 a0_1) := (blk_cell (BX.out.get 5 rfl) 1).trans rfl; have hfz48_0 := blk_frozen (BX.out.get 5 rfl) 0; have hfz48_1 := blk_frozen (BX.out.get 5 rfl) 1) | ((with_reducible refine gate_callee (f := 53) rfl ?_); refine goesL_ (some 50) rfl rfl Tryd.func53 (by kernel_rfl) rfl #[.agg #[.int .i64 a0_0, .int .i64 a0_1]] rfl (by (try simp only [List.map_toArray, List.map_cons, List.map_nil]); first | done | rfl | (simp only [List.length_drop, List.length_take]; rfl)) ?_; (with_reducible refine (whittleref1_Whole.calls k a0_0 a0_1 t766 t767 _ A9.out).mono ?_); rintro e w49 ⟨rfl, hb⟩; refine ⟨_, rfl, ?_⟩; have n0_ := Aside0.mk (Boxes.below (by (with_reducible repeat (first | apply boxes_drewN | apply boxes_drew | apply boxes_alloc)); exact BX.out) hb); have n1_ := Aside0.mk (below_step (by repeat (first | (with_reducible first | exact HB.out | apply below_alloc | apply pw_below_drewN | apply below_drew1 | refine below_set ?_ (Aside0.out (by assumption))) | exact HB.out)) hb); clear BX HB; have BX := n0_; have HB := n1_; clear n0_ n1_; (try clear hb); (try clear hb2); (try clear hk); (try clear hi)))
 (try simp only [Act.put, List.setIfInBounds_toArray, List.set_cons_zero, List.set_cons_succ])
 go_cut [80] (fun v80 wc => ∃ (kq : Nat) (x80_9 : Bool), v80 = .bool x80_9 ∧ Aside0 (whittlelaw1_NumMods.j0 kq x80_9 a0_0 a0_1 = some r) ∧ Aside0 (kq ≤ k) ∧ Aside0 (Boxes w.heap.size wc [(gb763, 23, #[.int .i64 t760, .int .i64 t761]), (gb759, 23, #[.int .i64 t756, .int .i64 t757]), (gb755, 23, #[.int .i64 t752, .int .i64 t753]), (gb751, 23, #[.int .i64 t748, .int .i64 t749]), (gb747, 23, #[.int .i64 a1_0, .int .i64 a1_1]), (gb746, 23, #[.int .i64 a0_0, .int .i64 a0_1])]) ∧ Aside0 (Below w.heap.size w wc))
 case first =>
  have H := HC10.out
  clear HC10
  by_cases c50 : (!(t748 == t752) || (!(t749 == t753))) = true
  ·rw [if_pos c50] at H
   have c50b0 : (!(t748 == t752) || (!(t749 == t753))) = true := c50
   clear c50
   (first | rw [c50b0] | (simp only [i64_w, i32_w]; rw [c50b0]) | skip)
   exact (no_meet (g := fun k_ => whittlelaw1_NumMods.j0 k_ true a0_0 a0_1) HR.out H (by simp only [whittlelaw1_NumMods.j0]) (fun k_ => by simp only [whittlelaw1_NumMods.j0]; first | exact if_pos rfl | rfl | simp)).elim
  ·rw [if_neg c50] at H
   have c50b0 : (!(t748 == t752) || (!(t749 == t753))) = false := by simpa using c50
   clear c50
   (first | rw [c50b0] | (simp only [i64_w, i32_w]; rw [c50b0]) | skip)
   by_cases c51 : (t750 != t754) = true
   ·rw [if_pos c51] at H
    have c51b0 : (t750 != t754) = true := c51
    (try (have c51b1 : decide (t750 = t754) = false := by simpa using c51))
    (try (have c51b2 : (t750 == t754) = false := by simpa using c51))
    (try (have c51b3 : ¬ (t750 = t754) := by simpa using c51))
    clear c51
    exact (no_meet (g := fun k_ => whittlelaw1_NumMods.j0 k_ true a0_0 a0_1) HR.out H (by simp only [whittlelaw1_NumMods.j0]) (fun k_ => by simp only [whittlelaw1_NumMods.j0]; first | exact if_pos rfl | rfl | simp)).elim
   ·rw [if_neg c51] at H
    have c51b0 : (t750 != t754) = false := by simpa using c51
    (try (have c51b1 : decide (t750 = t754) = true := by simpa using c51))
    (try (have c51b2 : (t750 == t754) = true := by simpa using c51))
    clear c51
    by_cases c52 : (!(t756 == t760) || (!(t757 == t761))) = true
    ·rw [if_pos c52] at H
     have c52b0 : (!(t756 == t760) || (!(t757 == t761))) = true := c52
     clear c52
     exact (no_meet (g := fun k_ => whittlelaw1_NumMods.j0 k_ true a0_0 a0_1) HR.out H (by simp only [whittlelaw1_NumMods.j0]) (fun k_ => by simp only [whittlelaw1_NumMods.j0]; first | exact if_pos rfl | rfl | simp)).elim
    ·rw [if_neg c52] at H
     have c52b0 : (!(t756 == t760) || (!(t757 == t761))) = false := by simpa using c52
     clear c52
     by_cases c53 : (t758 != t762) = true
     ·rw [if_pos c53] at H
      have c53b0 : (t758 != t762) = true := c53
      (try (have c53b1 : decide (t758 = t762) = false := by simpa using c53))
      (try (have c53b2 : (t758 == t762) = false := by simpa using c53))
      (try (have c53b3 : ¬ (t758 = t762) := by simpa using c53))
      clear c53
      exact (no_meet (g := fun k_ => whittlelaw1_NumMods.j0 k_ true a0_0 a0_1) HR.out H (by simp only [whittlelaw1_NumMods.j0]) (fun k_ => by simp only [whittlelaw1_NumMods.j0]; first | exact if_pos rfl | rfl | simp)).elim
     ·rw [if_neg c53] at H
      have c53b0 : (t758 != t762) = false := by simpa using c53
      (try (have c53b1 : decide (t758 = t762) = true := by simpa using c53))
      (try (have c53b2 : (t758 == t762) = true := by simpa using c53))
      clear c53
      by_cases c54 : t764 = t766
      ·rw [if_pos c54] at H
       have c54b0 : (t764 == t766) = true := beq_iff_eq.mpr c54
       have c54b1 : (t764 != t766) = false := bne_eq_false_iff_eq.mpr c54
       clear c54
       have H' := Aside0.mk H
       clear H
       obtain ⟨⟨hnb59, hnc59⟩, ⟨hnb58, hnc58⟩, ⟨hnb57, hnc57⟩, ⟨hnb56, hnc56⟩, ⟨hnb55, hnc55⟩, -⟩ := BX.out.apart 3 rfl
       have hcz60_0 : w49.cell? ⟨gb751, 0, none⟩ = some (.int .i64 t748) := (blk_cell (BX.out.get 3 rfl) 0).trans rfl
       have hcz60_1 : w49.cell? ⟨gb751, 1, none⟩ = some (.int .i64 t749) := (blk_cell (BX.out.get 3 rfl) 1).trans rfl
       have hfz60_0 := blk_frozen (BX.out.get 3 rfl) 0
       have hfz60_1 := blk_frozen (BX.out.get 3 rfl) 1
       obtain ⟨⟨hnb64, hnc64⟩, ⟨hnb63, hnc63⟩, -, ⟨hnb62, hnc62⟩, ⟨hnb61, hnc61⟩, -⟩ := BX.out.apart 2 rfl
       have hcz65_0 : w49.cell? ⟨gb755, 0, none⟩ = some (.int .i64 t752) := (blk_cell (BX.out.get 2 rfl) 0).trans rfl
       have hcz65_1 : w49.cell? ⟨gb755, 1, none⟩ = some (.int .i64 t753) := (blk_cell (BX.out.get 2 rfl) 1).trans rfl
       have hfz65_0 := blk_frozen (BX.out.get 2 rfl) 0
       have hfz65_1 := blk_frozen (BX.out.get 2 rfl) 1
       obtain ⟨⟨hnb68, hnc68⟩, -, -, ⟨hnb67, hnc67⟩, ⟨hnb66, hnc66⟩, -⟩ := BX.out.apart 1 rfl
       have hcz69_0 : w49.cell? ⟨gb759, 0, none⟩ = some (.int .i64 t756) := (blk_cell (BX.out.get 1 rfl) 0).trans rfl
       have hcz69_1 : w49.cell? ⟨gb759, 1, none⟩ = some (.int .i64 t757) := (blk_cell (BX.out.get 1 rfl) 1).trans rfl
       have hfz69_0 := blk_frozen (BX.out.get 1 rfl) 0
       have hfz69_1 := blk_frozen (BX.out.get 1 rfl) 1
       obtain ⟨-, -, -, ⟨hnb71, hnc71⟩, ⟨hnb70, hnc70⟩, -⟩ := BX.out.apart 0 rfl
       have hcz72_0 : w49.cell? ⟨gb763, 0, none⟩ = some (.int .i64 t760) := (blk_cell (BX.out.get 0 rfl) 0).trans rfl
       have hcz72_1 : w49.cell? ⟨gb763, 1, none⟩ = some (.int .i64 t761) := (blk_cell (BX.out.get 0 rfl) 1).trans rfl
       have hfz72_0 := blk_frozen (BX.out.get 0 rfl) 0
       have hfz72_1 := blk_frozen (BX.out.get 0 rfl) 1
       go_wp2
       go_meet
       case rel => exact ⟨_, ((t765 != t767)), (by first | rfl | (simp; done) | (simp [*]; done) | (simp [bne_nil]; done)), H', ⟨by first | omega | exact Nat.le_refl _⟩, ⟨by (with_reducible repeat (first | apply boxes_drewN | apply boxes_drew | apply boxes_alloc)); exact BX.out⟩, ⟨by repeat (first | (with_reducible first | exact HB.out | apply below_alloc | apply pw_below_drewN | apply below_drew1 | refine below_set ?_ (Aside0.out (by assumption))) | exact HB.out)⟩⟩
      ·rw [if_neg c54] at H
       have c54b0 : (t764 == t766) = false := beq_eq_false_iff_ne.mpr c54
       have c54b1 : (t764 != t766) = true := bne_iff_ne.mpr c54
       exact (no_meet (g := fun k_ => whittlelaw1_NumMods.j0 k_ true a0_0 a0_1) HR.out H (by simp only [whittlelaw1_NumMods.j0]) (fun k_ => by simp only [whittlelaw1_NumMods.j0]; first | exact if_pos rfl | rfl | simp)).elim
 case rest =>
  clear HC10
  try clear c1
  try clear c2
  try clear p2
  try clear c3
  try clear c4
  try clear c5
  try clear c6
  try clear c7
  try clear c13
  try clear c16
  try clear c18
  try clear c19
  try clear c25
  try clear c26
  try clear c27
  try clear c32
  try clear c33
  try clear c34
  try clear c35
  try clear c40
  try clear c41
  try clear c42
  try clear c43
  try clear c44
  try clear c45
  try clear c49
  try clear c50
  try clear c50b0
  try clear c51
  try clear c51b0
  try clear c51b1
  try clear c51b2
  try clear c52
  try clear c52b0
  try clear c53
  try clear c53b0
  try clear c53b1
  try clear c53b2
  try clear c54
  try clear c54b0
  try clear c54b1
  try clear c55
  try clear c56
  try clear c57
  try clear c58
  try clear c59
  try clear c61
  try clear c62
  try clear c63
  try clear c64
  try clear c66
  try clear c67
  try clear c68
  try clear c70
  try clear c71
  try clear hcz14_0
  try clear hcz14_1
  try clear hcz15_0
  try clear hcz15_1
  try clear hcz20_0
  try clear hcz20_1
  try clear hcz21_0
  try clear hcz21_1
  try clear hcz22_0
  try clear hcz22_1
  try clear hcz28_0
  try clear hcz28_1
  try clear hcz29_0
  try clear hcz29_1
  try clear hcz36_0
  try clear hcz36_1
  try clear hcz37_0
  try clear hcz37_1
  try clear hcz45_0
  try clear hcz45_1
  try clear hcz46_0
  try clear hcz46_1
  try clear hcz48_0
  try clear hcz48_1
  try clear hcz60_0
  try clear hcz60_1
  try clear hcz65_0
  try clear hcz65_1
  try clear hcz69_0
  try clear hcz69_1
  try clear hcz72_0
  try clear hcz72_1
  try clear hfz14_0
  try clear hfz14_1
  try clear hfz15_0
  try clear hfz15_1
  try clear hfz20_0
  try clear hfz20_1
  try clear hfz21_0
  try clear hfz21_1
  try clear hfz22_0
  try clear hfz22_1
  try clear hfz28_0
  try clear hfz28_1
  try clear hfz29_0
  try clear hfz29_1
  try clear hfz36_0
  try clear hfz36_1
  try clear hfz37_0
  try clear hfz37_1
  try clear hfz45_0
  try clear hfz45_1
  try clear hfz46_0
  try clear hfz46_1
  try clear hfz48_0
  try clear hfz48_1
  try clear hfz60_0
  try clear hfz60_1
  try clear hfz65_0
  try clear hfz65_1
  try clear hfz69_0
  try clear hfz69_1
  try clear hfz72_0
  try clear hfz72_1
  obtain ⟨kq, x80_9, rfl, HA, HJ9, BX, HB⟩ := hcut
  cases kq with
  | zero => exact absurd HA.out (by simp [whittlelaw1_NumMods.j0])
  | succ kj9 =>
   have H := HA.out
   clear HA
   simp only [whittlelaw1_NumMods.j0] at H
   by_cases c73 : x80_9 = true
   ·subst c73
    have H1 : (some false) = some r := by rw [if_pos rfl] at H; exact H
    clear H
    have H := H1
    clear H1
    exact absurd (Option.some.inj H) (by rw [HR.out]; decide)
   ·replace c73 := Bool.eq_false_iff.mpr c73
    subst c73
    have H1 : ((whittlelaw1_able.f kj9).bind fun t768 => (if t768 = true then ((num_Neg.f kj9 a0_0 a0_1).bind fun bt769 => ((whittleref1_Neg.f kj9 a0_0 a0_1).bind fun bt771 => (if (bt769.1 == bt771.1 && (bt769.2 == bt771.2)) = true then ((num_Abs.f kj9 a0_0 a0_1).bind fun bt773 => ((whittleref1_Abs.f kj9 a0_0 a0_1).bind fun bt775 => (if (bt773.1 == bt775.1 && (bt773.2 == bt775.2)) = true then ((num_Floor.f kj9 a0_0 a0_1).bind fun bt777 => ((whittleref1_Floor.f kj9 a0_0 a0_1).bind fun bt779 => (some (bt777.1 == bt779.1 && (bt777.2 == bt779.2))))) else (some false)))) else (some false)))) else (some false))) = some r := by rw [if_neg (show ¬ (false = true) by decide)] at H; exact H
    clear H
    have H := H1
    clear H1
    replace H := Option.bind_eq_some_iff.mp H
    obtain ⟨t768, A740, H⟩ := H
    replace H : (if t768 = true then ((num_Neg.f kj9 a0_0 a0_1).bind fun bt769 => ((whittleref1_Neg.f kj9 a0_0 a0_1).bind fun bt771 => (if (bt769.1 == bt771.1 && (bt769.2 == bt771.2)) = true then ((num_Abs.f kj9 a0_0 a0_1).bind fun bt773 => ((whittleref1_Abs.f kj9 a0_0 a0_1).bind fun bt775 => (if (bt773.1 == bt775.1 && (bt773.2 == bt775.2)) = true then ((num_Floor.f kj9 a0_0 a0_1).bind fun bt777 => ((whittleref1_Floor.f kj9 a0_0 a0_1).bind fun bt779 => (some (bt777.1 == bt779.1 && (bt777.2 == bt779.2))))) else (some false)))) else (some false)))) else (some false)) = some r := H
    have A74 := Aside0.mk A740
    clear A740
    by_cases c75 : t768 = true
    ·subst c75
     have H1 : ((num_Neg.f kj9 a0_0 a0_1).bind fun bt769 => ((whittleref1_Neg.f kj9 a0_0 a0_1).bind fun bt771 => (if (bt769.1 == bt771.1 && (bt769.2 == bt771.2)) = true then ((num_Abs.f kj9 a0_0 a0_1).bind fun bt773 => ((whittleref1_Abs.f kj9 a0_0 a0_1).bind fun bt775 => (if (bt773.1 == bt775.1 && (bt773.2 == bt775.2)) = true then ((num_Floor.f kj9 a0_0 a0_1).bind fun bt777 => ((whittleref1_Floor.f kj9 a0_0 a0_1).bind fun bt779 => (some (bt777.1 == bt779.1 && (bt777.2 == bt779.2))))) else (some false)))) else (some false)))) = some r := by rw [if_pos rfl] at H; exact H
     clear H
     have H := H1
     clear H1
     replace H := Option.bind_eq_some_iff.mp H
     obtain ⟨⟨t769, t770⟩, A760, H⟩ := H
     have A76 := Aside0.mk A760
     clear A760
     replace H := Option.bind_eq_some_iff.mp H
     obtain ⟨⟨t771, t772⟩, A770, H⟩ := H
     replace H : (if (t769 == t771 && (t770 == t772)) = true then ((num_Abs.f kj9 a0_0 a0_1).bind fun bt773 => ((whittleref1_Abs.f kj9 a0_0 a0_1).bind fun bt775 => (if (bt773.1 == bt775.1 && (bt773.2 == bt775.2)) = true then ((num_Floor.f kj9 a0_0 a0_1).bind fun bt777 => ((whittleref1_Floor.f kj9 a0_0 a0_1).bind fun bt779 => (some (bt777.1 == bt779.1 && (bt777.2 == bt779.2))))) else (some false)))) else (some false)) = some r := H
     have A77 := Aside0.mk A770
     clear A770
     by_cases c78 : (t769 == t771 && (t770 == t772)) = true
     ·rw [if_pos c78] at H
      have c78b0 : (t769 == t771 && (t770 == t772)) = true := c78
      (try (have c78b1 : decide (t769 = t771 && (t770 == t772)) = true := by simpa using c78))
      (try (have c78b2 : (t769 == t771 && (t770 == t772)) = true := by simpa using c78))
      clear c78
      replace H := Option.bind_eq_some_iff.mp H
      obtain ⟨⟨t773, t774⟩, A790, H⟩ := H
      have A79 := Aside0.mk A790
      clear A790
      replace H := Option.bind_eq_some_iff.mp H
      obtain ⟨⟨t775, t776⟩, A800, H⟩ := H
      replace H : (if (t773 == t775 && (t774 == t776)) = true then ((num_Floor.f kj9 a0_0 a0_1).bind fun bt777 => ((whittleref1_Floor.f kj9 a0_0 a0_1).bind fun bt779 => (some (bt777.1 == bt779.1 && (bt777.2 == bt779.2))))) else (some false)) = some r := H
      have A80 := Aside0.mk A800
      clear A800
      by_cases c81 : (t773 == t775 && (t774 == t776)) = true
      ·rw [if_pos c81] at H
       have c81b0 : (t773 == t775 && (t774 == t776)) = true := c81
       (try (have c81b1 : decide (t773 = t775 && (t774 == t776)) = true := by simpa using c81))
       (try (have c81b2 : (t773 == t775 && (t774 == t776)) = true := by simpa using c81))
       clear c81
       replace H := Option.bind_eq_some_iff.mp H
       obtain ⟨⟨t777, t778⟩, A820, H⟩ := H
       have A82 := Aside0.mk A820
       clear A820
       replace H := Option.bind_eq_some_iff.mp H
       obtain ⟨⟨t779, t780⟩, A830, H⟩ := H
       replace H : (some (t777 == t779 && (t778 == t780))) = some r := H
       have A83 := Aside0.mk A830
       clear A830
       clear HR
       obtain rfl := Option.some.inj H
       try go_wp2
       have n0_ := Aside0.mk (boxes_drew BX.out)
       have n1_ := Aside0.mk (below_drew1 HB.out)
       clear BX HB
       have BX := n0_
       have HB := n1_
       clear n0_ n1_
       refine start_ (n := 23) (S := fun w' => w'.cell? ⟨gb746, 0, none⟩ = some (.int .i64 a0_0) ∧ w'.cell? ⟨gb746, 1, none⟩ = some (.int .i64 a0_1)) (ds := []) #[false, false, false, false, false, false, false, false, false, false, false, false, false, false, false, false, false, false, false, false, false, false, false] (by kernel_rfl) rfl rfl ⟨(blk_cell (BX.out.get 5 rfl) 0).trans rfl, (blk_cell (BX.out.get 5 rfl) 1).trans rfl⟩ (fun hHeld => ?_); refine with_tabW whittlelaw1_NumMods.tab9 whittlelaw1_NumMods.bits9 (fun HT_ HW_ => ?_)
       generalize wc.drew = w84 at BX HB hHeld ⊢
       refine one_ (i := 0) (N := some 81) #[true, false, false, false, false, false, false, false, false, false, false, false, false, false, false, false, false, false, false, false, false, false, false] rfl rfl (one_of HT_.out (by kernel_rfl)) (by decide) (fun K hK => ?_)
       refine goes_ Tryd.func22 (by kernel_rfl) rfl #[] (by rfl) rfl rfl (by (try simp only [List.map_toArray, List.map_cons, List.map_nil]); first | done | rfl | (simp only [List.length_drop, List.length_take]; rfl)) ?_
       with_reducible refine (whittlelaw1_able.calls kj9  true _ ?side1 A74.out).mono ?_
       (case side1 => exact HT.out.on (by repeat (first | (with_reducible first | exact HB.out | apply below_alloc | apply pw_below_drewN | apply below_drew1 | refine below_set ?_ (Aside0.out (by assumption))) | exact HB.out)))
       rintro e w85 ⟨rfl, hb⟩
       refine ⟨_, rfl, ?_⟩
       have n0_ := Aside0.mk (Boxes.below (by (with_reducible repeat (first | apply boxes_drewN | apply boxes_drew | apply boxes_alloc)); exact BX.out) hb)
       have n1_ := Aside0.mk (below_step (by repeat (first | (with_reducible first | exact HB.out | apply below_alloc | apply pw_below_drewN | apply below_drew1 | refine below_set ?_ (Aside0.out (by assumption))) | exact HB.out)) hb)
       clear BX HB
       have BX := n0_
       have HB := n1_
       clear n0_ n1_
       (try clear hb)
       (try clear hb2)
       (try clear hk)
       (try clear hi)
       refine hK.out _ _ ⟨(blk_cell (BX.out.get 5 rfl) 0).trans rfl, (blk_cell (BX.out.get 5 rfl) 1).trans rfl⟩ (fun hHeld => ?_)
       clear hK K
       refine norm_ (a' := ?_) ?_ ?_
       rotate_left
       ·show Act.put _ (some 81) _ = _
        simp only [Act.put, List.setIfInBounds_toArray, List.set_cons_zero, List.set_cons_succ, i64_w, i32_w]
        rfl
       refine pure_ (i := 1) (N := some 82) (v := ?_) (a' := ?_) #[true, true, false, false, false, false, false, false, false, false, false, false, false, false, false, false, false, false, false, false, false, false, false] rfl rfl (any_of HT_.out (by kernel_rfl)) (fun _ _ _ h => h) (Or.inl ⟨by rfl, ?_⟩) ?_ ?_
       rotate_left
       ·intro w'
        go_simp
        with_reducible rfl
       rotate_left
       ·simp only [Act.put, List.setIfInBounds_toArray, List.set_cons_zero, List.set_cons_succ, i64_w, i32_w]
        rfl
       refine take_ (i := 2) (N := some 83) (v := ?_) (a' := ?_) #[true, true, true, false, false, false, false, false, false, false, false, false, false, false, false, false, false, false, false, false, false, false, false] rfl rfl (take_ofW HT_.out HW_.out (by kernel_rfl)) (fun _ _ _ h => h) (Or.inl ⟨by rfl, ?_⟩) hHeld ?_ ?_
       rotate_left
       ·rintro w' ⟨s0, s1⟩
        go_simp
        with_reducible rfl
       rotate_left
       ·simp only [Act.put, List.setIfInBounds_toArray, List.set_cons_zero, List.set_cons_succ, i64_w, i32_w]
        rfl
       refine take_ (i := 4) (N := some 85) (v := ?_) (a' := ?_) #[true, true, true, false, true, false, false, false, false, false, false, false, false, false, false, false, false, false, false, false, false, false, false] rfl rfl (take_ofW HT_.out HW_.out (by kernel_rfl)) (fun _ _ _ h => h) (Or.inl ⟨by rfl, ?_⟩) hHeld ?_ ?_
       rotate_left
       ·rintro w' ⟨s0, s1⟩
        go_simp
        with_reducible rfl
       rotate_left
       ·simp only [Act.put, List.setIfInBounds_toArray, List.set_cons_zero, List.set_cons_succ, i64_w, i32_w]
        rfl
       refine one_ (i := 3) (N := some 84) #[true, true, true, true, true, false, false, false, false, false, false, false, false, false, false, false, false, false, false, false, false, false, false] rfl rfl (one_of HT_.out (by kernel_rfl)) (by decide) (fun K hK => ?_)
       refine goes_ Tryd.func46 (by kernel_rfl) rfl #[.agg #[.int .i64 a0_0, .int .i64 a0_1]] (by rfl) rfl rfl (by (try simp only [List.map_toArray, List.map_cons, List.map_nil]); first | done | rfl | (simp only [List.length_drop, List.length_take]; rfl)) ?_
       with_reducible refine (num_Neg.calls kj9 a0_0 a0_1 t769 t770 _ A76.out).mono ?_
       rintro e w86 ⟨rfl, hb⟩
       refine ⟨_, rfl, ?_⟩
       have n0_ := Aside0.mk (Boxes.below (by (with_reducible repeat (first | apply boxes_drewN | apply boxes_drew | apply boxes_alloc)); exact BX.out) hb)
       have n1_ := Aside0.mk (below_step (by repeat (first | (with_reducible first | exact HB.out | apply below_alloc | apply pw_below_drewN | apply below_drew1 | refine below_set ?_ (Aside0.out (by assumption))) | exact HB.out)) hb)
       clear BX HB
       have BX := n0_
       have HB := n1_
       clear n0_ n1_
       (try clear hb)
       (try clear hb2)
       (try clear hk)
       (try clear hi)
       refine hK.out _ _ ⟨(blk_cell (BX.out.get 5 rfl) 0).trans rfl, (blk_cell (BX.out.get 5 rfl) 1).trans rfl⟩ (fun hHeld => ?_)
       clear hK K
       refine norm_ (a' := ?_) ?_ ?_
       rotate_left
       ·show Act.put _ (some 84) _ = _
        simp only [Act.put, List.setIfInBounds_toArray, List.set_cons_zero, List.set_cons_succ, i64_w, i32_w]
        rfl
       refine one_ (i := 5) (N := some 86) #[true, true, true, true, true, true, false, false, false, false, false, false, false, false, false, false, false, false, false, false, false, false, false] rfl rfl (one_of HT_.out (by kernel_rfl)) (by decide) (fun K hK => ?_)
       refine goes_ Tryd.func54 (by kernel_rfl) rfl #[.agg #[.int .i64 a0_0, .int .i64 a0_1]] (by rfl) rfl rfl (by (try simp only [List.map_toArray, List.map_cons, List.map_nil]); first | done | rfl | (simp only [List.length_drop, List.length_take]; rfl)) ?_
       with_reducible refine (whittleref1_Neg.calls kj9 a0_0 a0_1 t771 t772 _ A77.out).mono ?_
       rintro e w87 ⟨rfl, hb⟩
       refine ⟨_, rfl, ?_⟩
       have n0_ := Aside0.mk (Boxes.below (by (with_reducible repeat (first | apply boxes_drewN | apply boxes_drew | apply boxes_alloc)); exact BX.out) hb)
       have n1_ := Aside0.mk (below_step (by repeat (first | (with_reducible first | exact HB.out | apply below_alloc | apply pw_below_drewN | apply below_drew1 | refine below_set ?_ (Aside0.out (by assumption))) | exact HB.out)) hb)
       clear BX HB
       have BX := n0_
       have HB := n1_
       clear n0_ n1_
       (try clear hb)
       (try clear hb2)
       (try clear hk)
       (try clear hi)
       refine hK.out _ _ ⟨(blk_cell (BX.out.get 5 rfl) 0).trans rfl, (blk_cell (BX.out.get 5 rfl) 1).trans rfl⟩ (fun hHeld => ?_)
       clear hK K
       refine norm_ (a' := ?_) ?_ ?_
       rotate_left
       ·show Act.put _ (some 86) _ = _
        simp only [Act.put, List.setIfInBounds_toArray, List.set_cons_zero, List.set_cons_succ, i64_w, i32_w]
        rfl
       refine pure_ (i := 6) (N := some 87) (v := ?_) (a' := ?_) #[true, true, true, true, true, true, true, false, false, false, false, false, false, false, false, false, false, false, false, false, false, false, false] rfl rfl (any_of HT_.out (by kernel_rfl)) (fun _ _ _ h => h) (Or.inl ⟨by rfl, ?_⟩) ?_ ?_
       rotate_left
       ·intro w'
        go_simp
        with_reducible rfl
       rotate_left
       ·simp only [Act.put, List.setIfInBounds_toArray, List.set_cons_zero, List.set_cons_succ, i64_w, i32_w]
        rfl
       refine pure_ (i := 7) (N := some 88) (v := ?_) (a' := ?_) #[true, true, true, true, true, true, true, true, false, false, false, false, false, false, false, false, false, false, false, false, false, false, false] rfl rfl (any_of HT_.out (by kernel_rfl)) (fun _ _ _ h => h) (Or.inl ⟨by rfl, ?_⟩) ?_ ?_
       rotate_left
       ·intro w'
        go_simp
        with_reducible rfl
       rotate_left
       ·simp only [Act.put, List.setIfInBounds_toArray, List.set_cons_zero, List.set_cons_succ, i64_w, i32_w]
        rfl
       refine pure_ (i := 8) (N := some 89) (v := ?_) (a' := ?_) #[true, true, true, true, true, true, true, true, true, false, false, false, false, false, false, false, false, false, false, false, false, false, false] rfl rfl (any_of HT_.out (by kernel_rfl)) (fun _ _ _ h => h) (Or.inl ⟨by rfl, ?_⟩) ?_ ?_
       rotate_left
       ·intro w'
        go_simp
        with_reducible rfl
       rotate_left
       ·simp only [Act.put, List.setIfInBounds_toArray, List.set_cons_zero, List.set_cons_succ, i64_w, i32_w]
        rfl
       refine take_ (i := 9) (N := some 90) (v := ?_) (a' := ?_) #[true, true, true, true, true, true, true, true, true, true, false, false, false, false, false, false, false, false, false, false, false, false, false] rfl rfl (take_ofW HT_.out HW_.out (by kernel_rfl)) (fun _ _ _ h => h) (Or.inl ⟨by rfl, ?_⟩) hHeld ?_ ?_
       rotate_left
       ·rintro w' ⟨s0, s1⟩
        go_simp
        with_reducible rfl
       rotate_left
       ·simp only [Act.put, List.setIfInBounds_toArray, List.set_cons_zero, List.set_cons_succ, i64_w, i32_w]
        rfl
       refine take_ (i := 11) (N := some 92) (v := ?_) (a' := ?_) #[true, true, true, true, true, true, true, true, true, true, false, true, false, false, false, false, false, false, false, false, false, false, false] rfl rfl (take_ofW HT_.out HW_.out (by kernel_rfl)) (fun _ _ _ h => h) (Or.inl ⟨by rfl, ?_⟩) hHeld ?_ ?_
       rotate_left
       ·rintro w' ⟨s0, s1⟩
        go_simp
        with_reducible rfl
       rotate_left
       ·simp only [Act.put, List.setIfInBounds_toArray, List.set_cons_zero, List.set_cons_succ, i64_w, i32_w]
        rfl
       refine one_ (i := 10) (N := some 91) #[true, true, true, true, true, true, true, true, true, true, true, true, false, false, false, false, false, false, false, false, false, false, false] rfl rfl (one_of HT_.out (by kernel_rfl)) (by decide) (fun K hK => ?_)
       refine goes_ Tryd.func55 (by kernel_rfl) rfl #[.agg #[.int .i64 a0_0, .int .i64 a0_1]] (by rfl) rfl rfl (by (try simp only [List.map_toArray, List.map_cons, List.map_nil]); first | done | rfl | (simp only [List.length_drop, List.length_take]; rfl)) ?_
       with_reducible refine (num_Abs.calls kj9 a0_0 a0_1 t773 t774 _ A79.out).mono ?_
       rintro e w88 ⟨rfl, hb⟩
       refine ⟨_, rfl, ?_⟩
       have n0_ := Aside0.mk (Boxes.below (by (with_reducible repeat (first | apply boxes_drewN | apply boxes_drew | apply boxes_alloc)); exact BX.out) hb)
       have n1_ := Aside0.mk (below_step (by repeat (first | (with_reducible first | exact HB.out | apply below_alloc | apply pw_below_drewN | apply below_drew1 | refine below_set ?_ (Aside0.out (by assumption))) | exact HB.out)) hb)
       clear BX HB
       have BX := n0_
       have HB := n1_
       clear n0_ n1_
       (try clear hb)
       (try clear hb2)
       (try clear hk)
       (try clear hi)
       refine hK.out _ _ ⟨(blk_cell (BX.out.get 5 rfl) 0).trans rfl, (blk_cell (BX.out.get 5 rfl) 1).trans rfl⟩ (fun hHeld => ?_)
       clear hK K
       refine norm_ (a' := ?_) ?_ ?_
       rotate_left
       ·show Act.put _ (some 91) _ = _
        simp only [Act.put, List.setIfInBounds_toArray, List.set_cons_zero, List.set_cons_succ, i64_w, i32_w]
        rfl
       refine one_ (i := 12) (N := some 93) #[true, true, true, true, true, true, true, true, true, true, true, true, true, false, false, false, false, false, false, false, false, false, false] rfl rfl (one_of HT_.out (by kernel_rfl)) (by decide) (fun K hK => ?_)
       refine goes_ Tryd.func56 (by kernel_rfl) rfl #[.agg #[.int .i64 a0_0, .int .i64 a0_1]] (by rfl) rfl rfl (by (try simp only [List.map_toArray, List.map_cons, List.map_nil]); first | done | rfl | (simp only [List.length_drop, List.length_take]; rfl)) ?_
       with_reducible refine (whittleref1_Abs.calls kj9 a0_0 a0_1 t775 t776 _ A80.out).mono ?_
       rintro e w89 ⟨rfl, hb⟩
       refine ⟨_, rfl, ?_⟩
       have n0_ := Aside0.mk (Boxes.below (by (with_reducible repeat (first | apply boxes_drewN | apply boxes_drew | apply boxes_alloc)); exact BX.out) hb)
       have n1_ := Aside0.mk (below_step (by repeat (first | (with_reducible first | exact HB.out | apply below_alloc | apply pw_below_drewN | apply below_drew1 | refine below_set ?_ (Aside0.out (by assumption))) | exact HB.out)) hb)
       clear BX HB
       have BX := n0_
       have HB := n1_
       clear n0_ n1_
       (try clear hb)
       (try clear hb2)
       (try clear hk)
       (try clear hi)
       refine hK.out _ _ ⟨(blk_cell (BX.out.get 5 rfl) 0).trans rfl, (blk_cell (BX.out.get 5 rfl) 1).trans rfl⟩ (fun hHeld => ?_)
       clear hK K
       refine norm_ (a' := ?_) ?_ ?_
       rotate_left
       ·show Act.put _ (some 93) _ = _
        simp only [Act.put, List.setIfInBounds_toArray, List.set_cons_zero, List.set_cons_succ, i64_w, i32_w]
        rfl
       refine pure_ (i := 13) (N := some 94) (v := ?_) (a' := ?_) #[true, true, true, true, true, true, true, true, true, true, true, true, true, true, false, false, false, false, false, false, false, false, false] rfl rfl (any_of HT_.out (by kernel_rfl)) (fun _ _ _ h => h) (Or.inl ⟨by rfl, ?_⟩) ?_ ?_
       rotate_left
       ·intro w'
        go_simp
        with_reducible rfl
       rotate_left
       ·simp only [Act.put, List.setIfInBounds_toArray, List.set_cons_zero, List.set_cons_succ, i64_w, i32_w]
        rfl
       refine pure_ (i := 14) (N := some 95) (v := ?_) (a' := ?_) #[true, true, true, true, true, true, true, true, true, true, true, true, true, true, true, false, false, false, false, false, false, false, false] rfl rfl (any_of HT_.out (by kernel_rfl)) (fun _ _ _ h => h) (Or.inl ⟨by rfl, ?_⟩) ?_ ?_
       rotate_left
       ·intro w'
        go_simp
        with_reducible rfl
       rotate_left
       ·simp only [Act.put, List.setIfInBounds_toArray, List.set_cons_zero, List.set_cons_succ, i64_w, i32_w]
        rfl
       refine pure_ (i := 15) (N := some 96) (v := ?_) (a' := ?_) #[true, true, true, true, true, true, true, true, true, true, true, true, true, true, true, true, false, false, false, false, false, false, false] rfl rfl (any_of HT_.out (by kernel_rfl)) (fun _ _ _ h => h) (Or.inl ⟨by rfl, ?_⟩) ?_ ?_
       rotate_left
       ·intro w'
        go_simp
        with_reducible rfl
       rotate_left
       ·simp only [Act.put, List.setIfInBounds_toArray, List.set_cons_zero, List.set_cons_succ, i64_w, i32_w]
        rfl
       refine take_ (i := 16) (N := some 97) (v := ?_) (a' := ?_) #[true, true, true, true, true, true, true, true, true, true, true, true, true, true, true, true, true, false, false, false, false, false, false] rfl rfl (take_ofW HT_.out HW_.out (by kernel_rfl)) (fun _ _ _ h => h) (Or.inl ⟨by rfl, ?_⟩) hHeld ?_ ?_
       rotate_left
       ·rintro w' ⟨s0, s1⟩
        go_simp
        with_reducible rfl
       rotate_left
       ·simp only [Act.put, List.setIfInBounds_toArray, List.set_cons_zero, List.set_cons_succ, i64_w, i32_w]
        rfl
       refine take_ (i := 18) (N := some 99) (v := ?_) (a' := ?_) #[true, true, true, true, true, true, true, true, true, true, true, true, true, true, true, true, true, false, true, false, false, false, false] rfl rfl (take_ofW HT_.out HW_.out (by kernel_rfl)) (fun _ _ _ h => h) (Or.inl ⟨by rfl, ?_⟩) hHeld ?_ ?_
       rotate_left
       ·rintro w' ⟨s0, s1⟩
        go_simp
        with_reducible rfl
       rotate_left
       ·simp only [Act.put, List.setIfInBounds_toArray, List.set_cons_zero, List.set_cons_succ, i64_w, i32_w]
        rfl
       refine one_ (i := 17) (N := some 98) #[true, true, true, true, true, true, true, true, true, true, true, true, true, true, true, true, true, true, true, false, false, false, false] rfl rfl (one_of HT_.out (by kernel_rfl)) (by decide) (fun K hK => ?_)
       refine goes_ Tryd.func47 (by kernel_rfl) rfl #[.agg #[.int .i64 a0_0, .int .i64 a0_1]] (by rfl) rfl rfl (by (try simp only [List.map_toArray, List.map_cons, List.map_nil]); first | done | rfl | (simp only [List.length_drop, List.length_take]; rfl)) ?_
       with_reducible refine (num_Floor.calls kj9 a0_0 a0_1 t777 t778 _ A82.out).mono ?_
       rintro e w90 ⟨rfl, hb⟩
       refine ⟨_, rfl, ?_⟩
       have n0_ := Aside0.mk (Boxes.below (by (with_reducible repeat (first | apply boxes_drewN | apply boxes_drew | apply boxes_alloc)); exact BX.out) hb)
       have n1_ := Aside0.mk (below_step (by repeat (first | (with_reducible first | exact HB.out | apply below_alloc | apply pw_below_drewN | apply below_drew1 | refine below_set ?_ (Aside0.out (by assumption))) | exact HB.out)) hb)
       clear BX HB
       have BX := n0_
       have HB := n1_
       clear n0_ n1_
       (try clear hb)
       (try clear hb2)
       (try clear hk)
       (try clear hi)
       refine hK.out _ _ ⟨(blk_cell (BX.out.get 5 rfl) 0).trans rfl, (blk_cell (BX.out.get 5 rfl) 1).trans rfl⟩ (fun hHeld => ?_)
       clear hK K
       refine norm_ (a' := ?_) ?_ ?_
       rotate_left
       ·show Act.put _ (some 98) _ = _
        simp only [Act.put, List.setIfInBounds_toArray, List.set_cons_zero, List.set_cons_succ, i64_w, i32_w]
        rfl
       refine one_ (i := 19) (N := some 100) #[true, true, true, true, true, true, true, true, true, true, true, true, true, true, true, true, true, true, true, true, false, false, false] rfl rfl (one_of HT_.out (by kernel_rfl)) (by decide) (fun K hK => ?_)
       refine goes_ Tryd.func57 (by kernel_rfl) rfl #[.agg #[.int .i64 a0_0, .int .i64 a0_1]] (by rfl) rfl rfl (by (try simp only [List.map_toArray, List.map_cons, List.map_nil]); first | done | rfl | (simp only [List.length_drop, List.length_take]; rfl)) ?_
       with_reducible refine (whittleref1_Floor.calls kj9 a0_0 a0_1 t779 t780 _ A83.out).mono ?_
       rintro e w91 ⟨rfl, hb⟩
       refine ⟨_, rfl, ?_⟩
       have n0_ := Aside0.mk (Boxes.below (by (with_reducible repeat (first | apply boxes_drewN | apply boxes_drew | apply boxes_alloc)); exact BX.out) hb)
       have n1_ := Aside0.mk (below_step (by repeat (first | (with_reducible first | exact HB.out | apply below_alloc | apply pw_below_drewN | apply below_drew1 | refine below_set ?_ (Aside0.out (by assumption))) | exact HB.out)) hb)
       clear BX HB
       have BX := n0_
       have HB := n1_
       clear n0_ n1_
       (try clear hb)
       (try clear hb2)
       (try clear hk)
       (try clear hi)
       refine hK.out _ _ ⟨(blk_cell (BX.out.get 5 rfl) 0).trans rfl, (blk_cell (BX.out.get 5 rfl) 1).trans rfl⟩ (fun hHeld => ?_)
       clear hK K
       refine norm_ (a' := ?_) ?_ ?_
       rotate_left
       ·show Act.put _ (some 100) _ = _
        simp only [Act.put, List.setIfInBounds_toArray, List.set_cons_zero, List.set_cons_succ, i64_w, i32_w]
        rfl
       refine pure_ (i := 20) (N := some 101) (v := ?_) (a' := ?_) #[true, true, true, true, true, true, true, true, true, true, true, true, true, true, true, true, true, true, true, true, true, false, false] rfl rfl (any_of HT_.out (by kernel_rfl)) (fun _ _ _ h => h) (Or.inl ⟨by rfl, ?_⟩) ?_ ?_
       rotate_left
       ·intro w'
        go_simp
        with_reducible rfl
       rotate_left
       ·simp only [Act.put, List.setIfInBounds_toArray, List.set_cons_zero, List.set_cons_succ, i64_w, i32_w]
        rfl
       refine pure_ (i := 21) (N := some 102) (v := ?_) (a' := ?_) #[true, true, true, true, true, true, true, true, true, true, true, true, true, true, true, true, true, true, true, true, true, true, false] rfl rfl (any_of HT_.out (by kernel_rfl)) (fun _ _ _ h => h) (Or.inl ⟨by rfl, ?_⟩) ?_ ?_
       rotate_left
       ·intro w'
        go_simp
        with_reducible rfl
       rotate_left
       ·simp only [Act.put, List.setIfInBounds_toArray, List.set_cons_zero, List.set_cons_succ, i64_w, i32_w]
        rfl
       refine pure_ (i := 22) (N := some 6) (v := ?_) (a' := ?_) #[true, true, true, true, true, true, true, true, true, true, true, true, true, true, true, true, true, true, true, true, true, true, true] rfl rfl (any_of HT_.out (by kernel_rfl)) (fun _ _ _ h => h) (Or.inl ⟨by rfl, ?_⟩) ?_ ?_
       rotate_left
       ·intro w'
        go_simp
        with_reducible rfl
       rotate_left
       ·simp only [Act.put, List.setIfInBounds_toArray, List.set_cons_zero, List.set_cons_succ, i64_w, i32_w]
        rfl
       refine done_ (done_of HT_.out (by kernel_rfl)) ?_
       try go_wp2
       go_ret
       exact ⟨by first | rfl | (simp [errW_none, errW_some] <;> rfl) | (simp [*, errW_none, errW_some] <;> rfl), by repeat (first | (with_reducible first | exact HB.out | apply below_alloc | apply pw_below_drewN | apply below_drew1 | refine below_set ?_ (Aside0.out (by assumption))) | exact HB.out)⟩
      ·rw [if_neg c81] at H
       have c81b0 : (t773 == t775 && (t774 == t776)) = false := by simpa using c81
       (try (have c81b1 : decide (t773 = t775 && (t774 == t776)) = false := by simpa using c81))
       (try (have c81b2 : (t773 == t775 && (t774 == t776)) = false := by simpa using c81))
       (try (have c81b3 : ¬ (t773 = t775 && (t774 == t776)) := by simpa using c81))
       clear c81
       exact absurd (Option.some.inj H) (by rw [HR.out]; decide)
     ·rw [if_neg c78] at H
      have c78b0 : (t769 == t771 && (t770 == t772)) = false := by simpa using c78
      (try (have c78b1 : decide (t769 = t771 && (t770 == t772)) = false := by simpa using c78))
      (try (have c78b2 : (t769 == t771 && (t770 == t772)) = false := by simpa using c78))
      (try (have c78b3 : ¬ (t769 = t771 && (t770 == t772)) := by simpa using c78))
      clear c78
      exact absurd (Option.some.inj H) (by rw [HR.out]; decide)
    ·replace c75 := Bool.eq_false_iff.mpr c75
     subst c75
     have H1 : (some false) = some r := by rw [if_neg (show ¬ (false = true) by decide)] at H; exact H
     clear H
     have H := H1
     clear H1
     exact absurd (Option.some.inj H) (by rw [HR.out]; decide)

end Go.Proofs.YtlcjfabbnclalaaDoor.F
