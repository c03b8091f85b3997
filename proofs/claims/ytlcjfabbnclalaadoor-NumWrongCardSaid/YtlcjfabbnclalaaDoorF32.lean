-- Laid by program (wip/tools/gen.sh of this repo) out of the translation; Lean checks it.
import Derived.Test.YtlcjfabbnclalaaDoorF0
import Derived.Test.YtlcjfabbnclalaaDoorB0
import Derived.Test.YtlcjfabbnclalaaDoorF2
import Derived.Test.YtlcjfabbnclalaaDoorF8
namespace Go.Proofs.YtlcjfabbnclalaaDoor.F
open Go.RowKit Go.Proofs.YtlcjfabbnclalaaDoorW.PrintWords Go.Proofs.YtlcjfabbnclalaaDoorW.PrintLast Go.Proofs.YtlcjfabbnclalaaDoorW.PrintMore
attribute [local go_sem] max2_int min2_int max_two min_two max_three min_three max_four min_four   -- for this text's walks alone
set_option linter.unusedVariables false
set_option linter.unusedSimpArgs false

/-! ### whittleref1_floored: function 75 -/
def whittleref1_floored.f (a0 : Int) (a1 : Int) : Option (Int) := if a1 = 0 then (none) else (if (wrap64 ((wrap64 (Int.tdiv a0 a1)) * a1)) > a0 then (some (wrap64 ((wrap64 (Int.tdiv a0 a1)) - 1))) else (some (wrap64 (Int.tdiv a0 a1))))
set_option maxHeartbeats 8000000 in
set_option maxRecDepth 100000 in
theorem whittleref1_floored.calls (a0 : Int) (a1 : Int) (r : Int) (w : World) (h : whittleref1_floored.f a0 a1 = some r) :
  Calls Tryd.prog 75 #[.int .i64 a0, .int .i64 a1] w fun e w' => e = .returned (.int .i64 r) ∧ Drawn0 w w' := by
 have H : (if a1 = 0 then (none) else (if (wrap64 ((wrap64 (Int.tdiv a0 a1)) * a1)) > a0 then (some (wrap64 ((wrap64 (Int.tdiv a0 a1)) - 1))) else (some (wrap64 (Int.tdiv a0 a1))))) = some r := h
 clear h
 by_cases c3 : a1 = 0
 ·rw [if_pos c3] at H
  exact absurd H (by simp)
 ·rw [if_neg c3] at H
  have c3b0 : (a1 == 0) = false := beq_eq_false_iff_ne.mpr c3
  have c3b1 : (a1 != 0) = true := bne_iff_ne.mpr c3
  by_cases c4 : (wrap64 ((wrap64 (Int.tdiv a0 a1)) * a1)) > a0
  ·rw [if_pos c4] at H
   have c4b0 : decide (a0 < (wrap64 ((wrap64 (Int.tdiv a0 a1)) * a1))) = true := decide_eq_true c4
   clear c4
   obtain rfl := Option.some.inj H
   go_enter Tryd.func75, Tryd.ntmps75
   go_wp2
   go_ret
   exact ⟨by first | rfl | (simp; done) | (simp [*]; done) | (simp [bne_nil]; done), by repeat (first | exact Drawn0.refl _ | apply Drawn0.step)⟩
  ·rw [if_neg c4] at H
   have c4b0 : decide (a0 < (wrap64 ((wrap64 (Int.tdiv a0 a1)) * a1))) = false := decide_eq_false c4
   clear c4
   obtain rfl := Option.some.inj H
   go_enter Tryd.func75, Tryd.ntmps75
   go_wp2
   go_ret
   exact ⟨by first | rfl | (simp; done) | (simp [*]; done) | (simp [bne_nil]; done), by repeat (first | exact Drawn0.refl _ | apply Drawn0.step)⟩

/-! ### whittleref1_Mod: function 50 -/
def whittleref1_Mod.j0 : Nat → Int → Int → Int → Int → Int → Int → Option (Int × Int × Bool)
 | 0, _, _, _, _, _, _ => none
 | k + 1, x6, x7, x695000, x695001, x696000, x696001 => (whittleref1_floored.f x6 x7).bind fun t701 => (if x696000 < 0 then ((whittleref1_Make.f k (wrap64 (-(wrap64 (x6 - (wrap64 (x7 * t701)))))) (wrap64 (x695001 * x696001))).bind fun bt702 => (some (bt702.1, bt702.2.1, bt702.2.2))) else ((whittleref1_Make.f k (wrap64 (x6 - (wrap64 (x7 * t701)))) (wrap64 (x695001 * x696001))).bind fun bt705 => (some (bt705.1, bt705.2.1, bt705.2.2))))
def whittleref1_Mod.f (k : Nat) (a0_0 : Int) (a0_1 : Int) (a1_0 : Int) (a1_1 : Int) : Option (Int × Int × Bool) := (whittleref1_Of.f k a0_0 a0_1).bind fun bt697 => ((whittleref1_Of.f k a1_0 a1_1).bind fun bt699 => (if bt699.1 = 0 then (some (0, 0, false)) else (if (wrap64 (bt699.1 * bt697.2)) < 0 then (whittleref1_Mod.j0 k (wrap64 (-(wrap64 (bt697.1 * bt699.2)))) (wrap64 (-(wrap64 (bt699.1 * bt697.2)))) bt697.1 bt697.2 bt699.1 bt699.2) else (whittleref1_Mod.j0 k (wrap64 (bt697.1 * bt699.2)) (wrap64 (bt699.1 * bt697.2)) bt697.1 bt697.2 bt699.1 bt699.2))))
theorem whittleref1_Mod.mono_l : ∀ k, (∀ y0 y1 y2 y3 y4 y5, LeO (whittleref1_Mod.j0 k y0 y1 y2 y3 y4 y5) (whittleref1_Mod.j0 (k + 1) y0 y1 y2 y3 y4 y5))
 | 0 => fun _ _ _ _ _ _ r h => by simp [whittleref1_Mod.j0] at h
 | k + 1 => by
  have ih0 := whittleref1_Mod.mono_l k
  ·intro y0 y1 y2 y3 y4 y5
   unfold whittleref1_Mod.j0
   repeat' first
   | (with_reducible exact ih0 _ _ _ _ _ _)
   | (with_reducible exact whittleref1_Make.mono _ _ _)
   | (with_reducible exact whittleref1_Of.mono _ _ _)
   | (with_reducible exact LeO.refl _)
   | (with_reducible exact LeO.none _)
   | (with_reducible refine LeO.ite ?_ ?_)
   | (with_reducible refine LeO.bind ?_ (fun _ => ?_))
   | exact ih0 _ _ _ _ _ _
   | exact whittleref1_Make.mono _ _ _
   | exact whittleref1_Of.mono _ _ _
   | exact LeO.none _
   | refine LeO.ite ?_ ?_
   | refine LeO.bind ?_ (fun _ => ?_)
theorem whittleref1_Mod.mono : ∀ a0 a1 a2 a3 k, LeO (whittleref1_Mod.f k a0 a1 a2 a3) (whittleref1_Mod.f (k + 1) a0 a1 a2 a3) := by
 intro a0 a1 a2 a3 k
 have ih0 := whittleref1_Mod.mono_l k
 unfold whittleref1_Mod.f
 repeat' first
   | (with_reducible exact ih0 _ _ _ _ _ _)
   | (with_reducible exact whittleref1_Make.mono _ _ _)
   | (with_reducible exact whittleref1_Of.mono _ _ _)
   | (with_reducible exact LeO.refl _)
   | (with_reducible exact LeO.none _)
   | (with_reducible refine LeO.ite ?_ ?_)
   | (with_reducible refine LeO.bind ?_ (fun _ => ?_))
   | exact ih0 _ _ _ _ _ _
   | exact whittleref1_Make.mono _ _ _
   | exact whittleref1_Of.mono _ _ _
   | exact LeO.none _
   | refine LeO.ite ?_ ?_
   | refine LeO.bind ?_ (fun _ => ?_)
set_option maxHeartbeats 8000000 in
set_option maxRecDepth 100000 in
theorem whittleref1_Mod.calls (k : Nat) (a0_0 : Int) (a0_1 : Int) (a1_0 : Int) (a1_1 : Int) (r1 : Int) (r2 : Int) (r3 : Bool) (w : World) (h : whittleref1_Mod.f k a0_0 a0_1 a1_0 a1_1 = some (r1, r2, r3)) :
  Calls Tryd.prog 50 #[.agg #[.int .i64 a0_0, .int .i64 a0_1], .agg #[.int .i64 a1_0, .int .i64 a1_1]] w fun e w' => e = .returned (.tuple #[.agg #[.int .i64 r1, .int .i64 r2], .bool r3]) ∧ Below w.heap.size w w' := by
 have hu23 := Tryd.underlying23
 have HB := Aside0.mk (Below.refl w.heap.size w)
 have H : ((whittleref1_Of.f k a0_0 a0_1).bind fun bt697 => ((whittleref1_Of.f k a1_0 a1_1).bind fun bt699 => (if bt699.1 = 0 then (some (0, 0, false)) else (if (wrap64 (bt699.1 * bt697.2)) < 0 then (whittleref1_Mod.j0 k (wrap64 (-(wrap64 (bt697.1 * bt699.2)))) (wrap64 (-(wrap64 (bt699.1 * bt697.2)))) bt697.1 bt697.2 bt699.1 bt699.2) else (whittleref1_Mod.j0 k (wrap64 (bt697.1 * bt699.2)) (wrap64 (bt699.1 * bt697.2)) bt697.1 bt697.2 bt699.1 bt699.2))))) = some (r1, r2, r3) := h
 clear h
 replace H := Option.bind_eq_some_iff.mp H
 obtain ⟨⟨t697, t698⟩, A30, H⟩ := H
 have A3 := Aside0.mk A30
 clear A30
 replace H := Option.bind_eq_some_iff.mp H
 obtain ⟨⟨t699, t700⟩, A40, H⟩ := H
 replace H : (if t699 = 0 then (some (0, 0, false)) else (if (wrap64 (t699 * t698)) < 0 then (whittleref1_Mod.j0 k (wrap64 (-(wrap64 (t697 * t700)))) (wrap64 (-(wrap64 (t699 * t698)))) t697 t698 t699 t700) else (whittleref1_Mod.j0 k (wrap64 (t697 * t700)) (wrap64 (t699 * t698)) t697 t698 t699 t700))) = some (r1, r2, r3) := H
 have A4 := Aside0.mk A40
 clear A40
 by_cases c5 : t699 = 0
 ·rw [if_pos c5] at H
  have c5b0 : (t699 == 0) = true := beq_iff_eq.mpr c5
  have c5b1 : (t699 != 0) = false := bne_eq_false_iff_eq.mpr c5
  clear c5
  simp only [Option.some.injEq, Prod.mk.injEq] at H
  obtain ⟨rfl, rfl, rfl⟩ := H
  go_enter Tryd.func50, Tryd.ntmps50
  go_wp2_with (first | ((with_reducible refine gate_dst (N := 2) rfl ?_); refine box_event ?hg (N := 2) ?hd (cs := #[.int .i64 a0_0, .int .i64 a0_1]) (t := 23) ?hr ?_; (case hd => rfl); (case hg => rfl); (case hr => first | (go_simp; done) | (go_simp; rfl)); intro gb694 hg w6 hbox hb; have n0_ := Aside0.mk (Boxes.new (b := w.heap.size) (L := []) trivial hg hbox hb (below_size (by repeat (first | (with_reducible first | exact HB.out | apply below_alloc | apply pw_below_drewN | apply below_drew1 | refine below_set ?_ (Aside0.out (by assumption))) | exact HB.out)))); have n1_ := Aside0.mk (below_step (by repeat (first | (with_reducible first | exact HB.out | apply below_alloc | apply pw_below_drewN | apply below_drew1 | refine below_set ?_ (Aside0.out (by assumption))) | exact HB.out)) hb); have n2_ := Aside0.mk ((by rw [hg]; exact (below_size (by repeat (first | (with_reducible first | exact HB.out | apply below_alloc | apply pw_below_drewN | apply below_drew1 | refine below_set ?_ (Aside0.out (by assumption))) | exact HB.out))) : w.heap.size ≤ gb694)); clear HB; have BX := n0_; have HB := n1_; have GE694 := n2_; clear n0_ n1_ n2_; clear hb hbox hg) | ((with_reducible refine gate_dst (N := 3) rfl ?_); refine box_event ?hg (N := 3) ?hd (cs := #[.int .i64 a1_0, .int .i64 a1_1]) (t := 23) ?hr ?_; (case hd => rfl); (case hg => rfl); (case hr => first | (go_simp; done) | (go_simp; rfl)); intro gb695 hg w7 hbox hb; have n0_ := Aside0.mk (Boxes.new (by (with_reducible repeat (first | apply boxes_drewN | apply boxes_drew | apply boxes_alloc)); exact BX.out) hg hbox hb (below_size (by repeat (first | (with_reducible first | exact HB.out | apply below_alloc | apply pw_below_drewN | apply below_drew1 | refine below_set ?_ (Aside0.out (by assumption))) | exact HB.out)))); have n1_ := Aside0.mk (below_step (by repeat (first | (with_reducible first | exact HB.out | apply below_alloc | apply pw_below_drewN | apply below_drew1 | refine below_set ?_ (Aside0.out (by assumption))) | exact HB.out)) hb); have n2_ := Aside0.mk ((by rw [hg]; exact (below_size (by repeat (first | (with_reducible first | exact HB.out | apply below_alloc | apply pw_below_drewN | apply below_drew1 | refine below_set ?_ (Aside0.out (by assumption))) | exact HB.out))) : w.heap.size ≤ gb695)); clear BX HB; have BX := n0_; have HB := n1_; have GE695 := n2_; clear n0_ n1_ n2_; clear hb hbox hg) | ((with_reducible refine gate_dst (N := 4) rfl ?_); refine box_event ?hg (N := 4) ?hd (cs := #[.int .i64 0, .int .i64 0]) (t := 23) ?hr ?_; (case hd => rfl); (case hg => rfl); (case hr => first | (go_simp; done) | (go_simp; rfl)); intro gb696 hg w8 hbox hb; have n0_ := Aside0.mk (Boxes.new (by (with_reducible repeat (first | apply boxes_drewN | apply boxes_drew | apply boxes_alloc)); exact BX.out) hg hbox hb (below_size (by repeat (first | (with_reducible first | exact HB.out | apply below_alloc | apply pw_below_drewN | apply below_drew1 | refine below_set ?_ (Aside0.out (by assumption))) | exact HB.out)))); have n1_ := Aside0.mk (below_step (by repeat (first | (with_reducible first | exact HB.out | apply below_alloc | apply pw_below_drewN | apply below_drew1 | refine below_set ?_ (Aside0.out (by assumption))) | exact HB.out)) hb); have n2_ := Aside0.mk ((by rw [hg]; exact (below_size (by repeat (first | (with_reducible first | exact HB.out | apply below_alloc | apply pw_below_drewN | apply below_drew1 | refine below_set ?_ (Aside0.out (by assumption))) | exact HB.out))) : w.heap.size ≤ gb696)); clear BX HB; have BX := n0_; have HB := n1_; have GE696 := n2_; clear n0_ n1_ n2_; clear hb hbox hg; obtain ⟨⟨hnb10, hnc10⟩, ⟨hnb9, hnc9⟩, -⟩ := BX.out.apart 2 rfl; have hcz11_0 : w8.cell? ⟨gb694, 0, none⟩ = some (.int .i64 a0_0) := (blk_cell (BX.out.get 2 rfl) 0).trans rfl; have hcz11_1 : w8.cell? ⟨gb694, 1, none⟩ = some (.int .i64 a0_1) := (blk_cell (BX.out.get 2 rfl) 1).trans rfl; have hfz11_0 := blk_frozen (BX.out.get 2 rfl) 0; have hfz11_1 := blk_frozen (BX.out.get 2 rfl) 1) | ((with_reducible refine gate_callee (f := 64) rfl ?_); refine goesL_ (some 10) rfl rfl Tryd.func64 (by kernel_rfl) rfl #[.agg #[.int .i64 a0_0, .int .i64 a0_1]] rfl (by (try simp only [List.map_toArray, List.map_cons, List.map_nil]); first | done | rfl | (simp only [List.length_drop, List.length_take]; rfl)) ?_; (with_reducible refine (whittleref1_Of.calls k a0_0 a0_1 t697 t698 _ A3.out).mono ?_); rintro e w12 ⟨rfl, hb⟩; refine ⟨_, rfl, ?_⟩; have n0_ := Aside0.mk (Boxes.below (by (with_reducible repeat (first | apply boxes_drewN | apply boxes_drew | apply boxes_alloc)); exact BX.out) hb); have n1_ := Aside0.mk (below_step (by repeat (first | (with_reducible first | exact HB.out | apply below_alloc | apply pw_below_drewN | apply below_drew1 | refine below_set ?_ (Aside0.out (by assumption))) | exact HB.out)) hb); clear BX HB; have BX := n0_; have HB := n1_; clear n0_ n1_; (try clear hb); (try clear hb2); (try clear hk); (try clear hi); have hcz13_0 : w12.cell? ⟨gb694, 0, none⟩ = some (.int .i64 a0_0) := (blk_cell (BX.out.get 2 rfl) 0).trans rfl; have hcz13_1 : w12.cell? ⟨gb694, 1, none⟩ = some (.int .i64 a0_1) := (blk_cell (BX.out.get 2 rfl) 1).trans rfl; have hfz13_0 := blk_frozen (BX.out.get 2 rfl) 0; have hfz13_1 := blk_frozen (BX.out.get 2 rfl) 1; obtain ⟨⟨hnc14, hnb14⟩, -⟩ := BX.out.apart 0 rfl; have hcz15_0 : w12.cell? ⟨gb695, 0, none⟩ = some (.int .i64 a1_0) := (blk_cell (BX.out.get 1 rfl) 0).trans rfl; have hcz15_1 : w12.cell? ⟨gb695, 1, none⟩ = some (.int .i64 a1_1) := (blk_cell (BX.out.get 1 rfl) 1).trans rfl; have hfz15_0 := blk_frozen (BX.out.get 1 rfl) 0; have hfz15_1 := blk_frozen (BX.out.get 1 rfl) 1) | ((with_reducible refine gate_callee (f := 64) rfl ?_); refine goesL_ (some 12) rfl rfl Tryd.func64 (by kernel_rfl) rfl #[.agg #[.int .i64 a1_0, .int .i64 a1_1]] rfl (by (try simp only [List.map_toArray, List.map_cons, List.map_nil]); first | done | rfl | (simp only [List.length_drop, List.length_take]; rfl)) ?_; (with_reducible refine (whittleref1_Of.calls k a1_0 a1_1 t699 t700 _ A4.out).mono ?_); rintro e w16 ⟨rfl, hb⟩; refine ⟨_, rfl, ?_⟩; have n0_ : Aside0 (Boxes w.heap.size _ (_ :: _ :: (gb694, 23, #[.int .i64 t697, .int .i64 t698]) :: _)) := ⟨Boxes.below (by (with_reducible repeat (first | apply boxes_drewN | apply boxes_drew | apply boxes_alloc)); apply boxes_put 2; (with_reducible repeat (first | apply boxes_drewN | apply boxes_drew | apply boxes_alloc)); apply boxes_put 2; (with_reducible repeat (first | apply boxes_drewN | apply boxes_drew | apply boxes_alloc)); exact BX.out; any_goals rfl) hb⟩; have n1_ := Aside0.mk (below_step (by repeat (first | (with_reducible first | exact HB.out | apply below_alloc | apply pw_below_drewN | apply below_drew1 | refine below_set ?_ (Aside0.out (by assumption))) | exact HB.out)) hb); clear BX HB; have BX := n0_; have HB := n1_; clear n0_ n1_; (try clear hb); (try clear hb2); (try clear hk); (try clear hi); have hcz17_0 : w16.cell? ⟨gb695, 0, none⟩ = some (.int .i64 a1_0) := (blk_cell (BX.out.get 1 rfl) 0).trans rfl; have hcz17_1 : w16.cell? ⟨gb695, 1, none⟩ = some (.int .i64 a1_1) := (blk_cell (BX.out.get 1 rfl) 1).trans rfl; have hfz17_0 := blk_frozen (BX.out.get 1 rfl) 0; have hfz17_1 := blk_frozen (BX.out.get 1 rfl) 1; have hcz18_0 : w16.cell? ⟨gb696, 0, none⟩ = some (.int .i64 0) := (blk_cell (BX.out.get 0 rfl) 0).trans rfl; have hcz18_1 : w16.cell? ⟨gb696, 1, none⟩ = some (.int .i64 0) := (blk_cell (BX.out.get 0 rfl) 1).trans rfl; have hfz18_0 := blk_frozen (BX.out.get 0 rfl) 0; have hfz18_1 := blk_frozen (BX.out.get 0 rfl) 1))
  refine bodyPost_ret (results_ct rfl _ _ gb696 23 #[.int .i64 0, .int .i64 0] (0, 0) _ rfl (by (with_reducible repeat (first | refine blk_drewN ?_ _ | refine blk_drew ?_ | refine blk_alloc ?_ _)); refine blk_put (cs := #[.int .i64 0, .int .i64 0]) ?_ 1 _ rfl; (with_reducible repeat (first | refine blk_drewN ?_ _ | refine blk_drew ?_ | refine blk_alloc ?_ _)); refine blk_put (cs := #[.int .i64 0, .int .i64 0]) ?_ 0 _ rfl; (with_reducible repeat (first | refine blk_drewN ?_ _ | refine blk_drew ?_ | refine blk_alloc ?_ _)); refine blk_far ?_ (BX.out.ne 0 1 rfl rfl (by decide)) _; (with_reducible repeat (first | refine blk_drewN ?_ _ | refine blk_drew ?_ | refine blk_alloc ?_ _)); refine blk_far ?_ (BX.out.ne 0 1 rfl rfl (by decide)) _; (with_reducible repeat (first | refine blk_drewN ?_ _ | refine blk_drew ?_ | refine blk_alloc ?_ _)); exact (BX.out.get 0 rfl)) Tryd.underlying23 rfl (by kernel_rfl)) rfl ?_
  exact ⟨by first | rfl | (simp [errW_none, errW_some] <;> rfl) | (simp [*, errW_none, errW_some] <;> rfl), by repeat (first | (with_reducible first | exact HB.out | apply below_alloc | apply pw_below_drewN | apply below_drew1 | refine below_set ?_ (Aside0.out (by assumption))) | exact HB.out)⟩
 ·rw [if_neg c5] at H
  have c5b0 : (t699 == 0) = false := beq_eq_false_iff_ne.mpr c5
  have c5b1 : (t699 != 0) = true := bne_iff_ne.mpr c5
  have HC19 := Aside0.mk H
  clear H
  go_enter Tryd.func50, Tryd.ntmps50
  go_upto_if 28 with (first | ((with_reducible refine gate_dst (N := 2) rfl ?_); refine box_event ?hg (N := 2) ?hd (cs := #[.int .i64 a0_0, .int .i64 a0_1]) (t := 23) ?hr ?_; (case hd => rfl); (case hg => rfl); (case hr => first | (go_simp; done) | (go_simp; rfl)); intro gb694 hg w20 hbox hb; have n0_ := Aside0.mk (Boxes.new (b := w.heap.size) (L := []) trivial hg hbox hb (below_size (by repeat (first | (with_reducible first | exact HB.out | apply below_alloc | apply pw_below_drewN | apply below_drew1 | refine below_set ?_ (Aside0.out (by assumption))) | exact HB.out)))); have n1_ := Aside0.mk (below_step (by repeat (first | (with_reducible first | exact HB.out | apply below_alloc | apply pw_below_drewN | apply below_drew1 | refine below_set ?_ (Aside0.out (by assumption))) | exact HB.out)) hb); have n2_ := Aside0.mk ((by rw [hg]; exact (below_size (by repeat (first | (with_reducible first | exact HB.out | apply below_alloc | apply pw_below_drewN | apply below_drew1 | refine below_set ?_ (Aside0.out (by assumption))) | exact HB.out))) : w.heap.size ≤ gb694)); clear HB; have BX := n0_; have HB := n1_; have GE694 := n2_; clear n0_ n1_ n2_; clear hb hbox hg) | ((with_reducible refine gate_dst (N := 3) rfl ?_); refine box_event ?hg (N := 3) ?hd (cs := #[.int .i64 a1_0, .int .i64 a1_1]) (t := 23) ?hr ?_; (case hd => rfl); (case hg => rfl); (case hr => first | (go_simp; done) | (go_simp; rfl)); intro gb695 hg w21 hbox hb; have n0_ := Aside0.mk (Boxes.new (by (with_reducible repeat (first | apply boxes_drewN | apply boxes_drew | apply boxes_alloc)); exact BX.out) hg hbox hb (below_size (by repeat (first | (with_reducible first | exact HB.out | apply below_alloc | apply pw_below_drewN | apply below_drew1 | refine below_set ?_ (Aside0.out (by assumption))) | exact HB.out)))); have n1_ := Aside0.mk (below_step (by repeat (first | (with_reducible first | exact HB.out | apply below_alloc | apply pw_below_drewN | apply below_drew1 | refine below_set ?_ (Aside0.out (by assumption))) | exact HB.out)) hb); have n2_ := Aside0.mk ((by rw [hg]; exact (below_size (by repeat (first | (with_reducible first | exact HB.out | apply below_alloc | apply pw_below_drewN | apply below_drew1 | refine below_set ?_ (Aside0.out (by assumption))) | exact HB.out))) : w.heap.size ≤ gb695)); clear BX HB; have BX := n0_; have HB := n1_; have GE695 := n2_; clear n0_ n1_ n2_; clear hb hbox hg) | ((with_reducible refine gate_dst (N := 4) rfl ?_); refine box_event ?hg (N := 4) ?hd (cs := #[.int .i64 0, .int .i64 0]) (t := 23) ?hr ?_; (case hd => rfl); (case hg => rfl); (case hr => first | (go_simp; done) | (go_simp; rfl)); intro gb696 hg w22 hbox hb; have n0_ := Aside0.mk (Boxes.new (by (with_reducible repeat (first | apply boxes_drewN | apply boxes_drew | apply boxes_alloc)); exact BX.out) hg hbox hb (below_size (by repeat (first | (with_reducible first | exact HB.out | apply below_alloc | apply pw_below_drewN | apply below_drew1 | refine below_set ?_ (Aside0.out (by assumption))) | exact HB.out)))); have n1_ := Aside0.mk (below_step (by repeat (first | (with_reducible first | exact HB.out | apply below_alloc | apply pw_below_drewN | apply below_drew1 | refine below_set ?_ (Aside0.out (by assumption))) | exact HB.out)) hb); have n2_ := Aside0.mk ((by rw [hg]; exact (below_size (by repeat (first | (with_reducible first | exact HB.out | apply below_alloc | apply pw_below_drewN | apply below_drew1 | refine below_set ?_ (Aside0.out (by assumption))) | exact HB.out))) : w.heap.size ≤ gb696)); clear BX HB; have BX := n0_; have HB := n1_; have GE696 := n2_; clear n0_ n1_ n2_; clear hb hbox hg; obtain ⟨⟨hnb24, hnc24⟩, ⟨hnb23, hnc23⟩, -⟩ := BX.out.apart 2 rfl; have hcz25_0 : w22.cell? ⟨gb694, 0, none⟩ = some (.int .i64 a0_0) := (blk_cell (BX.out.get 2 rfl) 0).trans rfl; have hcz25_1 : w22.cell? ⟨gb694, 1, none⟩ = some (.int .i64 a0_1) := (blk_cell (BX.out.get 2 rfl) 1).trans rfl; have hfz25_0 := blk_frozen (BX.out.get 2 rfl) 0; have hfz25_1 := blk_frozen (BX.out.get 2 rfl) 1) | ((with_reducible refine gate_callee (f := 64) rfl ?_); refine goesL_ (some 10) rfl rfl Tryd.func64 (by kernel_rfl) rfl #[.agg #[.int .i64 a0_0, .int .i64 a0_1]] rfl (by (try simp only [List.map_toArray, List.map_cons, List.map_nil]); first | done | rfl | (simp only [List.length_drop, List.length_take]; rfl)) ?_; (with_reducible refine (whittleref1_Of.calls k a0_0 a0_1 t697 t698 _ A3.out).mono ?_); rintro e w26 ⟨rfl, hb⟩; refine ⟨_, rfl, ?_⟩; have n0_ := Aside0.mk (Boxes.below (by (with_reducible repeat (first | apply boxes_drewN | apply boxes_drew | apply boxes_alloc)); exact BX.out) hb); have n1_ := Aside0.mk (below_step (by repeat (first | (with_reducible first | exact HB.out | apply below_alloc | apply pw_below_drewN | apply below_drew1 | refine below_set ?_ (Aside0.out (by assumption))) | exact HB.out)) hb); clear BX HB; have BX := n0_; have HB := n1_; clear n0_ n1_; (try clear hb); (try clear hb2); (try clear hk); (try clear hi); have hcz27_0 : w26.cell? ⟨gb694, 0, none⟩ = some (.int .i64 a0_0) := (blk_cell (BX.out.get 2 rfl) 0).trans rfl; have hcz27_1 : w26.cell? ⟨gb694, 1, none⟩ = some (.int .i64 a0_1) := (blk_cell (BX.out.get 2 rfl) 1).trans rfl; have hfz27_0 := blk_frozen (BX.out.get 2 rfl) 0; have hfz27_1 := blk_frozen (BX.out.get 2 rfl) 1; obtain ⟨⟨hnc28, hnb28⟩, -⟩ := BX.out.apart 0 rfl; have hcz29_0 : w26.cell? ⟨gb695, 0, none⟩ = some (.int .i64 a1_0) := (blk_cell (BX.out.get 1 rfl) 0).trans rfl; have hcz29_1 : w26.cell? ⟨gb695, 1, none⟩ = some (.int .i64 a1_1) := (blk_cell (BX.out.get 1 rfl) 1).trans rfl; have hfz29_0 := blk_frozen (BX.out.get 1 rfl) 0; have hfz29_1 := blk_frozen (BX.out.get 1 rfl) 1) | ((with_reducible refine gate_callee (f := 64) rfl ?_); refine goesL_ (some 12) rfl rfl Tryd.func64 (by kernel_rfl) rfl #[.agg #[.int .i64 a1_0, .int .i64 a1_1]] rfl (by (try simp only [List.map_toArray, List.map_cons, List.map_nil]); first | done | rfl | (simp only [List.length_drop, List.length_take]; rfl)) ?_; (with_reducible refine (whittleref1_Of.calls k a1_0 a1_1 t699 t700 _ A4.out).mono ?_); rintro e w30 ⟨rfl, hb⟩; refine ⟨_, rfl, ?_⟩; have n0_ : Aside0 (Boxes w.heap.size _ (_ :: _ :: (gb694, 23, #[.int .i64 t697, .int .i64 t698]) :: _)) := ⟨Boxes.below (by (with_reducible repeat (first | apply boxes_drewN | apply boxes_drew | apply boxes_alloc)); apply boxes_put 2; (with_reducible repeat (first | apply boxes_drewN | apply boxes_drew | apply boxes_alloc)); apply boxes_put 2; (with_reducible repeat (first | apply boxes_drewN | apply boxes_drew | apply boxes_alloc)); exact BX.out; any_goals rfl) hb⟩; have n1_ := Aside0.mk (below_step (by repeat (first | (with_reducible first | exact HB.out | apply below_alloc | apply pw_below_drewN | apply below_drew1 | refine below_set ?_ (Aside0.out (by assumption))) | exact HB.out)) hb); clear BX HB; have BX := n0_; have HB := n1_; clear n0_ n1_; (try clear hb); (try clear hb2); (try clear hk); (try clear hi); have hcz31_0 : w30.cell? ⟨gb695, 0, none⟩ = some (.int .i64 a1_0) := (blk_cell (BX.out.get 1 rfl) 0).trans rfl; have hcz31_1 : w30.cell? ⟨gb695, 1, none⟩ = some (.int .i64 a1_1) := (blk_cell (BX.out.get 1 rfl) 1).trans rfl; have hfz31_0 := blk_frozen (BX.out.get 1 rfl) 0; have hfz31_1 := blk_frozen (BX.out.get 1 rfl) 1; have hcz32_0 : w30.cell? ⟨gb694, 0, none⟩ = some (.int .i64 t697) := (blk_cell (BX.out.get 2 rfl) 0).trans rfl; have hcz32_1 : w30.cell? ⟨gb694, 1, none⟩ = some (.int .i64 t698) := (blk_cell (BX.out.get 2 rfl) 1).trans rfl; have hfz32_0 := blk_frozen (BX.out.get 2 rfl) 0; have hfz32_1 := blk_frozen (BX.out.get 2 rfl) 1))
  (try simp only [Act.put, List.setIfInBounds_toArray, List.set_cons_zero, List.set_cons_succ])
  go_cut [6, 7] (fun v6 v7 wc => ∃ (kq : Nat) (x6_18 : Int) (x7_18 : Int), v6 = .int .i64 x6_18 ∧ v7 = .int .i64 x7_18 ∧ Aside0 (whittleref1_Mod.j0 kq x6_18 x7_18 t697 t698 t699 t700 = some (r1, r2, r3)) ∧ Aside0 (kq ≤ k) ∧ Aside0 (Boxes w.heap.size wc [(gb696, 23, #[.int .i64 0, .int .i64 0]), (gb695, 23, #[.int .i64 t699, .int .i64 t700]), (gb694, 23, #[.int .i64 t697, .int .i64 t698])]) ∧ Aside0 (Below w.heap.size w wc))
  case first =>
   have H := HC19.out
   clear HC19
   by_cases c33 : (wrap64 (t699 * t698)) < 0
   ·rw [if_pos c33] at H
    have c33b0 : decide ((wrap64 (t699 * t698)) < 0) = true := decide_eq_true c33
    clear c33
    (first | rw [c33b0] | (simp only [i64_w, i32_w]; rw [c33b0]) | skip)
    have H' := Aside0.mk H
    clear H
    go_wp2
    go_meet
    case rel => exact ⟨_, (wrap64 (-(wrap64 (t697 * t700)))), (wrap64 (-(wrap64 (t699 * t698)))), (by first | rfl | (simp; done) | (simp [*]; done) | (simp [bne_nil]; done)), (by first | rfl | (simp; done) | (simp [*]; done) | (simp [bne_nil]; done)), H', ⟨by first | omega | exact Nat.le_refl _⟩, ⟨by (with_reducible repeat (first | apply boxes_drewN | apply boxes_drew | apply boxes_alloc)); apply boxes_put 1; (with_reducible repeat (first | apply boxes_drewN | apply boxes_drew | apply boxes_alloc)); apply boxes_put 1; (with_reducible repeat (first | apply boxes_drewN | apply boxes_drew | apply boxes_alloc)); exact BX.out; any_goals rfl⟩, ⟨by repeat (first | (with_reducible first | exact HB.out | apply below_alloc | apply pw_below_drewN | apply below_drew1 | refine below_set ?_ (Aside0.out (by assumption))) | exact HB.out)⟩⟩
   ·rw [if_neg c33] at H
    have c33b0 : decide ((wrap64 (t699 * t698)) < 0) = false := decide_eq_false c33
    clear c33
    (first | rw [c33b0] | (simp only [i64_w, i32_w]; rw [c33b0]) | skip)
    have H' := Aside0.mk H
    clear H
    go_wp2
    go_meet
    case rel => exact ⟨_, (wrap64 (t697 * t700)), (wrap64 (t699 * t698)), (by first | rfl | (simp; done) | (simp [*]; done) | (simp [bne_nil]; done)), (by first | rfl | (simp; done) | (simp [*]; done) | (simp [bne_nil]; done)), H', ⟨by first | omega | exact Nat.le_refl _⟩, ⟨by (with_reducible repeat (first | apply boxes_drewN | apply boxes_drew | apply boxes_alloc)); apply boxes_put 1; (with_reducible repeat (first | apply boxes_drewN | apply boxes_drew | apply boxes_alloc)); apply boxes_put 1; (with_reducible repeat (first | apply boxes_drewN | apply boxes_drew | apply boxes_alloc)); exact BX.out; any_goals rfl⟩, ⟨by repeat (first | (with_reducible first | exact HB.out | apply below_alloc | apply pw_below_drewN | apply below_drew1 | refine below_set ?_ (Aside0.out (by assumption))) | exact HB.out)⟩⟩
  case rest =>
   clear HC19
   try clear c1
   try clear c2
   try clear p2
   try clear c3
   try clear c5
   try clear c5b0
   try clear c5b1
   try clear c6
   try clear p6
   try clear c9
   try clear c10
   try clear c14
   try clear c23
   try clear c24
   try clear c28
   try clear c33
   try clear c33b0
   try clear hcz11_0
   try clear hcz11_1
   try clear hcz13_0
   try clear hcz13_1
   try clear hcz15_0
   try clear hcz15_1
   try clear hcz17_0
   try clear hcz17_1
   try clear hcz18_0
   try clear hcz18_1
   try clear hcz25_0
   try clear hcz25_1
   try clear hcz27_0
   try clear hcz27_1
   try clear hcz29_0
   try clear hcz29_1
   try clear hcz31_0
   try clear hcz31_1
   try clear hcz32_0
   try clear hcz32_1
   try clear hfz11_0
   try clear hfz11_1
   try clear hfz13_0
   try clear hfz13_1
   try clear hfz15_0
   try clear hfz15_1
   try clear hfz17_0
   try clear hfz17_1
   try clear hfz18_0
   try clear hfz18_1
   try clear hfz25_0
   try clear hfz25_1
   try clear hfz27_0
   try clear hfz27_1
   try clear hfz29_0
   try clear hfz29_1
   try clear hfz31_0
   try clear hfz31_1
   try clear hfz32_0
   try clear hfz32_1
   obtain ⟨kq, x6_18, x7_18, rfl, rfl, HA, HJ18, BX, HB⟩ := hcut
   cases kq with
   | zero => exact absurd HA.out (by simp [whittleref1_Mod.j0])
   | succ kj18 =>
    have H := HA.out
    clear HA
    simp only [whittleref1_Mod.j0] at H
    replace H := Option.bind_eq_some_iff.mp H
    obtain ⟨t701, A340, H⟩ := H
    replace H : (if t699 < 0 then ((whittleref1_Make.f kj18 (wrap64 (-(wrap64 (x6_18 - (wrap64 (x7_18 * t701)))))) (wrap64 (t698 * t700))).bind fun bt702 => (some (bt702.1, bt702.2.1, bt702.2.2))) else ((whittleref1_Make.f kj18 (wrap64 (x6_18 - (wrap64 (x7_18 * t701)))) (wrap64 (t698 * t700))).bind fun bt705 => (some (bt705.1, bt705.2.1, bt705.2.2)))) = some (r1, r2, r3) := H
    have A34 := Aside0.mk A340
    clear A340
    by_cases c35 : t699 < 0
    ·rw [if_pos c35] at H
     have c35b0 : decide (t699 < 0) = true := decide_eq_true c35
     clear c35
     replace H := Option.bind_eq_some_iff.mp H
     obtain ⟨⟨t702, t703, t704⟩, A360, H⟩ := H
     replace H : (some (t702, t703, t704)) = some (r1, r2, r3) := H
     have A36 := Aside0.mk A360
     clear A360
     simp only [Option.some.injEq, Prod.mk.injEq] at H
     obtain ⟨rfl, rfl, rfl⟩ := H
     go_wp2_with (first | ((with_reducible refine gate_callee (f := 75) rfl ?_); refine goesL_ (some 37) rfl rfl Tryd.func75 (by kernel_rfl) rfl #[.int .i64 x6_18, .int .i64 x7_18] rfl (by (try simp only [List.map_toArray, List.map_cons, List.map_nil]); first | done | rfl | (simp only [List.length_drop, List.length_take]; rfl)) ?_; (with_reducible refine (whittleref1_floored.calls x6_18 x7_18 t701 _ A34.out).mono ?_); rintro e w' ⟨rfl, ⟨nd, rfl⟩⟩; refine ⟨_, rfl, ?_⟩; (try (rw [drewN_self wc]; generalize hq_ : World.drewN wc _ = wc; have n0_ : Aside0 (Boxes w.heap.size wc [(gb696, 23, #[.int .i64 0, .int .i64 0]), (gb695, 23, #[.int .i64 t699, .int .i64 t700]), (gb694, 23, #[.int .i64 t697, .int .i64 t698])]) := ⟨by rw [← hq_]; exact (by (with_reducible repeat (first | apply boxes_drewN | apply boxes_drew | apply boxes_alloc)); exact BX.out)⟩; have n1_ : Aside0 (Below w.heap.size w wc) := ⟨by rw [← hq_]; exact (by repeat (first | (with_reducible first | exact HB.out | apply below_alloc | apply pw_below_drewN | apply below_drew1 | refine below_set ?_ (Aside0.out (by assumption))) | exact HB.out))⟩; clear BX HB hq_; have BX := n0_; have HB := n1_; clear n0_ n1_)); (try (have hcz37_0 : wc.cell? ⟨gb694, 0, none⟩ = some (.int .i64 t697) := (blk_cell (BX.out.get 2 rfl) 0).trans rfl)); (try (have hfz37_0 := blk_frozen (BX.out.get 2 rfl) 0)); (try (have hcz37_1 : wc.cell? ⟨gb694, 1, none⟩ = some (.int .i64 t698) := (blk_cell (BX.out.get 2 rfl) 1).trans rfl)); (try (have hfz37_1 := blk_frozen (BX.out.get 2 rfl) 1)); (try (have hcz38_0 : wc.cell? ⟨gb695, 0, none⟩ = some (.int .i64 t699) := (blk_cell (BX.out.get 1 rfl) 0).trans rfl)); (try (have hfz38_0 := blk_frozen (BX.out.get 1 rfl) 0)); (try (have hcz38_1 : wc.cell? ⟨gb695, 1, none⟩ = some (.int .i64 t700) := (blk_cell (BX.out.get 1 rfl) 1).trans rfl)); (try (have hfz38_1 := blk_frozen (BX.out.get 1 rfl) 1)); (try (have hcz39_0 : wc.cell? ⟨gb696, 0, none⟩ = some (.int .i64 0) := (blk_cell (BX.out.get 0 rfl) 0).trans rfl)); (try (have hfz39_0 := blk_frozen (BX.out.get 0 rfl) 0)); (try (have hcz39_1 : wc.cell? ⟨gb696, 1, none⟩ = some (.int .i64 0) := (blk_cell (BX.out.get 0 rfl) 1).trans rfl)); (try (have hfz39_1 := blk_frozen (BX.out.get 0 rfl) 1)); obtain ⟨⟨hnb41, hnc41⟩, ⟨hnb40, hnc40⟩, -⟩ := BX.out.apart 1 rfl; have hcz42_0 : wc.cell? ⟨gb695, 0, none⟩ = some (.int .i64 t699) := (blk_cell (BX.out.get 1 rfl) 0).trans rfl; have hcz42_1 : wc.cell? ⟨gb695, 1, none⟩ = some (.int .i64 t700) := (blk_cell (BX.out.get 1 rfl) 1).trans rfl; have hfz42_0 := blk_frozen (BX.out.get 1 rfl) 0; have hfz42_1 := blk_frozen (BX.out.get 1 rfl) 1; obtain ⟨-, ⟨hnc43, hnb43⟩, -⟩ := BX.out.apart 0 rfl; have hcz44_0 : wc.cell? ⟨gb694, 0, none⟩ = some (.int .i64 t697) := (blk_cell (BX.out.get 2 rfl) 0).trans rfl; have hcz44_1 : wc.cell? ⟨gb694, 1, none⟩ = some (.int .i64 t698) := (blk_cell (BX.out.get 2 rfl) 1).trans rfl; have hfz44_0 := blk_frozen (BX.out.get 2 rfl) 0; have hfz44_1 := blk_frozen (BX.out.get 2 rfl) 1) | ((with_reducible refine gate_callee (f := 21) rfl ?_); refine goesL_ (some 51) rfl rfl Tryd.func21 (by kernel_rfl) rfl #[.int .i64 (wrap64 (-(wrap64 (x6_18 - (wrap64 (x7_18 * t701)))))), .int .i64 (wrap64 (t698 * t700))] rfl (by (try simp only [List.map_toArray, List.map_cons, List.map_nil]); first | done | rfl | (simp only [List.length_drop, List.length_take]; rfl)) ?_; (with_reducible refine (whittleref1_Make.calls kj18 (wrap64 (-(wrap64 (x6_18 - (wrap64 (x7_18 * t701)))))) (wrap64 (t698 * t700)) t702 t703 t704 _ A36.out).mono ?_); rintro e w45 ⟨rfl, hb⟩; refine ⟨_, rfl, ?_⟩; have n0_ := Aside0.mk (Boxes.below (by (with_reducible repeat (first | apply boxes_drewN | apply boxes_drew | apply boxes_alloc)); exact BX.out) hb); have n1_ := Aside0.mk (below_step (by repeat (first | (with_reducible first | exact HB.out | apply below_alloc | apply pw_below_drewN | apply below_drew1 | refine below_set ?_ (Aside0.out (by assumption))) | exact HB.out)) hb); clear BX HB; have BX := n0_; have HB := n1_; clear n0_ n1_; (try clear hb); (try clear hb2); (try clear hk); (try clear hi); have hcz46_0 : w45.cell? ⟨gb696, 0, none⟩ = some (.int .i64 0) := (blk_cell (BX.out.get 0 rfl) 0).trans rfl; have hcz46_1 : w45.cell? ⟨gb696, 1, none⟩ = some (.int .i64 0) := (blk_cell (BX.out.get 0 rfl) 1).trans rfl; have hfz46_0 := blk_frozen (BX.out.get 0 rfl) 0; have hfz46_1 := blk_frozen (BX.out.get 0 rfl) 1))
     refine bodyPost_ret (results_ct rfl _ _ gb696 23 #[.int .i64 t702, .int .i64 t703] (0, 0) _ rfl (by (with_reducible repeat (first | refine blk_drewN ?_ _ | refine blk_drew ?_ | refine blk_alloc ?_ _)); refine blk_put (cs := #[.int .i64 t702, .int .i64 0]) ?_ 1 _ rfl; (with_reducible repeat (first | refine blk_drewN ?_ _ | refine blk_drew ?_ | refine blk_alloc ?_ _)); refine blk_put (cs := #[.int .i64 0, .int .i64 0]) ?_ 0 _ rfl; (with_reducible repeat (first | refine blk_drewN ?_ _ | refine blk_drew ?_ | refine blk_alloc ?_ _)); exact (BX.out.get 0 rfl)) Tryd.underlying23 rfl (by kernel_rfl)) rfl ?_
     exact ⟨by first | rfl | (simp [errW_none, errW_some] <;> rfl) | (simp [*, errW_none, errW_some] <;> rfl), by repeat (first | (with_reducible first | exact HB.out | apply below_alloc | apply pw_below_drewN | apply below_drew1 | refine below_set ?_ (Aside0.out (by assumption))) | exact HB.out)⟩
    ·rw [if_neg c35] at H
     have c35b0 : decide (t699 < 0) = false := decide_eq_false c35
     clear c35
     replace H := Option.bind_eq_some_iff.mp H
     obtain ⟨⟨t705, t706, t707⟩, A470, H⟩ := H
     replace H : (some (t705, t706, t707)) = some (r1, r2, r3) := H
     have A47 := Aside0.mk A470
     clear A470
     simp only [Option.some.injEq, Prod.mk.injEq] at H
     obtain ⟨rfl, rfl, rfl⟩ := H
     go_wp2_with (first | ((with_reducible refine gate_callee (f := 75) rfl ?_); refine goesL_ (some 37) rfl rfl Tryd.func75 (by kernel_rfl) rfl #[.int .i64 x6_18, .int .i64 x7_18] rfl (by (try simp only [List.map_toArray, List.map_cons, List.map_nil]); first | done | rfl | (simp only [List.length_drop, List.length_take]; rfl)) ?_; (with_reducible refine (whittleref1_floored.calls x6_18 x7_18 t701 _ A34.out).mono ?_); rintro e w' ⟨rfl, ⟨nd, rfl⟩⟩; refine ⟨_, rfl, ?_⟩; (try (rw [drewN_self wc]; generalize hq_ : World.drewN wc _ = wc; have n0_ : Aside0 (Boxes w.heap.size wc [(gb696, 23, #[.int .i64 0, .int .i64 0]), (gb695, 23, #[.int .i64 t699, .int .i64 t700]), (gb694, 23, #[.int .i64 t697, .int .i64 t698])]) := ⟨by rw [← hq_]; exact (by (with_reducible repeat (first | apply boxes_drewN | apply boxes_drew | apply boxes_alloc)); exact BX.out)⟩; have n1_ : Aside0 (Below w.heap.size w wc) := ⟨by rw [← hq_]; exact (by repeat (first | (with_reducible first | exact HB.out | apply below_alloc | apply pw_below_drewN | apply below_drew1 | refine below_set ?_ (Aside0.out (by assumption))) | exact HB.out))⟩; clear BX HB hq_; have BX := n0_; have HB := n1_; clear n0_ n1_)); (try (have hcz48_0 : wc.cell? ⟨gb694, 0, none⟩ = some (.int .i64 t697) := (blk_cell (BX.out.get 2 rfl) 0).trans rfl)); (try (have hfz48_0 := blk_frozen (BX.out.get 2 rfl) 0)); (try (have hcz48_1 : wc.cell? ⟨gb694, 1, none⟩ = some (.int .i64 t698) := (blk_cell (BX.out.get 2 rfl) 1).trans rfl)); (try (have hfz48_1 := blk_frozen (BX.out.get 2 rfl) 1)); (try (have hcz49_0 : wc.cell? ⟨gb695, 0, none⟩ = some (.int .i64 t699) := (blk_cell (BX.out.get 1 rfl) 0).trans rfl)); (try (have hfz49_0 := blk_frozen (BX.out.get 1 rfl) 0)); (try (have hcz49_1 : wc.cell? ⟨gb695, 1, none⟩ = some (.int .i64 t700) := (blk_cell (BX.out.get 1 rfl) 1).trans rfl)); (try (have hfz49_1 := blk_frozen (BX.out.get 1 rfl) 1)); (try (have hcz50_0 : wc.cell? ⟨gb696, 0, none⟩ = some (.int .i64 0) := (blk_cell (BX.out.get 0 rfl) 0).trans rfl)); (try (have hfz50_0 := blk_frozen (BX.out.get 0 rfl) 0)); (try (have hcz50_1 : wc.cell? ⟨gb696, 1, none⟩ = some (.int .i64 0) := (blk_cell (BX.out.get 0 rfl) 1).trans rfl)); (try (have hfz50_1 := blk_frozen (BX.out.get 0 rfl) 1)); obtain ⟨⟨hnb52, hnc52⟩, ⟨hnb51, hnc51⟩, -⟩ := BX.out.apart 1 rfl; have hcz53_0 : wc.cell? ⟨gb695, 0, none⟩ = some (.int .i64 t699) := (blk_cell (BX.out.get 1 rfl) 0).trans rfl; have hcz53_1 : wc.cell? ⟨gb695, 1, none⟩ = some (.int .i64 t700) := (blk_cell (BX.out.get 1 rfl) 1).trans rfl; have hfz53_0 := blk_frozen (BX.out.get 1 rfl) 0; have hfz53_1 := blk_frozen (BX.out.get 1 rfl) 1; obtain ⟨-, ⟨hnc54, hnb54⟩, -⟩ := BX.out.apart 0 rfl; have hcz55_0 : wc.cell? ⟨gb694, 0, none⟩ = some (.int .i64 t697) := (blk_cell (BX.out.get 2 rfl) 0).trans rfl; have hcz55_1 : wc.cell? ⟨gb694, 1, none⟩ = some (.int .i64 t698) := (blk_cell (BX.out.get 2 rfl) 1).trans rfl; have hfz55_0 := blk_frozen (BX.out.get 2 rfl) 0; have hfz55_1 := blk_frozen (BX.out.get 2 rfl) 1) | ((with_reducible refine gate_callee (f := 21) rfl ?_); refine goesL_ (some 51) rfl rfl Tryd.func21 (by kernel_rfl) rfl #[.int .i64 (wrap64 (x6_18 - (wrap64 (x7_18 * t701)))), .int .i64 (wrap64 (t698 * t700))] rfl (by (try simp only [List.map_toArray, List.map_cons, List.map_nil]); first | done | rfl | (simp only [List.length_drop, List.length_take]; rfl)) ?_; (with_reducible refine (whittleref1_Make.calls kj18 (wrap64 (x6_18 - (wrap64 (x7_18 * t701)))) (wrap64 (t698 * t700)) t705 t706 t707 _ A47.out).mono ?_); rintro e w56 ⟨rfl, hb⟩; refine ⟨_, rfl, ?_⟩; have n0_ := Aside0.mk (Boxes.below (by (with_reducible repeat (first | apply boxes_drewN | apply boxes_drew | apply boxes_alloc)); exact BX.out) hb); have n1_ := Aside0.mk (below_step (by repeat (first | (with_reducible first | exact HB.out | apply below_alloc | apply pw_below_drewN | apply below_drew1 | refine below_set ?_ (Aside0.out (by assumption))) | exact HB.out)) hb); clear BX HB; have BX := n0_; have HB := n1_; clear n0_ n1_; (try clear hb); (try clear hb2); (try clear hk); (try clear hi); have hcz57_0 : w56.cell? ⟨gb696, 0, none⟩ = some (.int .i64 0) := (blk_cell (BX.out.get 0 rfl) 0).trans rfl; have hcz57_1 : w56.cell? ⟨gb696, 1, none⟩ = some (.int .i64 0) := (blk_cell (BX.out.get 0 rfl) 1).trans rfl; have hfz57_0 := blk_frozen (BX.out.get 0 rfl) 0; have hfz57_1 := blk_frozen (BX.out.get 0 rfl) 1))
     refine bodyPost_ret (results_ct rfl _ _ gb696 23 #[.int .i64 t705, .int .i64 t706] (0, 0) _ rfl (by (with_reducible repeat (first | refine blk_drewN ?_ _ | refine blk_drew ?_ | refine blk_alloc ?_ _)); refine blk_put (cs := #[.int .i64 t705, .int .i64 0]) ?_ 1 _ rfl; (with_reducible repeat (first | refine blk_drewN ?_ _ | refine blk_drew ?_ | refine blk_alloc ?_ _)); refine blk_put (cs := #[.int .i64 0, .int .i64 0]) ?_ 0 _ rfl; (with_reducible repeat (first | refine blk_drewN ?_ _ | refine blk_drew ?_ | refine blk_alloc ?_ _)); exact (BX.out.get 0 rfl)) Tryd.underlying23 rfl (by kernel_rfl)) rfl ?_
     exact ⟨by first | rfl | (simp [errW_none, errW_some] <;> rfl) | (simp [*, errW_none, errW_some] <;> rfl), by repeat (first | (with_reducible first | exact HB.out | apply below_alloc | apply pw_below_drewN | apply below_drew1 | refine below_set ?_ (Aside0.out (by assumption))) | exact HB.out)⟩

end Go.Proofs.YtlcjfabbnclalaaDoor.F
