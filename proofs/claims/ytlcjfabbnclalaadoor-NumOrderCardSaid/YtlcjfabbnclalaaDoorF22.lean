-- Laid by program (wip/tools/gen.sh of this repo) out of the translation; Lean checks it.
import Derived.Test.YtlcjfabbnclalaaDoorF0
import Derived.Test.YtlcjfabbnclalaaDoorF1
import Derived.Test.YtlcjfabbnclalaaDoorF3
import Derived.Test.YtlcjfabbnclalaaDoorF5
import Derived.Test.YtlcjfabbnclalaaDoorF6
import Derived.Test.YtlcjfabbnclalaaDoorF15
import Derived.Test.YtlcjfabbnclalaaDoorF21
namespace Go.Proofs.YtlcjfabbnclalaaDoor.F
open Go.RowKit Go.Proofs.YtlcjfabbnclalaaDoorW.PrintWords Go.Proofs.YtlcjfabbnclalaaDoorW.PrintLast Go.Proofs.YtlcjfabbnclalaaDoorW.PrintMore
attribute [local go_sem] max2_int min2_int max_two min_two max_three min_three max_four min_four   -- for this text's walks alone
set_option linter.unusedVariables false
set_option linter.unusedSimpArgs false

attribute [local go_sem high] eqA23
/-! ### whittlelaw1_NumOrder: function 11 -/
mutual
def whittlelaw1_NumOrder.j0 : Nat → Bool → Int → Int → Int → Int → Int → Int → Option (Bool)
  | 0, _, _, _, _, _, _, _ => none
  | k + 1, x29, x467000, x467001, x468000, x468001, x469000, x469001 => if x29 = true then ((whittlelaw1_able.f k).bind fun t473 => (some t473)) else ((num_Cmp.f k x467000 x467001 x468000 x468001).bind fun t474 => (if t474 < (-1) then (whittlelaw1_NumOrder.j1 k t474 true x467000 x467001 x468000 x468001 x469000 x469001) else (if t474 > 1 then (whittlelaw1_NumOrder.j1 k t474 true x467000 x467001 x468000 x468001 x469000 x469001) else ((num_Cmp.f k x468000 x468001 x467000 x467001).bind fun t475 => (if t475 = (wrap64 (-t474)) then (whittlelaw1_NumOrder.j1 k t474 ((t474 == 0) != (x467000 == x468000 && (x467001 == x468001))) x467000 x467001 x468000 x468001 x469000 x469001) else (whittlelaw1_NumOrder.j1 k t474 true x467000 x467001 x468000 x468001 x469000 x469001))))))
def whittlelaw1_NumOrder.j1 : Nat → Int → Bool → Int → Int → Int → Int → Int → Int → Option (Bool)
  | 0, _, _, _, _, _, _, _, _ => none
  | k + 1, x7, x55, x467000, x467001, x468000, x468001, x469000, x469001 => if x55 = true then (some false) else (if x7 ≤ 0 then ((num_Cmp.f k x468000 x468001 x469000 x469001).bind fun t476 => (if t476 ≤ 0 then ((num_Cmp.f k x467000 x467001 x469000 x469001).bind fun t477 => (whittlelaw1_NumOrder.j2 k x7 (decide (t477 > 0)) x467000 x467001 x468000 x468001 x469000 x469001)) else (whittlelaw1_NumOrder.j2 k x7 false x467000 x467001 x468000 x468001 x469000 x469001))) else (whittlelaw1_NumOrder.j2 k x7 false x467000 x467001 x468000 x468001 x469000 x469001))
def whittlelaw1_NumOrder.j2 : Nat → Int → Bool → Int → Int → Int → Int → Int → Int → Option (Bool)
  | 0, _, _, _, _, _, _, _, _ => none
  | k + 1, x7, x69, x467000, x467001, x468000, x468001, x469000, x469001 => if x69 = true then (some false) else ((num_Add.f k x467000 x467001 x469000 x469001).bind fun bt478 => ((num_Add.f k x468000 x468001 x469000 x469001).bind fun bt482 => (if bt478.2.2 = true then (if bt482.2.2 = true then ((num_Cmp.f k bt478.1 bt478.2.1 bt482.1 bt482.2.1).bind fun t486 => (whittlelaw1_NumOrder.j3 k x7 (t486 != x7) x467000 x467001 x468000 x468001 x469000 x469001)) else (whittlelaw1_NumOrder.j3 k x7 false x467000 x467001 x468000 x468001 x469000 x469001)) else (whittlelaw1_NumOrder.j3 k x7 false x467000 x467001 x468000 x468001 x469000 x469001))))
def whittlelaw1_NumOrder.j3 : Nat → Int → Bool → Int → Int → Int → Int → Int → Int → Option (Bool)
  | 0, _, _, _, _, _, _, _, _ => none
  | k + 1, x7, x92, x467000, x467001, x468000, x468001, x469000, x469001 => if x92 = true then (some false) else ((num_Mul.f k x467000 x467001 x469000 x469001).bind fun bt487 => ((num_Mul.f k x468000 x468001 x469000 x469001).bind fun bt490 => ((whittlelaw1_zero.f).bind fun bt493 => ((num_Cmp.f k x469000 x469001 bt493.1 bt493.2).bind fun t495 => (if bt487.2.2 = true then (if bt490.2.2 = true then ((num_Cmp.f k bt487.1 bt487.2.1 bt490.1 bt490.2.1).bind fun t496 => (some (t496 == (wrap64 (x7 * t495))))) else (some true)) else (some true))))))
end
def whittlelaw1_NumOrder.f (k : Nat) (a0_0 : Int) (a0_1 : Int) (a1_0 : Int) (a1_1 : Int) (a2_0 : Int) (a2_1 : Int) : Option (Bool) := (whittlelaw1_able.f k).bind fun t469 => (if t469 = true then ((whittlelaw1_right.f k a0_0 a0_1).bind fun t470 => (if t470 = true then ((whittlelaw1_right.f k a1_0 a1_1).bind fun t471 => (if t471 = true then ((whittlelaw1_right.f k a2_0 a2_1).bind fun t472 => (whittlelaw1_NumOrder.j0 k (!t472) a0_0 a0_1 a1_0 a1_1 a2_0 a2_1)) else (whittlelaw1_NumOrder.j0 k true a0_0 a0_1 a1_0 a1_1 a2_0 a2_1))) else (whittlelaw1_NumOrder.j0 k true a0_0 a0_1 a1_0 a1_1 a2_0 a2_1))) else (whittlelaw1_NumOrder.j0 k true a0_0 a0_1 a1_0 a1_1 a2_0 a2_1))
theorem whittlelaw1_NumOrder.mono_l : ∀ k, (∀ y0 y1 y2 y3 y4 y5 y6, LeO (whittlelaw1_NumOrder.j0 k y0 y1 y2 y3 y4 y5 y6) (whittlelaw1_NumOrder.j0 (k + 1) y0 y1 y2 y3 y4 y5 y6)) ∧ (∀ y0 y1 y2 y3 y4 y5 y6 y7, LeO (whittlelaw1_NumOrder.j1 k y0 y1 y2 y3 y4 y5 y6 y7) (whittlelaw1_NumOrder.j1 (k + 1) y0 y1 y2 y3 y4 y5 y6 y7)) ∧ (∀ y0 y1 y2 y3 y4 y5 y6 y7, LeO (whittlelaw1_NumOrder.j2 k y0 y1 y2 y3 y4 y5 y6 y7) (whittlelaw1_NumOrder.j2 (k + 1) y0 y1 y2 y3 y4 y5 y6 y7)) ∧ (∀ y0 y1 y2 y3 y4 y5 y6 y7, LeO (whittlelaw1_NumOrder.j3 k y0 y1 y2 y3 y4 y5 y6 y7) (whittlelaw1_NumOrder.j3 (k + 1) y0 y1 y2 y3 y4 y5 y6 y7))
  | 0 => ⟨fun _ _ _ _ _ _ _ r h => by simp [whittlelaw1_NumOrder.j0] at h, fun _ _ _ _ _ _ _ _ r h => by simp [whittlelaw1_NumOrder.j1] at h, fun _ _ _ _ _ _ _ _ r h => by simp [whittlelaw1_NumOrder.j2] at h, fun _ _ _ _ _ _ _ _ r h => by simp [whittlelaw1_NumOrder.j3] at h⟩
  | k + 1 => by
    obtain ⟨ih0, ih1, ih2, ih3⟩ := whittlelaw1_NumOrder.mono_l k
    refine ⟨?_, ?_, ?_, ?_⟩
    · intro y0 y1 y2 y3 y4 y5 y6
      unfold whittlelaw1_NumOrder.j0
      repeat' first
      | (with_reducible exact ih0 _ _ _ _ _ _ _)
      | (with_reducible exact ih1 _ _ _ _ _ _ _ _)
      | (with_reducible exact ih2 _ _ _ _ _ _ _ _)
      | (with_reducible exact ih3 _ _ _ _ _ _ _ _)
      | (with_reducible exact num_Add.mono _ _ _ _ _)
      | (with_reducible exact num_Cmp.mono _ _ _ _ _)
      | (with_reducible exact num_Mul.mono _ _ _ _ _)
      | (with_reducible exact whittlelaw1_able.mono _)
      | (with_reducible exact whittlelaw1_right.mono _ _ _)
      | (with_reducible exact LeO.refl _)
      | (with_reducible exact LeO.none _)
      | (with_reducible refine LeO.ite ?_ ?_)
      | (with_reducible refine LeO.bind ?_ (fun _ => ?_))
      | exact ih0 _ _ _ _ _ _ _
      | exact ih1 _ _ _ _ _ _ _ _
      | exact ih2 _ _ _ _ _ _ _ _
      | exact ih3 _ _ _ _ _ _ _ _
      | exact num_Add.mono _ _ _ _ _
      | exact num_Cmp.mono _ _ _ _ _
      | exact num_Mul.mono _ _ _ _ _
      | exact whittlelaw1_able.mono _
      | exact whittlelaw1_right.mono _ _ _
      | exact LeO.none _
      | refine LeO.ite ?_ ?_
      | refine LeO.bind ?_ (fun _ => ?_)
    · intro y0 y1 y2 y3 y4 y5 y6 y7
      unfold whittlelaw1_NumOrder.j1
      repeat' first
      | (with_reducible exact ih0 _ _ _ _ _ _ _)
      | (with_reducible exact ih1 _ _ _ _ _ _ _ _)
      | (with_reducible exact ih2 _ _ _ _ _ _ _ _)
      | (with_reducible exact ih3 _ _ _ _ _ _ _ _)
      | (with_reducible exact num_Add.mono _ _ _ _ _)
      | (with_reducible exact num_Cmp.mono _ _ _ _ _)
      | (with_reducible exact num_Mul.mono _ _ _ _ _)
      | (with_reducible exact whittlelaw1_able.mono _)
      | (with_reducible exact whittlelaw1_right.mono _ _ _)
      | (with_reducible exact LeO.refl _)
      | (with_reducible exact LeO.none _)
      | (with_reducible refine LeO.ite ?_ ?_)
      | (with_reducible refine LeO.bind ?_ (fun _ => ?_))
      | exact ih0 _ _ _ _ _ _ _
      | exact ih1 _ _ _ _ _ _ _ _
      | exact ih2 _ _ _ _ _ _ _ _
      | exact ih3 _ _ _ _ _ _ _ _
      | exact num_Add.mono _ _ _ _ _
      | exact num_Cmp.mono _ _ _ _ _
      | exact num_Mul.mono _ _ _ _ _
      | exact whittlelaw1_able.mono _
      | exact whittlelaw1_right.mono _ _ _
      | exact LeO.none _
      | refine LeO.ite ?_ ?_
      | refine LeO.bind ?_ (fun _ => ?_)
    · intro y0 y1 y2 y3 y4 y5 y6 y7
      unfold whittlelaw1_NumOrder.j2
      repeat' first
      | (with_reducible exact ih0 _ _ _ _ _ _ _)
      | (with_reducible exact ih1 _ _ _ _ _ _ _ _)
      | (with_reducible exact ih2 _ _ _ _ _ _ _ _)
      | (with_reducible exact ih3 _ _ _ _ _ _ _ _)
      | (with_reducible exact num_Add.mono _ _ _ _ _)
      | (with_reducible exact num_Cmp.mono _ _ _ _ _)
      | (with_reducible exact num_Mul.mono _ _ _ _ _)
      | (with_reducible exact whittlelaw1_able.mono _)
      | (with_reducible exact whittlelaw1_right.mono _ _ _)
      | (with_reducible exact LeO.refl _)
      | (with_reducible exact LeO.none _)
      | (with_reducible refine LeO.ite ?_ ?_)
      | (with_reducible refine LeO.bind ?_ (fun _ => ?_))
      | exact ih0 _ _ _ _ _ _ _
      | exact ih1 _ _ _ _ _ _ _ _
      | exact ih2 _ _ _ _ _ _ _ _
      | exact ih3 _ _ _ _ _ _ _ _
      | exact num_Add.mono _ _ _ _ _
      | exact num_Cmp.mono _ _ _ _ _
      | exact num_Mul.mono _ _ _ _ _
      | exact whittlelaw1_able.mono _
      | exact whittlelaw1_right.mono _ _ _
      | exact LeO.none _
      | refine LeO.ite ?_ ?_
      | refine LeO.bind ?_ (fun _ => ?_)
    · intro y0 y1 y2 y3 y4 y5 y6 y7
      unfold whittlelaw1_NumOrder.j3
      repeat' first
      | (with_reducible exact ih0 _ _ _ _ _ _ _)
      | (with_reducible exact ih1 _ _ _ _ _ _ _ _)
      | (with_reducible exact ih2 _ _ _ _ _ _ _ _)
      | (with_reducible exact ih3 _ _ _ _ _ _ _ _)
      | (with_reducible exact num_Add.mono _ _ _ _ _)
      | (with_reducible exact num_Cmp.mono _ _ _ _ _)
      | (with_reducible exact num_Mul.mono _ _ _ _ _)
      | (with_reducible exact whittlelaw1_able.mono _)
      | (with_reducible exact whittlelaw1_right.mono _ _ _)
      | (with_reducible exact LeO.refl _)
      | (with_reducible exact LeO.none _)
      | (with_reducible refine LeO.ite ?_ ?_)
      | (with_reducible refine LeO.bind ?_ (fun _ => ?_))
      | exact ih0 _ _ _ _ _ _ _
      | exact ih1 _ _ _ _ _ _ _ _
      | exact ih2 _ _ _ _ _ _ _ _
      | exact ih3 _ _ _ _ _ _ _ _
      | exact num_Add.mono _ _ _ _ _
      | exact num_Cmp.mono _ _ _ _ _
      | exact num_Mul.mono _ _ _ _ _
      | exact whittlelaw1_able.mono _
      | exact whittlelaw1_right.mono _ _ _
      | exact LeO.none _
      | refine LeO.ite ?_ ?_
      | refine LeO.bind ?_ (fun _ => ?_)
theorem whittlelaw1_NumOrder.mono : ∀ a0 a1 a2 a3 a4 a5 k, LeO (whittlelaw1_NumOrder.f k a0 a1 a2 a3 a4 a5) (whittlelaw1_NumOrder.f (k + 1) a0 a1 a2 a3 a4 a5) := by
  intro a0 a1 a2 a3 a4 a5 k
  obtain ⟨ih0, ih1, ih2, ih3⟩ := whittlelaw1_NumOrder.mono_l k
  unfold whittlelaw1_NumOrder.f
  repeat' first
      | (with_reducible exact ih0 _ _ _ _ _ _ _)
      | (with_reducible exact ih1 _ _ _ _ _ _ _ _)
      | (with_reducible exact ih2 _ _ _ _ _ _ _ _)
      | (with_reducible exact ih3 _ _ _ _ _ _ _ _)
      | (with_reducible exact num_Add.mono _ _ _ _ _)
      | (with_reducible exact num_Cmp.mono _ _ _ _ _)
      | (with_reducible exact num_Mul.mono _ _ _ _ _)
      | (with_reducible exact whittlelaw1_able.mono _)
      | (with_reducible exact whittlelaw1_right.mono _ _ _)
      | (with_reducible exact LeO.refl _)
      | (with_reducible exact LeO.none _)
      | (with_reducible refine LeO.ite ?_ ?_)
      | (with_reducible refine LeO.bind ?_ (fun _ => ?_))
      | exact ih0 _ _ _ _ _ _ _
      | exact ih1 _ _ _ _ _ _ _ _
      | exact ih2 _ _ _ _ _ _ _ _
      | exact ih3 _ _ _ _ _ _ _ _
      | exact num_Add.mono _ _ _ _ _
      | exact num_Cmp.mono _ _ _ _ _
      | exact num_Mul.mono _ _ _ _ _
      | exact whittlelaw1_able.mono _
      | exact whittlelaw1_right.mono _ _ _
      | exact LeO.none _
      | refine LeO.ite ?_ ?_
      | refine LeO.bind ?_ (fun _ => ?_)
set_option maxHeartbeats 8000000 in
set_option maxRecDepth 100000 in
theorem whittlelaw1_NumOrder.calls (k : Nat) (a0_0 : Int) (a0_1 : Int) (a1_0 : Int) (a1_1 : Int) (a2_0 : Int) (a2_1 : Int) (r : Bool) (w : World) (HT0 : TabAt w) (hr0 : r = true) (h : whittlelaw1_NumOrder.f k a0_0 a0_1 a1_0 a1_1 a2_0 a2_1 = some r) :
    Calls Tryd.prog 11 #[.agg #[.int .i64 a0_0, .int .i64 a0_1], .agg #[.int .i64 a1_0, .int .i64 a1_1], .agg #[.int .i64 a2_0, .int .i64 a2_1]] w fun e w' => e = .returned (.bool r) ∧ Below w.heap.size w w' := by
  have hu23 := Tryd.underlying23
  have HT := Aside0.mk HT0
  clear HT0
  have HR := Aside0.mk hr0
  clear hr0
  have HB := Aside0.mk (Below.refl w.heap.size w)
  have H : ((whittlelaw1_able.f k).bind fun t469 => (if t469 = true then ((whittlelaw1_right.f k a0_0 a0_1).bind fun t470 => (if t470 = true then ((whittlelaw1_right.f k a1_0 a1_1).bind fun t471 => (if t471 = true then ((whittlelaw1_right.f k a2_0 a2_1).bind fun t472 => (whittlelaw1_NumOrder.j0 k (!t472) a0_0 a0_1 a1_0 a1_1 a2_0 a2_1)) else (whittlelaw1_NumOrder.j0 k true a0_0 a0_1 a1_0 a1_1 a2_0 a2_1))) else (whittlelaw1_NumOrder.j0 k true a0_0 a0_1 a1_0 a1_1 a2_0 a2_1))) else (whittlelaw1_NumOrder.j0 k true a0_0 a0_1 a1_0 a1_1 a2_0 a2_1))) = some r := h
  clear h
  have HC4 := Aside0.mk H
  clear H
  go_enter Tryd.func11, Tryd.ntmps11
  go_upto_region 1 with (first | ((with_reducible refine gate_dst (N := 3) rfl ?_); refine box_event ?hg (N := 3) ?hd (cs := #[.int .i64 a0_0, .int .i64 a0_1]) (t := 23) ?hr ?_; (case hd => rfl); (case hg => rfl); (case hr => first | (go_simp; done) | (go_simp; rfl)); intro gb466 hg w5 hbox hb; have n0_ := Aside0.mk (below_step (by repeat (first | (with_reducible first | exact HB.out | apply below_alloc | apply pw_below_drewN | apply below_drew1) | exact HB.out)) hb); have n1_ := Aside0.mk (hbox); have n2_ := Aside0.mk ((by rw [hg]; exact (below_size (by repeat (first | (with_reducible first | exact HB.out | apply below_alloc | apply pw_below_drewN | apply below_drew1) | exact HB.out))) : w.heap.size ≤ gb466)); have n3_ := Aside0.mk ((by rw [hg]; exact (below_size (by repeat (first | (with_reducible first | exact HB.out | apply below_alloc | apply pw_below_drewN | apply below_drew1) | exact HB.out))) : w.heap.size ≤ gb466)); clear HB; have HB := n0_; have BK466 := n1_; have GW466 := n2_; have GE466 := n3_; clear n0_ n1_ n2_ n3_; clear hb hbox hg) | ((with_reducible refine gate_dst (N := 4) rfl ?_); refine box_event ?hg (N := 4) ?hd (cs := #[.int .i64 a1_0, .int .i64 a1_1]) (t := 23) ?hr ?_; (case hd => rfl); (case hg => rfl); (case hr => first | (go_simp; done) | (go_simp; rfl)); intro gb467 hg w6 hbox hb; have n0_ := Aside0.mk (blk_below (g := gb466) (o := .cells #[.int .i64 a0_0, .int .i64 a0_1] 23 (0, 0)) (by (with_reducible repeat (first | refine blk_drewN ?_ _ | refine blk_drew ?_ | refine blk_alloc ?_ _)); exact BK466.out) hb); have n1_ := Aside0.mk (below_step (by repeat (first | (with_reducible first | exact HB.out | apply below_alloc | apply pw_below_drewN | apply below_drew1 | refine below_set ?_ GE466.out) | exact HB.out)) hb); have n2_ := Aside0.mk (hbox); have n3_ := Aside0.mk ((by rw [hg]; exact (below_size (by repeat (first | (with_reducible first | exact HB.out | apply below_alloc | apply pw_below_drewN | apply below_drew1 | refine below_set ?_ GE466.out) | exact HB.out))) : w.heap.size ≤ gb467)); have n4_ := Aside0.mk ((by rw [hg]; exact (below_size (by repeat (first | (with_reducible first | exact HB.out | apply below_alloc | apply pw_below_drewN | apply below_drew1 | refine below_set ?_ GE466.out) | exact HB.out))) : w.heap.size ≤ gb467)); have n5_ := Aside0.mk ((by rw [hg]; exact Nat.ne_of_lt (blk_lt (g := gb466) (o := .cells #[.int .i64 a0_0, .int .i64 a0_1] 23 (0, 0)) (by (with_reducible repeat (first | refine blk_drewN ?_ _ | refine blk_drew ?_ | refine blk_alloc ?_ _)); exact BK466.out)) : gb466 ≠ gb467)); have n6_ := Aside0.mk ((by rw [hg]; exact Nat.ne_of_gt (blk_lt (g := gb466) (o := .cells #[.int .i64 a0_0, .int .i64 a0_1] 23 (0, 0)) (by (with_reducible repeat (first | refine blk_drewN ?_ _ | refine blk_drew ?_ | refine blk_alloc ?_ _)); exact BK466.out)) : gb467 ≠ gb466)); clear BK466; clear HB; have BK466 := n0_; have HB := n1_; have BK467 := n2_; have GW467 := n3_; have GE467 := n4_; have NB466_467 := n5_; have NB467_466 := n6_; clear n0_ n1_ n2_ n3_ n4_ n5_ n6_; clear hb hbox hg) | ((with_reducible refine gate_dst (N := 5) rfl ?_); refine box_event ?hg (N := 5) ?hd (cs := #[.int .i64 a2_0, .int .i64 a2_1]) (t := 23) ?hr ?_; (case hd => rfl); (case hg => rfl); (case hr => first | (go_simp; done) | (go_simp; rfl)); intro gb468 hg w7 hbox hb; have n0_ := Aside0.mk (blk_below (g := gb466) (o := .cells #[.int .i64 a0_0, .int .i64 a0_1] 23 (0, 0)) (by (with_reducible repeat (first | refine blk_drewN ?_ _ | refine blk_drew ?_ | refine blk_alloc ?_ _)); exact BK466.out) hb); have n1_ := Aside0.mk (blk_below (g := gb467) (o := .cells #[.int .i64 a1_0, .int .i64 a1_1] 23 (0, 0)) (by (with_reducible repeat (first | refine blk_drewN ?_ _ | refine blk_drew ?_ | refine blk_alloc ?_ _)); exact BK467.out) hb); have n2_ := Aside0.mk (below_step (by repeat (first | (with_reducible first | exact HB.out | apply below_alloc | apply pw_below_drewN | apply below_drew1 | refine below_set ?_ GE466.out | refine below_set ?_ GE467.out) | exact HB.out)) hb); have n3_ := Aside0.mk (hbox); have n4_ := Aside0.mk ((by rw [hg]; exact (below_size (by repeat (first | (with_reducible first | exact HB.out | apply below_alloc | apply pw_below_drewN | apply below_drew1 | refine below_set ?_ GE466.out | refine below_set ?_ GE467.out) | exact HB.out))) : w.heap.size ≤ gb468)); have n5_ := Aside0.mk ((by rw [hg]; exact (below_size (by repeat (first | (with_reducible first | exact HB.out | apply below_alloc | apply pw_below_drewN | apply below_drew1 | refine below_set ?_ GE466.out | refine below_set ?_ GE467.out) | exact HB.out))) : w.heap.size ≤ gb468)); have n6_ := Aside0.mk ((by rw [hg]; exact Nat.ne_of_lt (blk_lt (g := gb466) (o := .cells #[.int .i64 a0_0, .int .i64 a0_1] 23 (0, 0)) (by (with_reducible repeat (first | refine blk_drewN ?_ _ | refine blk_drew ?_ | refine blk_alloc ?_ _)); exact BK466.out)) : gb466 ≠ gb468)); have n7_ := Aside0.mk ((by rw [hg]; exact Nat.ne_of_gt (blk_lt (g := gb466) (o := .cells #[.int .i64 a0_0, .int .i64 a0_1] 23 (0, 0)) (by (with_reducible repeat (first | refine blk_drewN ?_ _ | refine blk_drew ?_ | refine blk_alloc ?_ _)); exact BK466.out)) : gb468 ≠ gb466)); have n8_ := Aside0.mk ((by rw [hg]; exact Nat.ne_of_lt (blk_lt (g := gb467) (o := .cells #[.int .i64 a1_0, .int .i64 a1_1] 23 (0, 0)) (by (with_reducible repeat (first | refine blk_drewN ?_ _ | refine blk_drew ?_ | refine blk_alloc ?_ _)); exact BK467.out)) : gb467 ≠ gb468)); have n9_ := Aside0.mk ((by rw [hg]; exact Nat.ne_of_gt (blk_lt (g := gb467) (o := .cells #[.int .i64 a1_0, .int .i64 a1_1] 23 (0, 0)) (by (with_reducible repeat (first | refine blk_drewN ?_ _ | refine blk_drew ?_ | refine blk_alloc ?_ _)); exact BK467.out)) : gb468 ≠ gb467)); clear BK466; clear BK467; clear HB; have BK466 := n0_; have BK467 := n1_; have HB := n2_; have BK468 := n3_; have GW468 := n4_; have GE468 := n5_; have NB466_468 := n6_; have NB468_466 := n7_; have NB467_468 := n8_; have NB468_467 := n9_; clear n0_ n1_ n2_ n3_ n4_ n5_ n6_ n7_ n8_ n9_; clear hb hbox hg))
  (try simp only [Act.put, List.setIfInBounds_toArray, List.set_cons_zero, List.set_cons_succ])
  go_cut [29] (fun v29 wc => ∃ (kq : Nat) (x29_3 : Bool), v29 = .bool x29_3 ∧ Aside0 (whittlelaw1_NumOrder.j0 kq x29_3 a0_0 a0_1 a1_0 a1_1 a2_0 a2_1 = some r) ∧ Aside0 (kq ≤ k) ∧ Aside0 (wc.heap[gb466]? = some (.cells #[.int .i64 a0_0, .int .i64 a0_1] 23 (0, 0))) ∧ Aside0 (wc.heap[gb467]? = some (.cells #[.int .i64 a1_0, .int .i64 a1_1] 23 (0, 0))) ∧ Aside0 (wc.heap[gb468]? = some (.cells #[.int .i64 a2_0, .int .i64 a2_1] 23 (0, 0))) ∧ Aside0 (Below w.heap.size w wc))
  case first =>
    have H := HC4.out
    clear HC4
    replace H := Option.bind_eq_some_iff.mp H
    obtain ⟨t469, A80, H⟩ := H
    replace H : (if t469 = true then ((whittlelaw1_right.f k a0_0 a0_1).bind fun t470 => (if t470 = true then ((whittlelaw1_right.f k a1_0 a1_1).bind fun t471 => (if t471 = true then ((whittlelaw1_right.f k a2_0 a2_1).bind fun t472 => (whittlelaw1_NumOrder.j0 k (!t472) a0_0 a0_1 a1_0 a1_1 a2_0 a2_1)) else (whittlelaw1_NumOrder.j0 k true a0_0 a0_1 a1_0 a1_1 a2_0 a2_1))) else (whittlelaw1_NumOrder.j0 k true a0_0 a0_1 a1_0 a1_1 a2_0 a2_1))) else (whittlelaw1_NumOrder.j0 k true a0_0 a0_1 a1_0 a1_1 a2_0 a2_1)) = some r := H
    have A8 := Aside0.mk A80
    clear A80
    by_cases c9 : t469 = true
    · subst c9
      have H1 : ((whittlelaw1_right.f k a0_0 a0_1).bind fun t470 => (if t470 = true then ((whittlelaw1_right.f k a1_0 a1_1).bind fun t471 => (if t471 = true then ((whittlelaw1_right.f k a2_0 a2_1).bind fun t472 => (whittlelaw1_NumOrder.j0 k (!t472) a0_0 a0_1 a1_0 a1_1 a2_0 a2_1)) else (whittlelaw1_NumOrder.j0 k true a0_0 a0_1 a1_0 a1_1 a2_0 a2_1))) else (whittlelaw1_NumOrder.j0 k true a0_0 a0_1 a1_0 a1_1 a2_0 a2_1))) = some r := by rw [if_pos rfl] at H; exact H
      clear H
      have H := H1
      clear H1
      replace H := Option.bind_eq_some_iff.mp H
      obtain ⟨t470, A100, H⟩ := H
      replace H : (if t470 = true then ((whittlelaw1_right.f k a1_0 a1_1).bind fun t471 => (if t471 = true then ((whittlelaw1_right.f k a2_0 a2_1).bind fun t472 => (whittlelaw1_NumOrder.j0 k (!t472) a0_0 a0_1 a1_0 a1_1 a2_0 a2_1)) else (whittlelaw1_NumOrder.j0 k true a0_0 a0_1 a1_0 a1_1 a2_0 a2_1))) else (whittlelaw1_NumOrder.j0 k true a0_0 a0_1 a1_0 a1_1 a2_0 a2_1)) = some r := H
      have A10 := Aside0.mk A100
      clear A100
      by_cases c11 : t470 = true
      · subst c11
        have H1 : ((whittlelaw1_right.f k a1_0 a1_1).bind fun t471 => (if t471 = true then ((whittlelaw1_right.f k a2_0 a2_1).bind fun t472 => (whittlelaw1_NumOrder.j0 k (!t472) a0_0 a0_1 a1_0 a1_1 a2_0 a2_1)) else (whittlelaw1_NumOrder.j0 k true a0_0 a0_1 a1_0 a1_1 a2_0 a2_1))) = some r := by rw [if_pos rfl] at H; exact H
        clear H
        have H := H1
        clear H1
        replace H := Option.bind_eq_some_iff.mp H
        obtain ⟨t471, A120, H⟩ := H
        replace H : (if t471 = true then ((whittlelaw1_right.f k a2_0 a2_1).bind fun t472 => (whittlelaw1_NumOrder.j0 k (!t472) a0_0 a0_1 a1_0 a1_1 a2_0 a2_1)) else (whittlelaw1_NumOrder.j0 k true a0_0 a0_1 a1_0 a1_1 a2_0 a2_1)) = some r := H
        have A12 := Aside0.mk A120
        clear A120
        by_cases c13 : t471 = true
        · subst c13
          have H1 : ((whittlelaw1_right.f k a2_0 a2_1).bind fun t472 => (whittlelaw1_NumOrder.j0 k (!t472) a0_0 a0_1 a1_0 a1_1 a2_0 a2_1)) = some r := by rw [if_pos rfl] at H; exact H
          clear H
          have H := H1
          clear H1
          replace H := Option.bind_eq_some_iff.mp H
          obtain ⟨t472, A140, H⟩ := H
          replace H : (whittlelaw1_NumOrder.j0 k (!t472) a0_0 a0_1 a1_0 a1_1 a2_0 a2_1) = some r := H
          have A14 := Aside0.mk A140
          clear A140
          have H' := Aside0.mk H
          clear H
          go_wp2_with (first | ((with_reducible refine gate_callee (f := 22) rfl ?_); refine goesL_ (some 13) rfl rfl Tryd.func22 (by kernel_rfl) rfl #[] rfl (by (try simp only [List.map_toArray, List.map_cons, List.map_nil]); first | done | rfl | (simp only [List.length_drop, List.length_take]; rfl)) ?_; (with_reducible refine (whittlelaw1_able.calls k  true _ ?side1 A8.out).mono ?_); (case side1 => exact HT.out.on (by repeat (first | (with_reducible first | exact HB.out | apply below_alloc | apply pw_below_drewN | apply below_drew1 | refine below_set ?_ GE466.out | refine below_set ?_ GE467.out | refine below_set ?_ GE468.out) | exact HB.out))); rintro e w15 ⟨rfl, hb⟩; refine ⟨_, rfl, ?_⟩; have n0_ := Aside0.mk (blk_below (g := gb466) (o := .cells #[.int .i64 a0_0, .int .i64 a0_1] 23 (0, 0)) (by (with_reducible repeat (first | refine blk_drewN ?_ _ | refine blk_drew ?_ | refine blk_alloc ?_ _)); exact BK466.out) hb); have n1_ := Aside0.mk (blk_below (g := gb467) (o := .cells #[.int .i64 a1_0, .int .i64 a1_1] 23 (0, 0)) (by (with_reducible repeat (first | refine blk_drewN ?_ _ | refine blk_drew ?_ | refine blk_alloc ?_ _)); exact BK467.out) hb); have n2_ := Aside0.mk (blk_below (g := gb468) (o := .cells #[.int .i64 a2_0, .int .i64 a2_1] 23 (0, 0)) (by (with_reducible repeat (first | refine blk_drewN ?_ _ | refine blk_drew ?_ | refine blk_alloc ?_ _)); exact BK468.out) hb); have n3_ := Aside0.mk (below_step (by repeat (first | (with_reducible first | exact HB.out | apply below_alloc | apply pw_below_drewN | apply below_drew1 | refine below_set ?_ GE466.out | refine below_set ?_ GE467.out | refine below_set ?_ GE468.out) | exact HB.out)) hb); clear BK466; clear BK467; clear BK468; clear HB; have BK466 := n0_; have BK467 := n1_; have BK468 := n2_; have HB := n3_; clear n0_ n1_ n2_ n3_; (try clear hb); (try clear hb2); (try clear hk); (try clear hi); have hnb16 := NB466_467.out; have hnc16 := NB467_466.out; have hnb17 := NB466_468.out; have hnc17 := NB468_466.out; have hcz18_0 : w15.cell? ⟨gb466, 0, none⟩ = some (.int .i64 a0_0) := (blk_cell BK466.out 0).trans rfl; have hcz18_1 : w15.cell? ⟨gb466, 1, none⟩ = some (.int .i64 a0_1) := (blk_cell BK466.out 1).trans rfl; have hfz18_0 := blk_frozen BK466.out 0; have hfz18_1 := blk_frozen BK466.out 1) | (go_at_call 31; (with_reducible refine (whittlelaw1_right.calls k a0_0 a0_1 true _ A10.out).mono ?_); rintro e w19 ⟨rfl, hb⟩; have n0_ := Aside0.mk (blk_below (g := gb466) (o := .cells #[.int .i64 a0_0, .int .i64 a0_1] 23 (0, 0)) (by (with_reducible repeat (first | refine blk_drewN ?_ _ | refine blk_drew ?_ | refine blk_alloc ?_ _)); exact BK466.out) hb); have n1_ := Aside0.mk (blk_below (g := gb467) (o := .cells #[.int .i64 a1_0, .int .i64 a1_1] 23 (0, 0)) (by (with_reducible repeat (first | refine blk_drewN ?_ _ | refine blk_drew ?_ | refine blk_alloc ?_ _)); exact BK467.out) hb); have n2_ := Aside0.mk (blk_below (g := gb468) (o := .cells #[.int .i64 a2_0, .int .i64 a2_1] 23 (0, 0)) (by (with_reducible repeat (first | refine blk_drewN ?_ _ | refine blk_drew ?_ | refine blk_alloc ?_ _)); exact BK468.out) hb); have n3_ := Aside0.mk (below_step (by repeat (first | (with_reducible first | exact HB.out | apply below_alloc | apply pw_below_drewN | apply below_drew1 | refine below_set ?_ GE466.out | refine below_set ?_ GE467.out | refine below_set ?_ GE468.out) | exact HB.out)) hb); clear BK466; clear BK467; clear BK468; clear HB; have BK466 := n0_; have BK467 := n1_; have BK468 := n2_; have HB := n3_; clear n0_ n1_ n2_ n3_; (try clear hb); (try clear hb2); (try clear hk); (try clear hi); have hnb20 := NB467_468.out; have hnc20 := NB468_467.out; have hcz21_0 : w19.cell? ⟨gb467, 0, none⟩ = some (.int .i64 a1_0) := (blk_cell BK467.out 0).trans rfl; have hcz21_1 : w19.cell? ⟨gb467, 1, none⟩ = some (.int .i64 a1_1) := (blk_cell BK467.out 1).trans rfl; have hfz21_0 := blk_frozen BK467.out 0; have hfz21_1 := blk_frozen BK467.out 1) | (go_at_call 31; (with_reducible refine (whittlelaw1_right.calls k a1_0 a1_1 true _ A12.out).mono ?_); rintro e w22 ⟨rfl, hb⟩; have n0_ := Aside0.mk (blk_below (g := gb466) (o := .cells #[.int .i64 a0_0, .int .i64 a0_1] 23 (0, 0)) (by (with_reducible repeat (first | refine blk_drewN ?_ _ | refine blk_drew ?_ | refine blk_alloc ?_ _)); exact BK466.out) hb); have n1_ := Aside0.mk (blk_below (g := gb467) (o := .cells #[.int .i64 a1_0, .int .i64 a1_1] 23 (0, 0)) (by (with_reducible repeat (first | refine blk_drewN ?_ _ | refine blk_drew ?_ | refine blk_alloc ?_ _)); exact BK467.out) hb); have n2_ := Aside0.mk (blk_below (g := gb468) (o := .cells #[.int .i64 a2_0, .int .i64 a2_1] 23 (0, 0)) (by (with_reducible repeat (first | refine blk_drewN ?_ _ | refine blk_drew ?_ | refine blk_alloc ?_ _)); exact BK468.out) hb); have n3_ := Aside0.mk (below_step (by repeat (first | (with_reducible first | exact HB.out | apply below_alloc | apply pw_below_drewN | apply below_drew1 | refine below_set ?_ GE466.out | refine below_set ?_ GE467.out | refine below_set ?_ GE468.out) | exact HB.out)) hb); clear BK466; clear BK467; clear BK468; clear HB; have BK466 := n0_; have BK467 := n1_; have BK468 := n2_; have HB := n3_; clear n0_ n1_ n2_ n3_; (try clear hb); (try clear hb2); (try clear hk); (try clear hi); have hcz23_0 : w22.cell? ⟨gb468, 0, none⟩ = some (.int .i64 a2_0) := (blk_cell BK468.out 0).trans rfl; have hcz23_1 : w22.cell? ⟨gb468, 1, none⟩ = some (.int .i64 a2_1) := (blk_cell BK468.out 1).trans rfl; have hfz23_0 := blk_frozen BK468.out 0; have hfz23_1 := blk_frozen BK468.out 1) | (go_at_call 31; (with_reducible refine (whittlelaw1_right.calls k a2_0 a2_1 t472 _ A14.out).mono ?_); rintro e w24 ⟨rfl, hb⟩; have n0_ := Aside0.mk (blk_below (g := gb466) (o := .cells #[.int .i64 a0_0, .int .i64 a0_1] 23 (0, 0)) (by (with_reducible repeat (first | refine blk_drewN ?_ _ | refine blk_drew ?_ | refine blk_alloc ?_ _)); exact BK466.out) hb); have n1_ := Aside0.mk (blk_below (g := gb467) (o := .cells #[.int .i64 a1_0, .int .i64 a1_1] 23 (0, 0)) (by (with_reducible repeat (first | refine blk_drewN ?_ _ | refine blk_drew ?_ | refine blk_alloc ?_ _)); exact BK467.out) hb); have n2_ := Aside0.mk (blk_below (g := gb468) (o := .cells #[.int .i64 a2_0, .int .i64 a2_1] 23 (0, 0)) (by (with_reducible repeat (first | refine blk_drewN ?_ _ | refine blk_drew ?_ | refine blk_alloc ?_ _)); exact BK468.out) hb); have n3_ := Aside0.mk (below_step (by repeat (first | (with_reducible first | exact HB.out | apply below_alloc | apply pw_below_drewN | apply below_drew1 | refine below_set ?_ GE466.out | refine below_set ?_ GE467.out | refine below_set ?_ GE468.out) | exact HB.out)) hb); clear BK466; clear BK467; clear BK468; clear HB; have BK466 := n0_; have BK467 := n1_; have BK468 := n2_; have HB := n3_; clear n0_ n1_ n2_ n3_; (try clear hb); (try clear hb2); (try clear hk); (try clear hi)))
          go_meet
          case rel => exact ⟨_, (!t472), (by first | rfl | (simp; done) | (simp [*]; done) | (simp [bne_nil]; done)), H', ⟨by first | omega | exact Nat.le_refl _⟩, ⟨by (with_reducible repeat (first | refine blk_drewN ?_ _ | refine blk_drew ?_ | refine blk_alloc ?_ _)); exact BK466.out⟩, ⟨by (with_reducible repeat (first | refine blk_drewN ?_ _ | refine blk_drew ?_ | refine blk_alloc ?_ _)); exact BK467.out⟩, ⟨by (with_reducible repeat (first | refine blk_drewN ?_ _ | refine blk_drew ?_ | refine blk_alloc ?_ _)); exact BK468.out⟩, ⟨by repeat (first | (with_reducible first | exact HB.out | apply below_alloc | apply pw_below_drewN | apply below_drew1 | refine below_set ?_ GE466.out | refine below_set ?_ GE467.out | refine below_set ?_ GE468.out) | exact HB.out)⟩⟩
        · replace c13 := Bool.eq_false_iff.mpr c13
          subst c13
          have H1 : (whittlelaw1_NumOrder.j0 k true a0_0 a0_1 a1_0 a1_1 a2_0 a2_1) = some r := by rw [if_neg (show ¬ (false = true) by decide)] at H; exact H
          clear H
          have H := H1
          clear H1
          have H' := Aside0.mk H
          clear H
          go_wp2_with (first | ((with_reducible refine gate_callee (f := 22) rfl ?_); refine goesL_ (some 13) rfl rfl Tryd.func22 (by kernel_rfl) rfl #[] rfl (by (try simp only [List.map_toArray, List.map_cons, List.map_nil]); first | done | rfl | (simp only [List.length_drop, List.length_take]; rfl)) ?_; (with_reducible refine (whittlelaw1_able.calls k  true _ ?side1 A8.out).mono ?_); (case side1 => exact HT.out.on (by repeat (first | (with_reducible first | exact HB.out | apply below_alloc | apply pw_below_drewN | apply below_drew1 | refine below_set ?_ GE466.out | refine below_set ?_ GE467.out | refine below_set ?_ GE468.out) | exact HB.out))); rintro e w25 ⟨rfl, hb⟩; refine ⟨_, rfl, ?_⟩; have n0_ := Aside0.mk (blk_below (g := gb466) (o := .cells #[.int .i64 a0_0, .int .i64 a0_1] 23 (0, 0)) (by (with_reducible repeat (first | refine blk_drewN ?_ _ | refine blk_drew ?_ | refine blk_alloc ?_ _)); exact BK466.out) hb); have n1_ := Aside0.mk (blk_below (g := gb467) (o := .cells #[.int .i64 a1_0, .int .i64 a1_1] 23 (0, 0)) (by (with_reducible repeat (first | refine blk_drewN ?_ _ | refine blk_drew ?_ | refine blk_alloc ?_ _)); exact BK467.out) hb); have n2_ := Aside0.mk (blk_below (g := gb468) (o := .cells #[.int .i64 a2_0, .int .i64 a2_1] 23 (0, 0)) (by (with_reducible repeat (first | refine blk_drewN ?_ _ | refine blk_drew ?_ | refine blk_alloc ?_ _)); exact BK468.out) hb); have n3_ := Aside0.mk (below_step (by repeat (first | (with_reducible first | exact HB.out | apply below_alloc | apply pw_below_drewN | apply below_drew1 | refine below_set ?_ GE466.out | refine below_set ?_ GE467.out | refine below_set ?_ GE468.out) | exact HB.out)) hb); clear BK466; clear BK467; clear BK468; clear HB; have BK466 := n0_; have BK467 := n1_; have BK468 := n2_; have HB := n3_; clear n0_ n1_ n2_ n3_; (try clear hb); (try clear hb2); (try clear hk); (try clear hi); have hnb26 := NB466_467.out; have hnc26 := NB467_466.out; have hnb27 := NB466_468.out; have hnc27 := NB468_466.out; have hcz28_0 : w25.cell? ⟨gb466, 0, none⟩ = some (.int .i64 a0_0) := (blk_cell BK466.out 0).trans rfl; have hcz28_1 : w25.cell? ⟨gb466, 1, none⟩ = some (.int .i64 a0_1) := (blk_cell BK466.out 1).trans rfl; have hfz28_0 := blk_frozen BK466.out 0; have hfz28_1 := blk_frozen BK466.out 1) | (go_at_call 31; (with_reducible refine (whittlelaw1_right.calls k a0_0 a0_1 true _ A10.out).mono ?_); rintro e w29 ⟨rfl, hb⟩; have n0_ := Aside0.mk (blk_below (g := gb466) (o := .cells #[.int .i64 a0_0, .int .i64 a0_1] 23 (0, 0)) (by (with_reducible repeat (first | refine blk_drewN ?_ _ | refine blk_drew ?_ | refine blk_alloc ?_ _)); exact BK466.out) hb); have n1_ := Aside0.mk (blk_below (g := gb467) (o := .cells #[.int .i64 a1_0, .int .i64 a1_1] 23 (0, 0)) (by (with_reducible repeat (first | refine blk_drewN ?_ _ | refine blk_drew ?_ | refine blk_alloc ?_ _)); exact BK467.out) hb); have n2_ := Aside0.mk (blk_below (g := gb468) (o := .cells #[.int .i64 a2_0, .int .i64 a2_1] 23 (0, 0)) (by (with_reducible repeat (first | refine blk_drewN ?_ _ | refine blk_drew ?_ | refine blk_alloc ?_ _)); exact BK468.out) hb); have n3_ := Aside0.mk (below_step (by repeat (first | (with_reducible first | exact HB.out | apply below_alloc | apply pw_below_drewN | apply below_drew1 | refine below_set ?_ GE466.out | refine below_set ?_ GE467.out | refine below_set ?_ GE468.out) | exact HB.out)) hb); clear BK466; clear BK467; clear BK468; clear HB; have BK466 := n0_; have BK467 := n1_; have BK468 := n2_; have HB := n3_; clear n0_ n1_ n2_ n3_; (try clear hb); (try clear hb2); (try clear hk); (try clear hi); have hnb30 := NB467_468.out; have hnc30 := NB468_467.out; have hcz31_0 : w29.cell? ⟨gb467, 0, none⟩ = some (.int .i64 a1_0) := (blk_cell BK467.out 0).trans rfl; have hcz31_1 : w29.cell? ⟨gb467, 1, none⟩ = some (.int .i64 a1_1) := (blk_cell BK467.out 1).trans rfl; have hfz31_0 := blk_frozen BK467.out 0; have hfz31_1 := blk_frozen BK467.out 1) | (go_at_call 31; (with_reducible refine (whittlelaw1_right.calls k a1_0 a1_1 false _ A12.out).mono ?_); rintro e w32 ⟨rfl, hb⟩; have n0_ := Aside0.mk (blk_below (g := gb466) (o := .cells #[.int .i64 a0_0, .int .i64 a0_1] 23 (0, 0)) (by (with_reducible repeat (first | refine blk_drewN ?_ _ | refine blk_drew ?_ | refine blk_alloc ?_ _)); exact BK466.out) hb); have n1_ := Aside0.mk (blk_below (g := gb467) (o := .cells #[.int .i64 a1_0, .int .i64 a1_1] 23 (0, 0)) (by (with_reducible repeat (first | refine blk_drewN ?_ _ | refine blk_drew ?_ | refine blk_alloc ?_ _)); exact BK467.out) hb); have n2_ := Aside0.mk (blk_below (g := gb468) (o := .cells #[.int .i64 a2_0, .int .i64 a2_1] 23 (0, 0)) (by (with_reducible repeat (first | refine blk_drewN ?_ _ | refine blk_drew ?_ | refine blk_alloc ?_ _)); exact BK468.out) hb); have n3_ := Aside0.mk (below_step (by repeat (first | (with_reducible first | exact HB.out | apply below_alloc | apply pw_below_drewN | apply below_drew1 | refine below_set ?_ GE466.out | refine below_set ?_ GE467.out | refine below_set ?_ GE468.out) | exact HB.out)) hb); clear BK466; clear BK467; clear BK468; clear HB; have BK466 := n0_; have BK467 := n1_; have BK468 := n2_; have HB := n3_; clear n0_ n1_ n2_ n3_; (try clear hb); (try clear hb2); (try clear hk); (try clear hi)))
          go_meet
          case rel => exact ⟨_, (true), (by first | rfl | (simp; done) | (simp [*]; done) | (simp [bne_nil]; done)), H', ⟨by first | omega | exact Nat.le_refl _⟩, ⟨by (with_reducible repeat (first | refine blk_drewN ?_ _ | refine blk_drew ?_ | refine blk_alloc ?_ _)); exact BK466.out⟩, ⟨by (with_reducible repeat (first | refine blk_drewN ?_ _ | refine blk_drew ?_ | refine blk_alloc ?_ _)); exact BK467.out⟩, ⟨by (with_reducible repeat (first | refine blk_drewN ?_ _ | refine blk_drew ?_ | refine blk_alloc ?_ _)); exact BK468.out⟩, ⟨by repeat (first | (with_reducible first | exact HB.out | apply below_alloc | apply pw_below_drewN | apply below_drew1 | refine below_set ?_ GE466.out | refine below_set ?_ GE467.out | refine below_set ?_ GE468.out) | exact HB.out)⟩⟩
      · replace c11 := Bool.eq_false_iff.mpr c11
        subst c11
        have H1 : (whittlelaw1_NumOrder.j0 k true a0_0 a0_1 a1_0 a1_1 a2_0 a2_1) = some r := by rw [if_neg (show ¬ (false = true) by decide)] at H; exact H
        clear H
        have H := H1
        clear H1
        have H' := Aside0.mk H
        clear H
        go_wp2_with (first | ((with_reducible refine gate_callee (f := 22) rfl ?_); refine goesL_ (some 13) rfl rfl Tryd.func22 (by kernel_rfl) rfl #[] rfl (by (try simp only [List.map_toArray, List.map_cons, List.map_nil]); first | done | rfl | (simp only [List.length_drop, List.length_take]; rfl)) ?_; (with_reducible refine (whittlelaw1_able.calls k  true _ ?side1 A8.out).mono ?_); (case side1 => exact HT.out.on (by repeat (first | (with_reducible first | exact HB.out | apply below_alloc | apply pw_below_drewN | apply below_drew1 | refine below_set ?_ GE466.out | refine below_set ?_ GE467.out | refine below_set ?_ GE468.out) | exact HB.out))); rintro e w33 ⟨rfl, hb⟩; refine ⟨_, rfl, ?_⟩; have n0_ := Aside0.mk (blk_below (g := gb466) (o := .cells #[.int .i64 a0_0, .int .i64 a0_1] 23 (0, 0)) (by (with_reducible repeat (first | refine blk_drewN ?_ _ | refine blk_drew ?_ | refine blk_alloc ?_ _)); exact BK466.out) hb); have n1_ := Aside0.mk (blk_below (g := gb467) (o := .cells #[.int .i64 a1_0, .int .i64 a1_1] 23 (0, 0)) (by (with_reducible repeat (first | refine blk_drewN ?_ _ | refine blk_drew ?_ | refine blk_alloc ?_ _)); exact BK467.out) hb); have n2_ := Aside0.mk (blk_below (g := gb468) (o := .cells #[.int .i64 a2_0, .int .i64 a2_1] 23 (0, 0)) (by (with_reducible repeat (first | refine blk_drewN ?_ _ | refine blk_drew ?_ | refine blk_alloc ?_ _)); exact BK468.out) hb); have n3_ := Aside0.mk (below_step (by repeat (first | (with_reducible first | exact HB.out | apply below_alloc | apply pw_below_drewN | apply below_drew1 | refine below_set ?_ GE466.out | refine below_set ?_ GE467.out | refine below_set ?_ GE468.out) | exact HB.out)) hb); clear BK466; clear BK467; clear BK468; clear HB; have BK466 := n0_; have BK467 := n1_; have BK468 := n2_; have HB := n3_; clear n0_ n1_ n2_ n3_; (try clear hb); (try clear hb2); (try clear hk); (try clear hi); have hnb34 := NB466_467.out; have hnc34 := NB467_466.out; have hnb35 := NB466_468.out; have hnc35 := NB468_466.out; have hcz36_0 : w33.cell? ⟨gb466, 0, none⟩ = some (.int .i64 a0_0) := (blk_cell BK466.out 0).trans rfl; have hcz36_1 : w33.cell? ⟨gb466, 1, none⟩ = some (.int .i64 a0_1) := (blk_cell BK466.out 1).trans rfl; have hfz36_0 := blk_frozen BK466.out 0; have hfz36_1 := blk_frozen BK466.out 1) | (go_at_call 31; (with_reducible refine (whittlelaw1_right.calls k a0_0 a0_1 false _ A10.out).mono ?_); rintro e w37 ⟨rfl, hb⟩; have n0_ := Aside0.mk (blk_below (g := gb466) (o := .cells #[.int .i64 a0_0, .int .i64 a0_1] 23 (0, 0)) (by (with_reducible repeat (first | refine blk_drewN ?_ _ | refine blk_drew ?_ | refine blk_alloc ?_ _)); exact BK466.out) hb); have n1_ := Aside0.mk (blk_below (g := gb467) (o := .cells #[.int .i64 a1_0, .int .i64 a1_1] 23 (0, 0)) (by (with_reducible repeat (first | refine blk_drewN ?_ _ | refine blk_drew ?_ | refine blk_alloc ?_ _)); exact BK467.out) hb); have n2_ := Aside0.mk (blk_below (g := gb468) (o := .cells #[.int .i64 a2_0, .int .i64 a2_1] 23 (0, 0)) (by (with_reducible repeat (first | refine blk_drewN ?_ _ | refine blk_drew ?_ | refine blk_alloc ?_ _)); exact BK468.out) hb); have n3_ := Aside0.mk (below_step (by repeat (first | (with_reducible first | exact HB.out | apply below_alloc | apply pw_below_drewN | apply below_drew1 | refine below_set ?_ GE466.out | refine below_set ?_ GE467.out | refine below_set ?_ GE468.out) | exact HB.out)) hb); clear BK466; clear BK467; clear BK468; clear HB; have BK466 := n0_; have BK467 := n1_; have BK468 := n2_; have HB := n3_; clear n0_ n1_ n2_ n3_; (try clear hb); (try clear hb2); (try clear hk); (try clear hi)))
        go_meet
        case rel => exact ⟨_, (true), (by first | rfl | (simp; done) | (simp [*]; done) | (simp [bne_nil]; done)), H', ⟨by first | omega | exact Nat.le_refl _⟩, ⟨by (with_reducible repeat (first | refine blk_drewN ?_ _ | refine blk_drew ?_ | refine blk_alloc ?_ _)); exact BK466.out⟩, ⟨by (with_reducible repeat (first | refine blk_drewN ?_ _ | refine blk_drew ?_ | refine blk_alloc ?_ _)); exact BK467.out⟩, ⟨by (with_reducible repeat (first | refine blk_drewN ?_ _ | refine blk_drew ?_ | refine blk_alloc ?_ _)); exact BK468.out⟩, ⟨by repeat (first | (with_reducible first | exact HB.out | apply below_alloc | apply pw_below_drewN | apply below_drew1 | refine below_set ?_ GE466.out | refine below_set ?_ GE467.out | refine below_set ?_ GE468.out) | exact HB.out)⟩⟩
    · replace c9 := Bool.eq_false_iff.mpr c9
      subst c9
      have H1 : (whittlelaw1_NumOrder.j0 k true a0_0 a0_1 a1_0 a1_1 a2_0 a2_1) = some r := by rw [if_neg (show ¬ (false = true) by decide)] at H; exact H
      clear H
      have H := H1
      clear H1
      have H' := Aside0.mk H
      clear H
      go_wp2_with (first | ((with_reducible refine gate_callee (f := 22) rfl ?_); refine goesL_ (some 13) rfl rfl Tryd.func22 (by kernel_rfl) rfl #[] rfl (by (try simp only [List.map_toArray, List.map_cons, List.map_nil]); first | done | rfl | (simp only [List.length_drop, List.length_take]; rfl)) ?_; (with_reducible refine (whittlelaw1_able.calls k  false _ ?side1 A8.out).mono ?_); (case side1 => exact HT.out.on (by repeat (first | (with_reducible first | exact HB.out | apply below_alloc | apply pw_below_drewN | apply below_drew1 | refine below_set ?_ GE466.out | refine below_set ?_ GE467.out | refine below_set ?_ GE468.out) | exact HB.out))); rintro e w38 ⟨rfl, hb⟩; refine ⟨_, rfl, ?_⟩; have n0_ := Aside0.mk (blk_below (g := gb466) (o := .cells #[.int .i64 a0_0, .int .i64 a0_1] 23 (0, 0)) (by (with_reducible repeat (first | refine blk_drewN ?_ _ | refine blk_drew ?_ | refine blk_alloc ?_ _)); exact BK466.out) hb); have n1_ := Aside0.mk (blk_below (g := gb467) (o := .cells #[.int .i64 a1_0, .int .i64 a1_1] 23 (0, 0)) (by (with_reducible repeat (first | refine blk_drewN ?_ _ | refine blk_drew ?_ | refine blk_alloc ?_ _)); exact BK467.out) hb); have n2_ := Aside0.mk (blk_below (g := gb468) (o := .cells #[.int .i64 a2_0, .int .i64 a2_1] 23 (0, 0)) (by (with_reducible repeat (first | refine blk_drewN ?_ _ | refine blk_drew ?_ | refine blk_alloc ?_ _)); exact BK468.out) hb); have n3_ := Aside0.mk (below_step (by repeat (first | (with_reducible first | exact HB.out | apply below_alloc | apply pw_below_drewN | apply below_drew1 | refine below_set ?_ GE466.out | refine below_set ?_ GE467.out | refine below_set ?_ GE468.out) | exact HB.out)) hb); clear BK466; clear BK467; clear BK468; clear HB; have BK466 := n0_; have BK467 := n1_; have BK468 := n2_; have HB := n3_; clear n0_ n1_ n2_ n3_; (try clear hb); (try clear hb2); (try clear hk); (try clear hi)))
      go_meet
      case rel => exact ⟨_, (true), (by first | rfl | (simp; done) | (simp [*]; done) | (simp [bne_nil]; done)), H', ⟨by first | omega | exact Nat.le_refl _⟩, ⟨by (with_reducible repeat (first | refine blk_drewN ?_ _ | refine blk_drew ?_ | refine blk_alloc ?_ _)); exact BK466.out⟩, ⟨by (with_reducible repeat (first | refine blk_drewN ?_ _ | refine blk_drew ?_ | refine blk_alloc ?_ _)); exact BK467.out⟩, ⟨by (with_reducible repeat (first | refine blk_drewN ?_ _ | refine blk_drew ?_ | refine blk_alloc ?_ _)); exact BK468.out⟩, ⟨by repeat (first | (with_reducible first | exact HB.out | apply below_alloc | apply pw_below_drewN | apply below_drew1 | refine below_set ?_ GE466.out | refine below_set ?_ GE467.out | refine below_set ?_ GE468.out) | exact HB.out)⟩⟩
  case rest =>
    clear HC4
    try clear c1
    try clear c2
    try clear p2
    try clear c3
    try clear c9
    try clear c11
    try clear c13
    try clear c16
    try clear c17
    try clear c20
    try clear c22
    try clear c26
    try clear c27
    try clear c30
    try clear c34
    try clear c35
    try clear hcz18_0
    try clear hcz18_1
    try clear hcz21_0
    try clear hcz21_1
    try clear hcz23_0
    try clear hcz23_1
    try clear hcz28_0
    try clear hcz28_1
    try clear hcz31_0
    try clear hcz31_1
    try clear hcz36_0
    try clear hcz36_1
    try clear hfz18_0
    try clear hfz18_1
    try clear hfz21_0
    try clear hfz21_1
    try clear hfz23_0
    try clear hfz23_1
    try clear hfz28_0
    try clear hfz28_1
    try clear hfz31_0
    try clear hfz31_1
    try clear hfz36_0
    try clear hfz36_1
    obtain ⟨kq, x29_3, rfl, HA, HJ3, BK466, BK467, BK468, HB⟩ := hcut
    cases kq with
    | zero => exact absurd HA.out (by simp [whittlelaw1_NumOrder.j0])
    | succ kj3 =>
      have H := HA.out
      clear HA
      simp only [whittlelaw1_NumOrder.j0] at H
      by_cases c39 : x29_3 = true
      · subst c39
        have H1 : ((whittlelaw1_able.f kj3).bind fun t473 => (some t473)) = some r := by rw [if_pos rfl] at H; exact H
        clear H
        have H := H1
        clear H1
        replace H := Option.bind_eq_some_iff.mp H
        obtain ⟨t473, A400, H⟩ := H
        replace H : (some t473) = some r := H
        have A40 := Aside0.mk A400
        clear A400
        clear HR
        obtain rfl := Option.some.inj H
        go_wp2_with (first | ((with_reducible refine gate_callee (f := 22) rfl ?_); refine goesL_ (some 30) rfl rfl Tryd.func22 (by kernel_rfl) rfl #[] rfl (by (try simp only [List.map_toArray, List.map_cons, List.map_nil]); first | done | rfl | (simp only [List.length_drop, List.length_take]; rfl)) ?_; (with_reducible refine (whittlelaw1_able.calls kj3  t473 _ ?side1 A40.out).mono ?_); (case side1 => exact HT.out.on (by repeat (first | (with_reducible first | exact HB.out | apply below_alloc | apply pw_below_drewN | apply below_drew1 | refine below_set ?_ GE466.out | refine below_set ?_ GE467.out | refine below_set ?_ GE468.out) | exact HB.out))); rintro e w41 ⟨rfl, hb⟩; refine ⟨_, rfl, ?_⟩; have n0_ := Aside0.mk (blk_below (g := gb466) (o := .cells #[.int .i64 a0_0, .int .i64 a0_1] 23 (0, 0)) (by (with_reducible repeat (first | refine blk_drewN ?_ _ | refine blk_drew ?_ | refine blk_alloc ?_ _)); exact BK466.out) hb); have n1_ := Aside0.mk (blk_below (g := gb467) (o := .cells #[.int .i64 a1_0, .int .i64 a1_1] 23 (0, 0)) (by (with_reducible repeat (first | refine blk_drewN ?_ _ | refine blk_drew ?_ | refine blk_alloc ?_ _)); exact BK467.out) hb); have n2_ := Aside0.mk (blk_below (g := gb468) (o := .cells #[.int .i64 a2_0, .int .i64 a2_1] 23 (0, 0)) (by (with_reducible repeat (first | refine blk_drewN ?_ _ | refine blk_drew ?_ | refine blk_alloc ?_ _)); exact BK468.out) hb); have n3_ := Aside0.mk (below_step (by repeat (first | (with_reducible first | exact HB.out | apply below_alloc | apply pw_below_drewN | apply below_drew1 | refine below_set ?_ GE466.out | refine below_set ?_ GE467.out | refine below_set ?_ GE468.out) | exact HB.out)) hb); clear BK466; clear BK467; clear BK468; clear HB; have BK466 := n0_; have BK467 := n1_; have BK468 := n2_; have HB := n3_; clear n0_ n1_ n2_ n3_; (try clear hb); (try clear hb2); (try clear hk); (try clear hi)))
        go_ret
        exact ⟨by first | rfl | (simp [errW_none, errW_some] <;> rfl) | (simp [*, errW_none, errW_some] <;> rfl), by repeat (first | (with_reducible first | exact HB.out | apply below_alloc | apply pw_below_drewN | apply below_drew1 | refine below_set ?_ GE466.out | refine below_set ?_ GE467.out | refine below_set ?_ GE468.out) | exact HB.out)⟩
      · replace c39 := Bool.eq_false_iff.mpr c39
        subst c39
        have H1 : ((num_Cmp.f kj3 a0_0 a0_1 a1_0 a1_1).bind fun t474 => (if t474 < (-1) then (whittlelaw1_NumOrder.j1 kj3 t474 true a0_0 a0_1 a1_0 a1_1 a2_0 a2_1) else (if t474 > 1 then (whittlelaw1_NumOrder.j1 kj3 t474 true a0_0 a0_1 a1_0 a1_1 a2_0 a2_1) else ((num_Cmp.f kj3 a1_0 a1_1 a0_0 a0_1).bind fun t475 => (if t475 = (wrap64 (-t474)) then (whittlelaw1_NumOrder.j1 kj3 t474 ((t474 == 0) != (a0_0 == a1_0 && (a0_1 == a1_1))) a0_0 a0_1 a1_0 a1_1 a2_0 a2_1) else (whittlelaw1_NumOrder.j1 kj3 t474 true a0_0 a0_1 a1_0 a1_1 a2_0 a2_1)))))) = some r := by rw [if_neg (show ¬ (false = true) by decide)] at H; exact H
        clear H
        have H := H1
        clear H1
        replace H := Option.bind_eq_some_iff.mp H
        obtain ⟨t474, A420, H⟩ := H
        replace H : (if t474 < (-1) then (whittlelaw1_NumOrder.j1 kj3 t474 true a0_0 a0_1 a1_0 a1_1 a2_0 a2_1) else (if t474 > 1 then (whittlelaw1_NumOrder.j1 kj3 t474 true a0_0 a0_1 a1_0 a1_1 a2_0 a2_1) else ((num_Cmp.f kj3 a1_0 a1_1 a0_0 a0_1).bind fun t475 => (if t475 = (wrap64 (-t474)) then (whittlelaw1_NumOrder.j1 kj3 t474 ((t474 == 0) != (a0_0 == a1_0 && (a0_1 == a1_1))) a0_0 a0_1 a1_0 a1_1 a2_0 a2_1) else (whittlelaw1_NumOrder.j1 kj3 t474 true a0_0 a0_1 a1_0 a1_1 a2_0 a2_1))))) = some r := H
        have A42 := Aside0.mk A420
        clear A420
        have HC43 := Aside0.mk H
        clear H
        have hnb44 := NB466_467.out
        have hnc44 := NB467_466.out
        have hnb45 := NB466_468.out
        have hnc45 := NB468_466.out
        have hcz46_0 : wc.cell? ⟨gb466, 0, none⟩ = some (.int .i64 a0_0) := (blk_cell BK466.out 0).trans rfl
        have hcz46_1 : wc.cell? ⟨gb466, 1, none⟩ = some (.int .i64 a0_1) := (blk_cell BK466.out 1).trans rfl
        have hfz46_0 := blk_frozen BK466.out 0
        have hfz46_1 := blk_frozen BK466.out 1
        have hnb47 := NB467_468.out
        have hnc47 := NB468_467.out
        have hcz48_0 : wc.cell? ⟨gb467, 0, none⟩ = some (.int .i64 a1_0) := (blk_cell BK467.out 0).trans rfl
        have hcz48_1 : wc.cell? ⟨gb467, 1, none⟩ = some (.int .i64 a1_1) := (blk_cell BK467.out 1).trans rfl
        have hfz48_0 := blk_frozen BK467.out 0
        have hfz48_1 := blk_frozen BK467.out 1
        go_upto_region 4 with (first | ((with_reducible refine gate_callee (f := 25) rfl ?_); refine goesL_ (some 33) rfl rfl Tryd.func25 (by kernel_rfl) rfl #[.agg #[.int .i64 a0_0, .int .i64 a0_1], .agg #[.int .i64 a1_0, .int .i64 a1_1]] rfl (by (try simp only [List.map_toArray, List.map_cons, List.map_nil]); first | done | rfl | (simp only [List.length_drop, List.length_take]; rfl)) ?_; (with_reducible refine (num_Cmp.calls kj3 a0_0 a0_1 a1_0 a1_1 t474 _ A42.out).mono ?_); rintro e w49 ⟨rfl, hb⟩; refine ⟨_, rfl, ?_⟩; have n0_ := Aside0.mk (blk_below (g := gb466) (o := .cells #[.int .i64 a0_0, .int .i64 a0_1] 23 (0, 0)) (by (with_reducible repeat (first | refine blk_drewN ?_ _ | refine blk_drew ?_ | refine blk_alloc ?_ _)); exact BK466.out) hb); have n1_ := Aside0.mk (blk_below (g := gb467) (o := .cells #[.int .i64 a1_0, .int .i64 a1_1] 23 (0, 0)) (by (with_reducible repeat (first | refine blk_drewN ?_ _ | refine blk_drew ?_ | refine blk_alloc ?_ _)); exact BK467.out) hb); have n2_ := Aside0.mk (blk_below (g := gb468) (o := .cells #[.int .i64 a2_0, .int .i64 a2_1] 23 (0, 0)) (by (with_reducible repeat (first | refine blk_drewN ?_ _ | refine blk_drew ?_ | refine blk_alloc ?_ _)); exact BK468.out) hb); have n3_ := Aside0.mk (below_step (by repeat (first | (with_reducible first | exact HB.out | apply below_alloc | apply pw_below_drewN | apply below_drew1 | refine below_set ?_ GE466.out | refine below_set ?_ GE467.out | refine below_set ?_ GE468.out) | exact HB.out)) hb); clear BK466; clear BK467; clear BK468; clear HB; have BK466 := n0_; have BK467 := n1_; have BK468 := n2_; have HB := n3_; clear n0_ n1_ n2_ n3_; (try clear hb); (try clear hb2); (try clear hk); (try clear hi)))
        (try simp only [Act.put, List.setIfInBounds_toArray, List.set_cons_zero, List.set_cons_succ])
        go_cut [55] (fun v55 wc => ∃ (kq : Nat) (x55_42 : Bool), v55 = .bool x55_42 ∧ Aside0 (whittlelaw1_NumOrder.j1 kq t474 x55_42 a0_0 a0_1 a1_0 a1_1 a2_0 a2_1 = some r) ∧ Aside0 (kq ≤ kj3) ∧ Aside0 (wc.heap[gb466]? = some (.cells #[.int .i64 a0_0, .int .i64 a0_1] 23 (0, 0))) ∧ Aside0 (wc.heap[gb467]? = some (.cells #[.int .i64 a1_0, .int .i64 a1_1] 23 (0, 0))) ∧ Aside0 (wc.heap[gb468]? = some (.cells #[.int .i64 a2_0, .int .i64 a2_1] 23 (0, 0))) ∧ Aside0 (Below w.heap.size w wc))
        case first =>
          have H := HC43.out
          clear HC43
          by_cases c50 : t474 < (-1)
          · rw [if_pos c50] at H
            have c50b0 : decide (t474 < (-1)) = true := decide_eq_true c50
            clear c50
            (first | rw [c50b0] | (simp only [i64_w, i32_w]; rw [c50b0]) | skip)
            have H' := Aside0.mk H
            clear H
            go_wp2
            go_meet
            case rel => exact ⟨_, (true), (by first | rfl | (simp; done) | (simp [*]; done) | (simp [bne_nil]; done)), H', ⟨by have := HJ3.out; first | omega | exact Nat.le_refl _⟩, ⟨by (with_reducible repeat (first | refine blk_drewN ?_ _ | refine blk_drew ?_ | refine blk_alloc ?_ _)); exact BK466.out⟩, ⟨by (with_reducible repeat (first | refine blk_drewN ?_ _ | refine blk_drew ?_ | refine blk_alloc ?_ _)); exact BK467.out⟩, ⟨by (with_reducible repeat (first | refine blk_drewN ?_ _ | refine blk_drew ?_ | refine blk_alloc ?_ _)); exact BK468.out⟩, ⟨by repeat (first | (with_reducible first | exact HB.out | apply below_alloc | apply pw_below_drewN | apply below_drew1 | refine below_set ?_ GE466.out | refine below_set ?_ GE467.out | refine below_set ?_ GE468.out) | exact HB.out)⟩⟩
          · rw [if_neg c50] at H
            have c50b0 : decide (t474 < (-1)) = false := decide_eq_false c50
            clear c50
            (first | rw [c50b0] | (simp only [i64_w, i32_w]; rw [c50b0]) | skip)
            by_cases c51 : t474 > 1
            · rw [if_pos c51] at H
              have c51b0 : decide (1 < t474) = true := decide_eq_true c51
              clear c51
              have H' := Aside0.mk H
              clear H
              go_wp2
              go_meet
              case rel => exact ⟨_, (true), (by first | rfl | (simp; done) | (simp [*]; done) | (simp [bne_nil]; done)), H', ⟨by have := HJ3.out; first | omega | exact Nat.le_refl _⟩, ⟨by (with_reducible repeat (first | refine blk_drewN ?_ _ | refine blk_drew ?_ | refine blk_alloc ?_ _)); exact BK466.out⟩, ⟨by (with_reducible repeat (first | refine blk_drewN ?_ _ | refine blk_drew ?_ | refine blk_alloc ?_ _)); exact BK467.out⟩, ⟨by (with_reducible repeat (first | refine blk_drewN ?_ _ | refine blk_drew ?_ | refine blk_alloc ?_ _)); exact BK468.out⟩, ⟨by repeat (first | (with_reducible first | exact HB.out | apply below_alloc | apply pw_below_drewN | apply below_drew1 | refine below_set ?_ GE466.out | refine below_set ?_ GE467.out | refine below_set ?_ GE468.out) | exact HB.out)⟩⟩
            · rw [if_neg c51] at H
              have c51b0 : decide (1 < t474) = false := decide_eq_false c51
              clear c51
              replace H := Option.bind_eq_some_iff.mp H
              obtain ⟨t475, A520, H⟩ := H
              replace H : (if t475 = (wrap64 (-t474)) then (whittlelaw1_NumOrder.j1 kj3 t474 ((t474 == 0) != (a0_0 == a1_0 && (a0_1 == a1_1))) a0_0 a0_1 a1_0 a1_1 a2_0 a2_1) else (whittlelaw1_NumOrder.j1 kj3 t474 true a0_0 a0_1 a1_0 a1_1 a2_0 a2_1)) = some r := H
              have A52 := Aside0.mk A520
              clear A520
              by_cases c53 : t475 = (wrap64 (-t474))
              · rw [if_pos c53] at H
                have c53b0 : (t475 == (wrap64 (-t474))) = true := beq_iff_eq.mpr c53
                have c53b1 : (t475 != (wrap64 (-t474))) = false := bne_eq_false_iff_eq.mpr c53
                clear c53
                have H' := Aside0.mk H
                clear H
                have hnb54 := NB467_466.out
                have hnc54 := NB466_467.out
                have hnb55 := NB467_468.out
                have hnc55 := NB468_467.out
                have hcz56_0 : w49.cell? ⟨gb467, 0, none⟩ = some (.int .i64 a1_0) := (blk_cell BK467.out 0).trans rfl
                have hcz56_1 : w49.cell? ⟨gb467, 1, none⟩ = some (.int .i64 a1_1) := (blk_cell BK467.out 1).trans rfl
                have hfz56_0 := blk_frozen BK467.out 0
                have hfz56_1 := blk_frozen BK467.out 1
                have hnb57 := NB466_468.out
                have hnc57 := NB468_466.out
                have hcz58_0 : w49.cell? ⟨gb466, 0, none⟩ = some (.int .i64 a0_0) := (blk_cell BK466.out 0).trans rfl
                have hcz58_1 : w49.cell? ⟨gb466, 1, none⟩ = some (.int .i64 a0_1) := (blk_cell BK466.out 1).trans rfl
                have hfz58_0 := blk_frozen BK466.out 0
                have hfz58_1 := blk_frozen BK466.out 1
                go_wp2_with (first | (go_at_call 25; (with_reducible refine (num_Cmp.calls kj3 a1_0 a1_1 a0_0 a0_1 t475 _ A52.out).mono ?_); rintro e w59 ⟨rfl, hb⟩; have n0_ := Aside0.mk (blk_below (g := gb466) (o := .cells #[.int .i64 a0_0, .int .i64 a0_1] 23 (0, 0)) (by (with_reducible repeat (first | refine blk_drewN ?_ _ | refine blk_drew ?_ | refine blk_alloc ?_ _)); exact BK466.out) hb); have n1_ := Aside0.mk (blk_below (g := gb467) (o := .cells #[.int .i64 a1_0, .int .i64 a1_1] 23 (0, 0)) (by (with_reducible repeat (first | refine blk_drewN ?_ _ | refine blk_drew ?_ | refine blk_alloc ?_ _)); exact BK467.out) hb); have n2_ := Aside0.mk (blk_below (g := gb468) (o := .cells #[.int .i64 a2_0, .int .i64 a2_1] 23 (0, 0)) (by (with_reducible repeat (first | refine blk_drewN ?_ _ | refine blk_drew ?_ | refine blk_alloc ?_ _)); exact BK468.out) hb); have n3_ := Aside0.mk (below_step (by repeat (first | (with_reducible first | exact HB.out | apply below_alloc | apply pw_below_drewN | apply below_drew1 | refine below_set ?_ GE466.out | refine below_set ?_ GE467.out | refine below_set ?_ GE468.out) | exact HB.out)) hb); clear BK466; clear BK467; clear BK468; clear HB; have BK466 := n0_; have BK467 := n1_; have BK468 := n2_; have HB := n3_; clear n0_ n1_ n2_ n3_; (try clear hb); (try clear hb2); (try clear hk); (try clear hi); have hcz60_0 : w59.cell? ⟨gb466, 0, none⟩ = some (.int .i64 a0_0) := (blk_cell BK466.out 0).trans rfl; have hcz60_1 : w59.cell? ⟨gb466, 1, none⟩ = some (.int .i64 a0_1) := (blk_cell BK466.out 1).trans rfl; have hfz60_0 := blk_frozen BK466.out 0; have hfz60_1 := blk_frozen BK466.out 1; have hcz61_0 : w59.cell? ⟨gb467, 0, none⟩ = some (.int .i64 a1_0) := (blk_cell BK467.out 0).trans rfl; have hcz61_1 : w59.cell? ⟨gb467, 1, none⟩ = some (.int .i64 a1_1) := (blk_cell BK467.out 1).trans rfl; have hfz61_0 := blk_frozen BK467.out 0; have hfz61_1 := blk_frozen BK467.out 1))
                go_meet
                case rel => exact ⟨_, (((t474 == 0) != (a0_0 == a1_0 && (a0_1 == a1_1)))), (by first | rfl | (simp; done) | (simp [*]; done) | (simp [bne_nil]; done)), H', ⟨by have := HJ3.out; first | omega | exact Nat.le_refl _⟩, ⟨by (with_reducible repeat (first | refine blk_drewN ?_ _ | refine blk_drew ?_ | refine blk_alloc ?_ _)); exact BK466.out⟩, ⟨by (with_reducible repeat (first | refine blk_drewN ?_ _ | refine blk_drew ?_ | refine blk_alloc ?_ _)); exact BK467.out⟩, ⟨by (with_reducible repeat (first | refine blk_drewN ?_ _ | refine blk_drew ?_ | refine blk_alloc ?_ _)); exact BK468.out⟩, ⟨by repeat (first | (with_reducible first | exact HB.out | apply below_alloc | apply pw_below_drewN | apply below_drew1 | refine below_set ?_ GE466.out | refine below_set ?_ GE467.out | refine below_set ?_ GE468.out) | exact HB.out)⟩⟩
              · rw [if_neg c53] at H
                have c53b0 : (t475 == (wrap64 (-t474))) = false := beq_eq_false_iff_ne.mpr c53
                have c53b1 : (t475 != (wrap64 (-t474))) = true := bne_iff_ne.mpr c53
                have H' := Aside0.mk H
                clear H
                have hnb62 := NB467_466.out
                have hnc62 := NB466_467.out
                have hnb63 := NB467_468.out
                have hnc63 := NB468_467.out
                have hcz64_0 : w49.cell? ⟨gb467, 0, none⟩ = some (.int .i64 a1_0) := (blk_cell BK467.out 0).trans rfl
                have hcz64_1 : w49.cell? ⟨gb467, 1, none⟩ = some (.int .i64 a1_1) := (blk_cell BK467.out 1).trans rfl
                have hfz64_0 := blk_frozen BK467.out 0
                have hfz64_1 := blk_frozen BK467.out 1
                have hnb65 := NB466_468.out
                have hnc65 := NB468_466.out
                have hcz66_0 : w49.cell? ⟨gb466, 0, none⟩ = some (.int .i64 a0_0) := (blk_cell BK466.out 0).trans rfl
                have hcz66_1 : w49.cell? ⟨gb466, 1, none⟩ = some (.int .i64 a0_1) := (blk_cell BK466.out 1).trans rfl
                have hfz66_0 := blk_frozen BK466.out 0
                have hfz66_1 := blk_frozen BK466.out 1
                go_wp2_with (first | (go_at_call 25; (with_reducible refine (num_Cmp.calls kj3 a1_0 a1_1 a0_0 a0_1 t475 _ A52.out).mono ?_); rintro e w67 ⟨rfl, hb⟩; have n0_ := Aside0.mk (blk_below (g := gb466) (o := .cells #[.int .i64 a0_0, .int .i64 a0_1] 23 (0, 0)) (by (with_reducible repeat (first | refine blk_drewN ?_ _ | refine blk_drew ?_ | refine blk_alloc ?_ _)); exact BK466.out) hb); have n1_ := Aside0.mk (blk_below (g := gb467) (o := .cells #[.int .i64 a1_0, .int .i64 a1_1] 23 (0, 0)) (by (with_reducible repeat (first | refine blk_drewN ?_ _ | refine blk_drew ?_ | refine blk_alloc ?_ _)); exact BK467.out) hb); have n2_ := Aside0.mk (blk_below (g := gb468) (o := .cells #[.int .i64 a2_0, .int .i64 a2_1] 23 (0, 0)) (by (with_reducible repeat (first | refine blk_drewN ?_ _ | refine blk_drew ?_ | refine blk_alloc ?_ _)); exact BK468.out) hb); have n3_ := Aside0.mk (below_step (by repeat (first | (with_reducible first | exact HB.out | apply below_alloc | apply pw_below_drewN | apply below_drew1 | refine below_set ?_ GE466.out | refine below_set ?_ GE467.out | refine below_set ?_ GE468.out) | exact HB.out)) hb); clear BK466; clear BK467; clear BK468; clear HB; have BK466 := n0_; have BK467 := n1_; have BK468 := n2_; have HB := n3_; clear n0_ n1_ n2_ n3_; (try clear hb); (try clear hb2); (try clear hk); (try clear hi)))
                go_meet
                case rel => exact ⟨_, (true), (by first | rfl | (simp; done) | (simp [*]; done) | (simp [bne_nil]; done)), H', ⟨by have := HJ3.out; first | omega | exact Nat.le_refl _⟩, ⟨by (with_reducible repeat (first | refine blk_drewN ?_ _ | refine blk_drew ?_ | refine blk_alloc ?_ _)); exact BK466.out⟩, ⟨by (with_reducible repeat (first | refine blk_drewN ?_ _ | refine blk_drew ?_ | refine blk_alloc ?_ _)); exact BK467.out⟩, ⟨by (with_reducible repeat (first | refine blk_drewN ?_ _ | refine blk_drew ?_ | refine blk_alloc ?_ _)); exact BK468.out⟩, ⟨by repeat (first | (with_reducible first | exact HB.out | apply below_alloc | apply pw_below_drewN | apply below_drew1 | refine below_set ?_ GE466.out | refine below_set ?_ GE467.out | refine below_set ?_ GE468.out) | exact HB.out)⟩⟩
        case rest =>
          clear HC43
          try clear c1
          try clear c2
          try clear p2
          try clear c3
          try clear c4
          try clear c5
          try clear c6
          try clear p6
          try clear c9
          try clear c11
          try clear c13
          try clear c16
          try clear c17
          try clear c20
          try clear c22
          try clear c25
          try clear c26
          try clear c27
          try clear c30
          try clear c34
          try clear c35
          try clear c39
          try clear c44
          try clear c45
          try clear c47
          try clear c50
          try clear c50b0
          try clear c51
          try clear c51b0
          try clear c53
          try clear c53b0
          try clear c53b1
          try clear c54
          try clear c55
          try clear c57
          try clear c62
          try clear c63
          try clear p64
          try clear c65
          try clear hcz18_0
          try clear hcz18_1
          try clear hcz21_0
          try clear hcz21_1
          try clear hcz23_0
          try clear hcz23_1
          try clear hcz28_0
          try clear hcz28_1
          try clear hcz31_0
          try clear hcz31_1
          try clear hcz36_0
          try clear hcz36_1
          try clear hcz46_0
          try clear hcz46_1
          try clear hcz48_0
          try clear hcz48_1
          try clear hcz56_0
          try clear hcz56_1
          try clear hcz58_0
          try clear hcz58_1
          try clear hcz60_0
          try clear hcz60_1
          try clear hcz61_0
          try clear hcz61_1
          try clear hcz64_0
          try clear hcz64_1
          try clear hcz66_0
          try clear hcz66_1
          try clear hfz18_0
          try clear hfz18_1
          try clear hfz21_0
          try clear hfz21_1
          try clear hfz23_0
          try clear hfz23_1
          try clear hfz28_0
          try clear hfz28_1
          try clear hfz31_0
          try clear hfz31_1
          try clear hfz36_0
          try clear hfz36_1
          try clear hfz46_0
          try clear hfz46_1
          try clear hfz48_0
          try clear hfz48_1
          try clear hfz56_0
          try clear hfz56_1
          try clear hfz58_0
          try clear hfz58_1
          try clear hfz60_0
          try clear hfz60_1
          try clear hfz61_0
          try clear hfz61_1
          try clear hfz64_0
          try clear hfz64_1
          try clear hfz66_0
          try clear hfz66_1
          try clear p2
          obtain ⟨kq, x55_42, rfl, HA, HJ42, BK466, BK467, BK468, HB⟩ := hcut
          cases kq with
          | zero => exact absurd HA.out (by simp [whittlelaw1_NumOrder.j1])
          | succ kj42 =>
            have H := HA.out
            clear HA
            simp only [whittlelaw1_NumOrder.j1] at H
            by_cases c68 : x55_42 = true
            · subst c68
              have H1 : (some false) = some r := by rw [if_pos rfl] at H; exact H
              clear H
              have H := H1
              clear H1
              exact absurd (Option.some.inj H) (by rw [HR.out]; decide)
            · replace c68 := Bool.eq_false_iff.mpr c68
              subst c68
              have H1 : (if t474 ≤ 0 then ((num_Cmp.f kj42 a1_0 a1_1 a2_0 a2_1).bind fun t476 => (if t476 ≤ 0 then ((num_Cmp.f kj42 a0_0 a0_1 a2_0 a2_1).bind fun t477 => (whittlelaw1_NumOrder.j2 kj42 t474 (decide (t477 > 0)) a0_0 a0_1 a1_0 a1_1 a2_0 a2_1)) else (whittlelaw1_NumOrder.j2 kj42 t474 false a0_0 a0_1 a1_0 a1_1 a2_0 a2_1))) else (whittlelaw1_NumOrder.j2 kj42 t474 false a0_0 a0_1 a1_0 a1_1 a2_0 a2_1)) = some r := by rw [if_neg (show ¬ (false = true) by decide)] at H; exact H
              clear H
              have H := H1
              clear H1
              have HC69 := Aside0.mk H
              clear H
              go_upto_region 6 with (fail)
              go_cut [69] (fun v69 wc => ∃ (kq : Nat) (x69_68 : Bool), v69 = .bool x69_68 ∧ Aside0 (whittlelaw1_NumOrder.j2 kq t474 x69_68 a0_0 a0_1 a1_0 a1_1 a2_0 a2_1 = some r) ∧ Aside0 (kq ≤ kj42) ∧ Aside0 (wc.heap[gb466]? = some (.cells #[.int .i64 a0_0, .int .i64 a0_1] 23 (0, 0))) ∧ Aside0 (wc.heap[gb467]? = some (.cells #[.int .i64 a1_0, .int .i64 a1_1] 23 (0, 0))) ∧ Aside0 (wc.heap[gb468]? = some (.cells #[.int .i64 a2_0, .int .i64 a2_1] 23 (0, 0))) ∧ Aside0 (Below w.heap.size w wc))
              case first =>
                have H := HC69.out
                clear HC69
                by_cases c70 : t474 ≤ 0
                · rw [if_pos c70] at H
                  have c70b0 : decide (t474 ≤ 0) = true := decide_eq_true c70
                  clear c70
                  (first | rw [c70b0] | (simp only [i64_w, i32_w]; rw [c70b0]) | skip)
                  replace H := Option.bind_eq_some_iff.mp H
                  obtain ⟨t476, A710, H⟩ := H
                  replace H : (if t476 ≤ 0 then ((num_Cmp.f kj42 a0_0 a0_1 a2_0 a2_1).bind fun t477 => (whittlelaw1_NumOrder.j2 kj42 t474 (decide (t477 > 0)) a0_0 a0_1 a1_0 a1_1 a2_0 a2_1)) else (whittlelaw1_NumOrder.j2 kj42 t474 false a0_0 a0_1 a1_0 a1_1 a2_0 a2_1)) = some r := H
                  have A71 := Aside0.mk A710
                  clear A710
                  by_cases c72 : t476 ≤ 0
                  · rw [if_pos c72] at H
                    have c72b0 : decide (t476 ≤ 0) = true := decide_eq_true c72
                    clear c72
                    replace H := Option.bind_eq_some_iff.mp H
                    obtain ⟨t477, A730, H⟩ := H
                    replace H : (whittlelaw1_NumOrder.j2 kj42 t474 (decide (t477 > 0)) a0_0 a0_1 a1_0 a1_1 a2_0 a2_1) = some r := H
                    have A73 := Aside0.mk A730
                    clear A730
                    have H' := Aside0.mk H
                    clear H
                    have hnb74 := NB467_466.out
                    have hnc74 := NB466_467.out
                    have hnb75 := NB467_468.out
                    have hnc75 := NB468_467.out
                    have hcz76_0 : wc.cell? ⟨gb467, 0, none⟩ = some (.int .i64 a1_0) := (blk_cell BK467.out 0).trans rfl
                    have hcz76_1 : wc.cell? ⟨gb467, 1, none⟩ = some (.int .i64 a1_1) := (blk_cell BK467.out 1).trans rfl
                    have hfz76_0 := blk_frozen BK467.out 0
                    have hfz76_1 := blk_frozen BK467.out 1
                    have hnb77 := NB468_466.out
                    have hnc77 := NB466_468.out
                    have hcz78_0 : wc.cell? ⟨gb468, 0, none⟩ = some (.int .i64 a2_0) := (blk_cell BK468.out 0).trans rfl
                    have hcz78_1 : wc.cell? ⟨gb468, 1, none⟩ = some (.int .i64 a2_1) := (blk_cell BK468.out 1).trans rfl
                    have hfz78_0 := blk_frozen BK468.out 0
                    have hfz78_1 := blk_frozen BK468.out 1
                    go_wp2_with (first | (go_at_call 25; (with_reducible refine (num_Cmp.calls kj42 a1_0 a1_1 a2_0 a2_1 t476 _ A71.out).mono ?_); rintro e w79 ⟨rfl, hb⟩; have n0_ := Aside0.mk (blk_below (g := gb466) (o := .cells #[.int .i64 a0_0, .int .i64 a0_1] 23 (0, 0)) (by (with_reducible repeat (first | refine blk_drewN ?_ _ | refine blk_drew ?_ | refine blk_alloc ?_ _)); exact BK466.out) hb); have n1_ := Aside0.mk (blk_below (g := gb467) (o := .cells #[.int .i64 a1_0, .int .i64 a1_1] 23 (0, 0)) (by (with_reducible repeat (first | refine blk_drewN ?_ _ | refine blk_drew ?_ | refine blk_alloc ?_ _)); exact BK467.out) hb); have n2_ := Aside0.mk (blk_below (g := gb468) (o := .cells #[.int .i64 a2_0, .int .i64 a2_1] 23 (0, 0)) (by (with_reducible repeat (first | refine blk_drewN ?_ _ | refine blk_drew ?_ | refine blk_alloc ?_ _)); exact BK468.out) hb); have n3_ := Aside0.mk (below_step (by repeat (first | (with_reducible first | exact HB.out | apply below_alloc | apply pw_below_drewN | apply below_drew1 | refine below_set ?_ GE466.out | refine below_set ?_ GE467.out | refine below_set ?_ GE468.out) | exact HB.out)) hb); clear BK466; clear BK467; clear BK468; clear HB; have BK466 := n0_; have BK467 := n1_; have BK468 := n2_; have HB := n3_; clear n0_ n1_ n2_ n3_; (try clear hb); (try clear hb2); (try clear hk); (try clear hi); have hcz80_0 : w79.cell? ⟨gb466, 0, none⟩ = some (.int .i64 a0_0) := (blk_cell BK466.out 0).trans rfl; have hcz80_1 : w79.cell? ⟨gb466, 1, none⟩ = some (.int .i64 a0_1) := (blk_cell BK466.out 1).trans rfl; have hfz80_0 := blk_frozen BK466.out 0; have hfz80_1 := blk_frozen BK466.out 1; have hcz81_0 : w79.cell? ⟨gb468, 0, none⟩ = some (.int .i64 a2_0) := (blk_cell BK468.out 0).trans rfl; have hcz81_1 : w79.cell? ⟨gb468, 1, none⟩ = some (.int .i64 a2_1) := (blk_cell BK468.out 1).trans rfl; have hfz81_0 := blk_frozen BK468.out 0; have hfz81_1 := blk_frozen BK468.out 1) | (go_at_call 25; (with_reducible refine (num_Cmp.calls kj42 a0_0 a0_1 a2_0 a2_1 t477 _ A73.out).mono ?_); rintro e w82 ⟨rfl, hb⟩; have n0_ := Aside0.mk (blk_below (g := gb466) (o := .cells #[.int .i64 a0_0, .int .i64 a0_1] 23 (0, 0)) (by (with_reducible repeat (first | refine blk_drewN ?_ _ | refine blk_drew ?_ | refine blk_alloc ?_ _)); exact BK466.out) hb); have n1_ := Aside0.mk (blk_below (g := gb467) (o := .cells #[.int .i64 a1_0, .int .i64 a1_1] 23 (0, 0)) (by (with_reducible repeat (first | refine blk_drewN ?_ _ | refine blk_drew ?_ | refine blk_alloc ?_ _)); exact BK467.out) hb); have n2_ := Aside0.mk (blk_below (g := gb468) (o := .cells #[.int .i64 a2_0, .int .i64 a2_1] 23 (0, 0)) (by (with_reducible repeat (first | refine blk_drewN ?_ _ | refine blk_drew ?_ | refine blk_alloc ?_ _)); exact BK468.out) hb); have n3_ := Aside0.mk (below_step (by repeat (first | (with_reducible first | exact HB.out | apply below_alloc | apply pw_below_drewN | apply below_drew1 | refine below_set ?_ GE466.out | refine below_set ?_ GE467.out | refine below_set ?_ GE468.out) | exact HB.out)) hb); clear BK466; clear BK467; clear BK468; clear HB; have BK466 := n0_; have BK467 := n1_; have BK468 := n2_; have HB := n3_; clear n0_ n1_ n2_ n3_; (try clear hb); (try clear hb2); (try clear hk); (try clear hi)))
                    go_meet
                    case rel => exact ⟨_, (decide (t477 > 0)), (by first | rfl | (simp; done) | (simp [*]; done) | (simp [bne_nil]; done)), H', ⟨by have := HJ3.out; have := HJ42.out; first | omega | exact Nat.le_refl _⟩, ⟨by (with_reducible repeat (first | refine blk_drewN ?_ _ | refine blk_drew ?_ | refine blk_alloc ?_ _)); exact BK466.out⟩, ⟨by (with_reducible repeat (first | refine blk_drewN ?_ _ | refine blk_drew ?_ | refine blk_alloc ?_ _)); exact BK467.out⟩, ⟨by (with_reducible repeat (first | refine blk_drewN ?_ _ | refine blk_drew ?_ | refine blk_alloc ?_ _)); exact BK468.out⟩, ⟨by repeat (first | (with_reducible first | exact HB.out | apply below_alloc | apply pw_below_drewN | apply below_drew1 | refine below_set ?_ GE466.out | refine below_set ?_ GE467.out | refine below_set ?_ GE468.out) | exact HB.out)⟩⟩
                  · rw [if_neg c72] at H
                    have c72b0 : decide (t476 ≤ 0) = false := decide_eq_false c72
                    clear c72
                    have H' := Aside0.mk H
                    clear H
                    have hnb83 := NB467_466.out
                    have hnc83 := NB466_467.out
                    have hnb84 := NB467_468.out
                    have hnc84 := NB468_467.out
                    have hcz85_0 : wc.cell? ⟨gb467, 0, none⟩ = some (.int .i64 a1_0) := (blk_cell BK467.out 0).trans rfl
                    have hcz85_1 : wc.cell? ⟨gb467, 1, none⟩ = some (.int .i64 a1_1) := (blk_cell BK467.out 1).trans rfl
                    have hfz85_0 := blk_frozen BK467.out 0
                    have hfz85_1 := blk_frozen BK467.out 1
                    have hnb86 := NB468_466.out
                    have hnc86 := NB466_468.out
                    have hcz87_0 : wc.cell? ⟨gb468, 0, none⟩ = some (.int .i64 a2_0) := (blk_cell BK468.out 0).trans rfl
                    have hcz87_1 : wc.cell? ⟨gb468, 1, none⟩ = some (.int .i64 a2_1) := (blk_cell BK468.out 1).trans rfl
                    have hfz87_0 := blk_frozen BK468.out 0
                    have hfz87_1 := blk_frozen BK468.out 1
                    go_wp2_with (first | (go_at_call 25; (with_reducible refine (num_Cmp.calls kj42 a1_0 a1_1 a2_0 a2_1 t476 _ A71.out).mono ?_); rintro e w88 ⟨rfl, hb⟩; have n0_ := Aside0.mk (blk_below (g := gb466) (o := .cells #[.int .i64 a0_0, .int .i64 a0_1] 23 (0, 0)) (by (with_reducible repeat (first | refine blk_drewN ?_ _ | refine blk_drew ?_ | refine blk_alloc ?_ _)); exact BK466.out) hb); have n1_ := Aside0.mk (blk_below (g := gb467) (o := .cells #[.int .i64 a1_0, .int .i64 a1_1] 23 (0, 0)) (by (with_reducible repeat (first | refine blk_drewN ?_ _ | refine blk_drew ?_ | refine blk_alloc ?_ _)); exact BK467.out) hb); have n2_ := Aside0.mk (blk_below (g := gb468) (o := .cells #[.int .i64 a2_0, .int .i64 a2_1] 23 (0, 0)) (by (with_reducible repeat (first | refine blk_drewN ?_ _ | refine blk_drew ?_ | refine blk_alloc ?_ _)); exact BK468.out) hb); have n3_ := Aside0.mk (below_step (by repeat (first | (with_reducible first | exact HB.out | apply below_alloc | apply pw_below_drewN | apply below_drew1 | refine below_set ?_ GE466.out | refine below_set ?_ GE467.out | refine below_set ?_ GE468.out) | exact HB.out)) hb); clear BK466; clear BK467; clear BK468; clear HB; have BK466 := n0_; have BK467 := n1_; have BK468 := n2_; have HB := n3_; clear n0_ n1_ n2_ n3_; (try clear hb); (try clear hb2); (try clear hk); (try clear hi)))
                    go_meet
                    case rel => exact ⟨_, (false), (by first | rfl | (simp; done) | (simp [*]; done) | (simp [bne_nil]; done)), H', ⟨by have := HJ3.out; have := HJ42.out; first | omega | exact Nat.le_refl _⟩, ⟨by (with_reducible repeat (first | refine blk_drewN ?_ _ | refine blk_drew ?_ | refine blk_alloc ?_ _)); exact BK466.out⟩, ⟨by (with_reducible repeat (first | refine blk_drewN ?_ _ | refine blk_drew ?_ | refine blk_alloc ?_ _)); exact BK467.out⟩, ⟨by (with_reducible repeat (first | refine blk_drewN ?_ _ | refine blk_drew ?_ | refine blk_alloc ?_ _)); exact BK468.out⟩, ⟨by repeat (first | (with_reducible first | exact HB.out | apply below_alloc | apply pw_below_drewN | apply below_drew1 | refine below_set ?_ GE466.out | refine below_set ?_ GE467.out | refine below_set ?_ GE468.out) | exact HB.out)⟩⟩
                · rw [if_neg c70] at H
                  have c70b0 : decide (t474 ≤ 0) = false := decide_eq_false c70
                  clear c70
                  (first | rw [c70b0] | (simp only [i64_w, i32_w]; rw [c70b0]) | skip)
                  have H' := Aside0.mk H
                  clear H
                  go_wp2
                  go_meet
                  case rel => exact ⟨_, (false), (by first | rfl | (simp; done) | (simp [*]; done) | (simp [bne_nil]; done)), H', ⟨by have := HJ3.out; have := HJ42.out; first | omega | exact Nat.le_refl _⟩, ⟨by (with_reducible repeat (first | refine blk_drewN ?_ _ | refine blk_drew ?_ | refine blk_alloc ?_ _)); exact BK466.out⟩, ⟨by (with_reducible repeat (first | refine blk_drewN ?_ _ | refine blk_drew ?_ | refine blk_alloc ?_ _)); exact BK467.out⟩, ⟨by (with_reducible repeat (first | refine blk_drewN ?_ _ | refine blk_drew ?_ | refine blk_alloc ?_ _)); exact BK468.out⟩, ⟨by repeat (first | (with_reducible first | exact HB.out | apply below_alloc | apply pw_below_drewN | apply below_drew1 | refine below_set ?_ GE466.out | refine below_set ?_ GE467.out | refine below_set ?_ GE468.out) | exact HB.out)⟩⟩
              case rest =>
                clear HC69
                try clear c1
                try clear c2
                try clear p2
                try clear c3
                try clear c4
                try clear c5
                try clear c6
                try clear p6
                try clear c7
                try clear c8
                try clear c9
                try clear c11
                try clear c13
                try clear c16
                try clear c17
                try clear c20
                try clear c22
                try clear c25
                try clear c26
                try clear c27
                try clear c30
                try clear c34
                try clear c35
                try clear c39
                try clear c44
                try clear c45
                try clear c47
                try clear c50
                try clear c50b0
                try clear c51
                try clear c51b0
                try clear c53
                try clear c53b0
                try clear c53b1
                try clear c54
                try clear c55
                try clear c57
                try clear c62
                try clear c63
                try clear p64
                try clear c65
                try clear c68
                try clear c70
                try clear c70b0
                try clear c72
                try clear c72b0
                try clear c74
                try clear c75
                try clear c77
                try clear c83
                try clear c84
                try clear c86
                try clear hcz18_0
                try clear hcz18_1
                try clear hcz21_0
                try clear hcz21_1
                try clear hcz23_0
                try clear hcz23_1
                try clear hcz28_0
                try clear hcz28_1
                try clear hcz31_0
                try clear hcz31_1
                try clear hcz36_0
                try clear hcz36_1
                try clear hcz46_0
                try clear hcz46_1
                try clear hcz48_0
                try clear hcz48_1
                try clear hcz56_0
                try clear hcz56_1
                try clear hcz58_0
                try clear hcz58_1
                try clear hcz60_0
                try clear hcz60_1
                try clear hcz61_0
                try clear hcz61_1
                try clear hcz64_0
                try clear hcz64_1
                try clear hcz66_0
                try clear hcz66_1
                try clear hcz76_0
                try clear hcz76_1
                try clear hcz78_0
                try clear hcz78_1
                try clear hcz80_0
                try clear hcz80_1
                try clear hcz81_0
                try clear hcz81_1
                try clear hcz85_0
                try clear hcz85_1
                try clear hcz87_0
                try clear hcz87_1
                try clear hfz18_0
                try clear hfz18_1
                try clear hfz21_0
                try clear hfz21_1
                try clear hfz23_0
                try clear hfz23_1
                try clear hfz28_0
                try clear hfz28_1
                try clear hfz31_0
                try clear hfz31_1
                try clear hfz36_0
                try clear hfz36_1
                try clear hfz46_0
                try clear hfz46_1
                try clear hfz48_0
                try clear hfz48_1
                try clear hfz56_0
                try clear hfz56_1
                try clear hfz58_0
                try clear hfz58_1
                try clear hfz60_0
                try clear hfz60_1
                try clear hfz61_0
                try clear hfz61_1
                try clear hfz64_0
                try clear hfz64_1
                try clear hfz66_0
                try clear hfz66_1
                try clear hfz76_0
                try clear hfz76_1
                try clear hfz78_0
                try clear hfz78_1
                try clear hfz80_0
                try clear hfz80_1
                try clear hfz81_0
                try clear hfz81_1
                try clear hfz85_0
                try clear hfz85_1
                try clear hfz87_0
                try clear hfz87_1
                try clear p2
                try clear p6
                try clear p64
                obtain ⟨kq, x69_68, rfl, HA, HJ68, BK466, BK467, BK468, HB⟩ := hcut
                cases kq with
                | zero => exact absurd HA.out (by simp [whittlelaw1_NumOrder.j2])
                | succ kj68 =>
                  have H := HA.out
                  clear HA
                  simp only [whittlelaw1_NumOrder.j2] at H
                  by_cases c89 : x69_68 = true
                  · subst c89
                    have H1 : (some false) = some r := by rw [if_pos rfl] at H; exact H
                    clear H
                    have H := H1
                    clear H1
                    exact absurd (Option.some.inj H) (by rw [HR.out]; decide)
                  · replace c89 := Bool.eq_false_iff.mpr c89
                    subst c89
                    have H1 : ((num_Add.f kj68 a0_0 a0_1 a2_0 a2_1).bind fun bt478 => ((num_Add.f kj68 a1_0 a1_1 a2_0 a2_1).bind fun bt482 => (if bt478.2.2 = true then (if bt482.2.2 = true then ((num_Cmp.f kj68 bt478.1 bt478.2.1 bt482.1 bt482.2.1).bind fun t486 => (whittlelaw1_NumOrder.j3 kj68 t474 (t486 != t474) a0_0 a0_1 a1_0 a1_1 a2_0 a2_1)) else (whittlelaw1_NumOrder.j3 kj68 t474 false a0_0 a0_1 a1_0 a1_1 a2_0 a2_1)) else (whittlelaw1_NumOrder.j3 kj68 t474 false a0_0 a0_1 a1_0 a1_1 a2_0 a2_1)))) = some r := by rw [if_neg (show ¬ (false = true) by decide)] at H; exact H
                    clear H
                    have H := H1
                    clear H1
                    replace H := Option.bind_eq_some_iff.mp H
                    obtain ⟨⟨t478, t479, t480⟩, A900, H⟩ := H
                    replace H : ((num_Add.f kj68 a1_0 a1_1 a2_0 a2_1).bind fun bt482 => (if t480 = true then (if bt482.2.2 = true then ((num_Cmp.f kj68 t478 t479 bt482.1 bt482.2.1).bind fun t486 => (whittlelaw1_NumOrder.j3 kj68 t474 (t486 != t474) a0_0 a0_1 a1_0 a1_1 a2_0 a2_1)) else (whittlelaw1_NumOrder.j3 kj68 t474 false a0_0 a0_1 a1_0 a1_1 a2_0 a2_1)) else (whittlelaw1_NumOrder.j3 kj68 t474 false a0_0 a0_1 a1_0 a1_1 a2_0 a2_1))) = some r := H
                    have A90 := Aside0.mk A900
                    clear A900
                    replace H := Option.bind_eq_some_iff.mp H
                    obtain ⟨⟨t482, t483, t484⟩, A910, H⟩ := H
                    replace H : (if t480 = true then (if t484 = true then ((num_Cmp.f kj68 t478 t479 t482 t483).bind fun t486 => (whittlelaw1_NumOrder.j3 kj68 t474 (t486 != t474) a0_0 a0_1 a1_0 a1_1 a2_0 a2_1)) else (whittlelaw1_NumOrder.j3 kj68 t474 false a0_0 a0_1 a1_0 a1_1 a2_0 a2_1)) else (whittlelaw1_NumOrder.j3 kj68 t474 false a0_0 a0_1 a1_0 a1_1 a2_0 a2_1)) = some r := H
                    have A91 := Aside0.mk A910
                    clear A910
                    have HC92 := Aside0.mk H
                    clear H
                    have hnb93 := NB466_467.out
                    have hnc93 := NB467_466.out
                    have hnb94 := NB466_468.out
                    have hnc94 := NB468_466.out
                    have hcz95_0 : wc.cell? ⟨gb466, 0, none⟩ = some (.int .i64 a0_0) := (blk_cell BK466.out 0).trans rfl
                    have hcz95_1 : wc.cell? ⟨gb466, 1, none⟩ = some (.int .i64 a0_1) := (blk_cell BK466.out 1).trans rfl
                    have hfz95_0 := blk_frozen BK466.out 0
                    have hfz95_1 := blk_frozen BK466.out 1
                    have hnb96 := NB468_467.out
                    have hnc96 := NB467_468.out
                    have hcz97_0 : wc.cell? ⟨gb468, 0, none⟩ = some (.int .i64 a2_0) := (blk_cell BK468.out 0).trans rfl
                    have hcz97_1 : wc.cell? ⟨gb468, 1, none⟩ = some (.int .i64 a2_1) := (blk_cell BK468.out 1).trans rfl
                    have hfz97_0 := blk_frozen BK468.out 0
                    have hfz97_1 := blk_frozen BK468.out 1
                    go_upto_region 10 with (first | ((with_reducible refine gate_callee (f := 33) rfl ?_); refine goesL_ (some 73) rfl rfl Tryd.func33 (by kernel_rfl) rfl #[.agg #[.int .i64 a0_0, .int .i64 a0_1], .agg #[.int .i64 a2_0, .int .i64 a2_1]] rfl (by (try simp only [List.map_toArray, List.map_cons, List.map_nil]); first | done | rfl | (simp only [List.length_drop, List.length_take]; rfl)) ?_; (with_reducible refine (num_Add.calls kj68 a0_0 a0_1 a2_0 a2_1 t478 t479 t480 _ A90.out).mono ?_); rintro e w98 ⟨rfl, hb⟩; refine ⟨_, rfl, ?_⟩; have n0_ := Aside0.mk (blk_below (g := gb466) (o := .cells #[.int .i64 a0_0, .int .i64 a0_1] 23 (0, 0)) (by (with_reducible repeat (first | refine blk_drewN ?_ _ | refine blk_drew ?_ | refine blk_alloc ?_ _)); exact BK466.out) hb); have n1_ := Aside0.mk (blk_below (g := gb467) (o := .cells #[.int .i64 a1_0, .int .i64 a1_1] 23 (0, 0)) (by (with_reducible repeat (first | refine blk_drewN ?_ _ | refine blk_drew ?_ | refine blk_alloc ?_ _)); exact BK467.out) hb); have n2_ := Aside0.mk (blk_below (g := gb468) (o := .cells #[.int .i64 a2_0, .int .i64 a2_1] 23 (0, 0)) (by (with_reducible repeat (first | refine blk_drewN ?_ _ | refine blk_drew ?_ | refine blk_alloc ?_ _)); exact BK468.out) hb); have n3_ := Aside0.mk (below_step (by repeat (first | (with_reducible first | exact HB.out | apply below_alloc | apply pw_below_drewN | apply below_drew1 | refine below_set ?_ GE466.out | refine below_set ?_ GE467.out | refine below_set ?_ GE468.out) | exact HB.out)) hb); clear BK466; clear BK467; clear BK468; clear HB; have BK466 := n0_; have BK467 := n1_; have BK468 := n2_; have HB := n3_; clear n0_ n1_ n2_ n3_; (try clear hb); (try clear hb2); (try clear hk); (try clear hi)) | ((with_reducible refine gate_dst (N := 8) rfl ?_); refine box_event ?hg (N := 8) ?hd (cs := #[.int .i64 0, .int .i64 0]) (t := 23) ?hr ?_; (case hd => rfl); (case hg => rfl); (case hr => first | (go_simp; done) | (go_simp; rfl)); intro gb481 hg w99 hbox hb; have n0_ := Aside0.mk (blk_below (g := gb466) (o := .cells #[.int .i64 a0_0, .int .i64 a0_1] 23 (0, 0)) (by (with_reducible repeat (first | refine blk_drewN ?_ _ | refine blk_drew ?_ | refine blk_alloc ?_ _)); exact BK466.out) hb); have n1_ := Aside0.mk (blk_below (g := gb467) (o := .cells #[.int .i64 a1_0, .int .i64 a1_1] 23 (0, 0)) (by (with_reducible repeat (first | refine blk_drewN ?_ _ | refine blk_drew ?_ | refine blk_alloc ?_ _)); exact BK467.out) hb); have n2_ := Aside0.mk (blk_below (g := gb468) (o := .cells #[.int .i64 a2_0, .int .i64 a2_1] 23 (0, 0)) (by (with_reducible repeat (first | refine blk_drewN ?_ _ | refine blk_drew ?_ | refine blk_alloc ?_ _)); exact BK468.out) hb); have n3_ := Aside0.mk (below_step (by repeat (first | (with_reducible first | exact HB.out | apply below_alloc | apply pw_below_drewN | apply below_drew1 | refine below_set ?_ GE466.out | refine below_set ?_ GE467.out | refine below_set ?_ GE468.out) | exact HB.out)) hb); have n4_ := Aside0.mk (hbox); have n5_ := Aside0.mk ((by rw [hg]; exact (below_size (by repeat (first | (with_reducible first | exact HB.out | apply below_alloc | apply pw_below_drewN | apply below_drew1 | refine below_set ?_ GE466.out | refine below_set ?_ GE467.out | refine below_set ?_ GE468.out) | exact HB.out))) : w.heap.size ≤ gb481)); have n6_ := Aside0.mk ((by rw [hg]; exact (below_size (by repeat (first | (with_reducible first | exact HB.out | apply below_alloc | apply pw_below_drewN | apply below_drew1 | refine below_set ?_ GE466.out | refine below_set ?_ GE467.out | refine below_set ?_ GE468.out) | exact HB.out))) : w.heap.size ≤ gb481)); have n7_ := Aside0.mk ((by rw [hg]; exact Nat.ne_of_lt (blk_lt (g := gb466) (o := .cells #[.int .i64 a0_0, .int .i64 a0_1] 23 (0, 0)) (by (with_reducible repeat (first | refine blk_drewN ?_ _ | refine blk_drew ?_ | refine blk_alloc ?_ _)); exact BK466.out)) : gb466 ≠ gb481)); have n8_ := Aside0.mk ((by rw [hg]; exact Nat.ne_of_gt (blk_lt (g := gb466) (o := .cells #[.int .i64 a0_0, .int .i64 a0_1] 23 (0, 0)) (by (with_reducible repeat (first | refine blk_drewN ?_ _ | refine blk_drew ?_ | refine blk_alloc ?_ _)); exact BK466.out)) : gb481 ≠ gb466)); have n9_ := Aside0.mk ((by rw [hg]; exact Nat.ne_of_lt (blk_lt (g := gb467) (o := .cells #[.int .i64 a1_0, .int .i64 a1_1] 23 (0, 0)) (by (with_reducible repeat (first | refine blk_drewN ?_ _ | refine blk_drew ?_ | refine blk_alloc ?_ _)); exact BK467.out)) : gb467 ≠ gb481)); have n10_ := Aside0.mk ((by rw [hg]; exact Nat.ne_of_gt (blk_lt (g := gb467) (o := .cells #[.int .i64 a1_0, .int .i64 a1_1] 23 (0, 0)) (by (with_reducible repeat (first | refine blk_drewN ?_ _ | refine blk_drew ?_ | refine blk_alloc ?_ _)); exact BK467.out)) : gb481 ≠ gb467)); have n11_ := Aside0.mk ((by rw [hg]; exact Nat.ne_of_lt (blk_lt (g := gb468) (o := .cells #[.int .i64 a2_0, .int .i64 a2_1] 23 (0, 0)) (by (with_reducible repeat (first | refine blk_drewN ?_ _ | refine blk_drew ?_ | refine blk_alloc ?_ _)); exact BK468.out)) : gb468 ≠ gb481)); have n12_ := Aside0.mk ((by rw [hg]; exact Nat.ne_of_gt (blk_lt (g := gb468) (o := .cells #[.int .i64 a2_0, .int .i64 a2_1] 23 (0, 0)) (by (with_reducible repeat (first | refine blk_drewN ?_ _ | refine blk_drew ?_ | refine blk_alloc ?_ _)); exact BK468.out)) : gb481 ≠ gb468)); clear BK466; clear BK467; clear BK468; clear HB; have BK466 := n0_; have BK467 := n1_; have BK468 := n2_; have HB := n3_; have BK481 := n4_; have GW481 := n5_; have GE481 := n6_; have NB466_481 := n7_; have NB481_466 := n8_; have NB467_481 := n9_; have NB481_467 := n10_; have NB468_481 := n11_; have NB481_468 := n12_; clear n0_ n1_ n2_ n3_ n4_ n5_ n6_ n7_ n8_ n9_ n10_ n11_ n12_; clear hb hbox hg; have hnb100 := NB481_466.out; have hnc100 := NB466_481.out; have hnb101 := NB481_467.out; have hnc101 := NB467_481.out; have hnb102 := NB481_468.out; have hnc102 := NB468_481.out; have hcz103_0 : w99.cell? ⟨gb481, 0, none⟩ = some (.int .i64 0) := (blk_cell BK481.out 0).trans rfl; have hcz103_1 : w99.cell? ⟨gb481, 1, none⟩ = some (.int .i64 0) := (blk_cell BK481.out 1).trans rfl; have hfz103_0 := blk_frozen BK481.out 0; have hfz103_1 := blk_frozen BK481.out 1; have hcz104_0 : w99.cell? ⟨gb467, 0, none⟩ = some (.int .i64 a1_0) := (blk_cell BK467.out 0).trans rfl; have hcz104_1 : w99.cell? ⟨gb467, 1, none⟩ = some (.int .i64 a1_1) := (blk_cell BK467.out 1).trans rfl; have hfz104_0 := blk_frozen BK467.out 0; have hfz104_1 := blk_frozen BK467.out 1; have hcz105_0 : w99.cell? ⟨gb468, 0, none⟩ = some (.int .i64 a2_0) := (blk_cell BK468.out 0).trans rfl; have hcz105_1 : w99.cell? ⟨gb468, 1, none⟩ = some (.int .i64 a2_1) := (blk_cell BK468.out 1).trans rfl; have hfz105_0 := blk_frozen BK468.out 0; have hfz105_1 := blk_frozen BK468.out 1) | ((with_reducible refine gate_callee (f := 33) rfl ?_); refine goesL_ (some 79) rfl rfl Tryd.func33 (by kernel_rfl) rfl #[.agg #[.int .i64 a1_0, .int .i64 a1_1], .agg #[.int .i64 a2_0, .int .i64 a2_1]] rfl (by (try simp only [List.map_toArray, List.map_cons, List.map_nil]); first | done | rfl | (simp only [List.length_drop, List.length_take]; rfl)) ?_; (with_reducible refine (num_Add.calls kj68 a1_0 a1_1 a2_0 a2_1 t482 t483 t484 _ A91.out).mono ?_); rintro e w106 ⟨rfl, hb⟩; refine ⟨_, rfl, ?_⟩; have n0_ := Aside0.mk (blk_below (g := gb466) (o := .cells #[.int .i64 a0_0, .int .i64 a0_1] 23 (0, 0)) (by (with_reducible repeat (first | refine blk_drewN ?_ _ | refine blk_drew ?_ | refine blk_alloc ?_ _)); refine blk_far ?_ NB466_481.out _; (with_reducible repeat (first | refine blk_drewN ?_ _ | refine blk_drew ?_ | refine blk_alloc ?_ _)); refine blk_far ?_ NB466_481.out _; (with_reducible repeat (first | refine blk_drewN ?_ _ | refine blk_drew ?_ | refine blk_alloc ?_ _)); exact BK466.out) hb); have n1_ := Aside0.mk (blk_below (g := gb467) (o := .cells #[.int .i64 a1_0, .int .i64 a1_1] 23 (0, 0)) (by (with_reducible repeat (first | refine blk_drewN ?_ _ | refine blk_drew ?_ | refine blk_alloc ?_ _)); refine blk_far ?_ NB467_481.out _; (with_reducible repeat (first | refine blk_drewN ?_ _ | refine blk_drew ?_ | refine blk_alloc ?_ _)); refine blk_far ?_ NB467_481.out _; (with_reducible repeat (first | refine blk_drewN ?_ _ | refine blk_drew ?_ | refine blk_alloc ?_ _)); exact BK467.out) hb); have n2_ := Aside0.mk (blk_below (g := gb468) (o := .cells #[.int .i64 a2_0, .int .i64 a2_1] 23 (0, 0)) (by (with_reducible repeat (first | refine blk_drewN ?_ _ | refine blk_drew ?_ | refine blk_alloc ?_ _)); refine blk_far ?_ NB468_481.out _; (with_reducible repeat (first | refine blk_drewN ?_ _ | refine blk_drew ?_ | refine blk_alloc ?_ _)); refine blk_far ?_ NB468_481.out _; (with_reducible repeat (first | refine blk_drewN ?_ _ | refine blk_drew ?_ | refine blk_alloc ?_ _)); exact BK468.out) hb); have n3_ := Aside0.mk (blk_below (g := gb481) (o := .cells #[.int .i64 t478, .int .i64 t479] 23 (0, 0)) (by (with_reducible repeat (first | refine blk_drewN ?_ _ | refine blk_drew ?_ | refine blk_alloc ?_ _)); refine blk_put (cs := #[.int .i64 t478, .int .i64 0]) ?_ 1 _ rfl; (with_reducible repeat (first | refine blk_drewN ?_ _ | refine blk_drew ?_ | refine blk_alloc ?_ _)); refine blk_put (cs := #[.int .i64 0, .int .i64 0]) ?_ 0 _ rfl; (with_reducible repeat (first | refine blk_drewN ?_ _ | refine blk_drew ?_ | refine blk_alloc ?_ _)); exact BK481.out) hb); have n4_ := Aside0.mk (below_step (by repeat (first | (with_reducible first | exact HB.out | apply below_alloc | apply pw_below_drewN | apply below_drew1 | refine below_set ?_ GE466.out | refine below_set ?_ GE467.out | refine below_set ?_ GE468.out | refine below_set ?_ GE481.out) | exact HB.out)) hb); clear BK466; clear BK467; clear BK468; clear BK481; clear HB; have BK466 := n0_; have BK467 := n1_; have BK468 := n2_; have BK481 := n3_; have HB := n4_; clear n0_ n1_ n2_ n3_ n4_; (try clear hb); (try clear hb2); (try clear hk); (try clear hi)) | ((with_reducible refine gate_dst (N := 10) rfl ?_); refine box_event ?hg (N := 10) ?hd (cs := #[.int .i64 0, .int .i64 0]) (t := 23) ?hr ?_; (case hd => rfl); (case hg => rfl); (case hr => first | (go_simp; done) | (go_simp; rfl)); intro gb485 hg w107 hbox hb; have n0_ := Aside0.mk (blk_below (g := gb466) (o := .cells #[.int .i64 a0_0, .int .i64 a0_1] 23 (0, 0)) (by (with_reducible repeat (first | refine blk_drewN ?_ _ | refine blk_drew ?_ | refine blk_alloc ?_ _)); exact BK466.out) hb); have n1_ := Aside0.mk (blk_below (g := gb467) (o := .cells #[.int .i64 a1_0, .int .i64 a1_1] 23 (0, 0)) (by (with_reducible repeat (first | refine blk_drewN ?_ _ | refine blk_drew ?_ | refine blk_alloc ?_ _)); exact BK467.out) hb); have n2_ := Aside0.mk (blk_below (g := gb468) (o := .cells #[.int .i64 a2_0, .int .i64 a2_1] 23 (0, 0)) (by (with_reducible repeat (first | refine blk_drewN ?_ _ | refine blk_drew ?_ | refine blk_alloc ?_ _)); exact BK468.out) hb); have n3_ := Aside0.mk (blk_below (g := gb481) (o := .cells #[.int .i64 t478, .int .i64 t479] 23 (0, 0)) (by (with_reducible repeat (first | refine blk_drewN ?_ _ | refine blk_drew ?_ | refine blk_alloc ?_ _)); exact BK481.out) hb); have n4_ := Aside0.mk (below_step (by repeat (first | (with_reducible first | exact HB.out | apply below_alloc | apply pw_below_drewN | apply below_drew1 | refine below_set ?_ GE466.out | refine below_set ?_ GE467.out | refine below_set ?_ GE468.out | refine below_set ?_ GE481.out) | exact HB.out)) hb); have n5_ := Aside0.mk (hbox); have n6_ := Aside0.mk ((by rw [hg]; exact (below_size (by repeat (first | (with_reducible first | exact HB.out | apply below_alloc | apply pw_below_drewN | apply below_drew1 | refine below_set ?_ GE466.out | refine below_set ?_ GE467.out | refine below_set ?_ GE468.out | refine below_set ?_ GE481.out) | exact HB.out))) : w.heap.size ≤ gb485)); have n7_ := Aside0.mk ((by rw [hg]; exact (below_size (by repeat (first | (with_reducible first | exact HB.out | apply below_alloc | apply pw_below_drewN | apply below_drew1 | refine below_set ?_ GE466.out | refine below_set ?_ GE467.out | refine below_set ?_ GE468.out | refine below_set ?_ GE481.out) | exact HB.out))) : w.heap.size ≤ gb485)); have n8_ := Aside0.mk ((by rw [hg]; exact Nat.ne_of_lt (blk_lt (g := gb466) (o := .cells #[.int .i64 a0_0, .int .i64 a0_1] 23 (0, 0)) (by (with_reducible repeat (first | refine blk_drewN ?_ _ | refine blk_drew ?_ | refine blk_alloc ?_ _)); exact BK466.out)) : gb466 ≠ gb485)); have n9_ := Aside0.mk ((by rw [hg]; exact Nat.ne_of_gt (blk_lt (g := gb466) (o := .cells #[.int .i64 a0_0, .int .i64 a0_1] 23 (0, 0)) (by (with_reducible repeat (first | refine blk_drewN ?_ _ | refine blk_drew ?_ | refine blk_alloc ?_ _)); exact BK466.out)) : gb485 ≠ gb466)); have n10_ := Aside0.mk ((by rw [hg]; exact Nat.ne_of_lt (blk_lt (g := gb467) (o := .cells #[.int .i64 a1_0, .int .i64 a1_1] 23 (0, 0)) (by (with_reducible repeat (first | refine blk_drewN ?_ _ | refine blk_drew ?_ | refine blk_alloc ?_ _)); exact BK467.out)) : gb467 ≠ gb485)); have n11_ := Aside0.mk ((by rw [hg]; exact Nat.ne_of_gt (blk_lt (g := gb467) (o := .cells #[.int .i64 a1_0, .int .i64 a1_1] 23 (0, 0)) (by (with_reducible repeat (first | refine blk_drewN ?_ _ | refine blk_drew ?_ | refine blk_alloc ?_ _)); exact BK467.out)) : gb485 ≠ gb467)); have n12_ := Aside0.mk ((by rw [hg]; exact Nat.ne_of_lt (blk_lt (g := gb468) (o := .cells #[.int .i64 a2_0, .int .i64 a2_1] 23 (0, 0)) (by (with_reducible repeat (first | refine blk_drewN ?_ _ | refine blk_drew ?_ | refine blk_alloc ?_ _)); exact BK468.out)) : gb468 ≠ gb485)); have n13_ := Aside0.mk ((by rw [hg]; exact Nat.ne_of_gt (blk_lt (g := gb468) (o := .cells #[.int .i64 a2_0, .int .i64 a2_1] 23 (0, 0)) (by (with_reducible repeat (first | refine blk_drewN ?_ _ | refine blk_drew ?_ | refine blk_alloc ?_ _)); exact BK468.out)) : gb485 ≠ gb468)); have n14_ := Aside0.mk ((by rw [hg]; exact Nat.ne_of_lt (blk_lt (g := gb481) (o := .cells #[.int .i64 t478, .int .i64 t479] 23 (0, 0)) (by (with_reducible repeat (first | refine blk_drewN ?_ _ | refine blk_drew ?_ | refine blk_alloc ?_ _)); exact BK481.out)) : gb481 ≠ gb485)); have n15_ := Aside0.mk ((by rw [hg]; exact Nat.ne_of_gt (blk_lt (g := gb481) (o := .cells #[.int .i64 t478, .int .i64 t479] 23 (0, 0)) (by (with_reducible repeat (first | refine blk_drewN ?_ _ | refine blk_drew ?_ | refine blk_alloc ?_ _)); exact BK481.out)) : gb485 ≠ gb481)); clear BK466; clear BK467; clear BK468; clear BK481; clear HB; have BK466 := n0_; have BK467 := n1_; have BK468 := n2_; have BK481 := n3_; have HB := n4_; have BK485 := n5_; have GW485 := n6_; have GE485 := n7_; have NB466_485 := n8_; have NB485_466 := n9_; have NB467_485 := n10_; have NB485_467 := n11_; have NB468_485 := n12_; have NB485_468 := n13_; have NB481_485 := n14_; have NB485_481 := n15_; clear n0_ n1_ n2_ n3_ n4_ n5_ n6_ n7_ n8_ n9_ n10_ n11_ n12_ n13_ n14_ n15_; clear hb hbox hg; have hnb108 := NB485_466.out; have hnc108 := NB466_485.out; have hnb109 := NB485_467.out; have hnc109 := NB467_485.out; have hnb110 := NB485_468.out; have hnc110 := NB468_485.out; have hnb111 := NB485_481.out; have hnc111 := NB481_485.out; have hcz112_0 : w107.cell? ⟨gb485, 0, none⟩ = some (.int .i64 0) := (blk_cell BK485.out 0).trans rfl; have hcz112_1 : w107.cell? ⟨gb485, 1, none⟩ = some (.int .i64 0) := (blk_cell BK485.out 1).trans rfl; have hfz112_0 := blk_frozen BK485.out 0; have hfz112_1 := blk_frozen BK485.out 1))
                    (try simp only [Act.put, List.setIfInBounds_toArray, List.set_cons_zero, List.set_cons_succ])
                    go_cut [92] (fun v92 wc => ∃ (kq : Nat) (x92_91 : Bool), v92 = .bool x92_91 ∧ Aside0 (whittlelaw1_NumOrder.j3 kq t474 x92_91 a0_0 a0_1 a1_0 a1_1 a2_0 a2_1 = some r) ∧ Aside0 (kq ≤ kj68) ∧ Aside0 (wc.heap[gb466]? = some (.cells #[.int .i64 a0_0, .int .i64 a0_1] 23 (0, 0))) ∧ Aside0 (wc.heap[gb467]? = some (.cells #[.int .i64 a1_0, .int .i64 a1_1] 23 (0, 0))) ∧ Aside0 (wc.heap[gb468]? = some (.cells #[.int .i64 a2_0, .int .i64 a2_1] 23 (0, 0))) ∧ Aside0 (wc.heap[gb481]? = some (.cells #[.int .i64 t478, .int .i64 t479] 23 (0, 0))) ∧ Aside0 (wc.heap[gb485]? = some (.cells #[.int .i64 t482, .int .i64 t483] 23 (0, 0))) ∧ Aside0 (Below w.heap.size w wc))
                    case first =>
                      have H := HC92.out
                      clear HC92
                      by_cases c113 : t480 = true
                      · subst c113
                        have H1 : (if t484 = true then ((num_Cmp.f kj68 t478 t479 t482 t483).bind fun t486 => (whittlelaw1_NumOrder.j3 kj68 t474 (t486 != t474) a0_0 a0_1 a1_0 a1_1 a2_0 a2_1)) else (whittlelaw1_NumOrder.j3 kj68 t474 false a0_0 a0_1 a1_0 a1_1 a2_0 a2_1)) = some r := by rw [if_pos rfl] at H; exact H
                        clear H
                        have H := H1
                        clear H1
                        by_cases c114 : t484 = true
                        · subst c114
                          have H1 : ((num_Cmp.f kj68 t478 t479 t482 t483).bind fun t486 => (whittlelaw1_NumOrder.j3 kj68 t474 (t486 != t474) a0_0 a0_1 a1_0 a1_1 a2_0 a2_1)) = some r := by rw [if_pos rfl] at H; exact H
                          clear H
                          have H := H1
                          clear H1
                          replace H := Option.bind_eq_some_iff.mp H
                          obtain ⟨t486, A1150, H⟩ := H
                          replace H : (whittlelaw1_NumOrder.j3 kj68 t474 (t486 != t474) a0_0 a0_1 a1_0 a1_1 a2_0 a2_1) = some r := H
                          have A115 := Aside0.mk A1150
                          clear A1150
                          have H' := Aside0.mk H
                          clear H
                          have hnb116 := NB481_466.out
                          have hnc116 := NB466_481.out
                          have hnb117 := NB481_467.out
                          have hnc117 := NB467_481.out
                          have hnb118 := NB481_468.out
                          have hnc118 := NB468_481.out
                          have hnb119 := NB481_485.out
                          have hnc119 := NB485_481.out
                          have hcz120_0 : w107.cell? ⟨gb481, 0, none⟩ = some (.int .i64 t478) := (blk_cell BK481.out 0).trans rfl
                          have hcz120_1 : w107.cell? ⟨gb481, 1, none⟩ = some (.int .i64 t479) := (blk_cell BK481.out 1).trans rfl
                          have hfz120_0 := blk_frozen BK481.out 0
                          have hfz120_1 := blk_frozen BK481.out 1
                          have hnb121 := NB485_466.out
                          have hnc121 := NB466_485.out
                          have hnb122 := NB485_467.out
                          have hnc122 := NB467_485.out
                          have hnb123 := NB485_468.out
                          have hnc123 := NB468_485.out
                          have hcz124_0 : w107.cell? ⟨gb485, 0, none⟩ = some (.int .i64 0) := (blk_cell BK485.out 0).trans rfl
                          have hcz124_1 : w107.cell? ⟨gb485, 1, none⟩ = some (.int .i64 0) := (blk_cell BK485.out 1).trans rfl
                          have hfz124_0 := blk_frozen BK485.out 0
                          have hfz124_1 := blk_frozen BK485.out 1
                          go_wp2_with (first | (go_at_call 25; (with_reducible refine (num_Cmp.calls kj68 t478 t479 t482 t483 t486 _ A115.out).mono ?_); rintro e w125 ⟨rfl, hb⟩; have n0_ := Aside0.mk (blk_below (g := gb466) (o := .cells #[.int .i64 a0_0, .int .i64 a0_1] 23 (0, 0)) (by (with_reducible repeat (first | refine blk_drewN ?_ _ | refine blk_drew ?_ | refine blk_alloc ?_ _)); refine blk_far ?_ NB466_485.out _; (with_reducible repeat (first | refine blk_drewN ?_ _ | refine blk_drew ?_ | refine blk_alloc ?_ _)); refine blk_far ?_ NB466_485.out _; (with_reducible repeat (first | refine blk_drewN ?_ _ | refine blk_drew ?_ | refine blk_alloc ?_ _)); exact BK466.out) hb); have n1_ := Aside0.mk (blk_below (g := gb467) (o := .cells #[.int .i64 a1_0, .int .i64 a1_1] 23 (0, 0)) (by (with_reducible repeat (first | refine blk_drewN ?_ _ | refine blk_drew ?_ | refine blk_alloc ?_ _)); refine blk_far ?_ NB467_485.out _; (with_reducible repeat (first | refine blk_drewN ?_ _ | refine blk_drew ?_ | refine blk_alloc ?_ _)); refine blk_far ?_ NB467_485.out _; (with_reducible repeat (first | refine blk_drewN ?_ _ | refine blk_drew ?_ | refine blk_alloc ?_ _)); exact BK467.out) hb); have n2_ := Aside0.mk (blk_below (g := gb468) (o := .cells #[.int .i64 a2_0, .int .i64 a2_1] 23 (0, 0)) (by (with_reducible repeat (first | refine blk_drewN ?_ _ | refine blk_drew ?_ | refine blk_alloc ?_ _)); refine blk_far ?_ NB468_485.out _; (with_reducible repeat (first | refine blk_drewN ?_ _ | refine blk_drew ?_ | refine blk_alloc ?_ _)); refine blk_far ?_ NB468_485.out _; (with_reducible repeat (first | refine blk_drewN ?_ _ | refine blk_drew ?_ | refine blk_alloc ?_ _)); exact BK468.out) hb); have n3_ := Aside0.mk (blk_below (g := gb481) (o := .cells #[.int .i64 t478, .int .i64 t479] 23 (0, 0)) (by (with_reducible repeat (first | refine blk_drewN ?_ _ | refine blk_drew ?_ | refine blk_alloc ?_ _)); refine blk_far ?_ NB481_485.out _; (with_reducible repeat (first | refine blk_drewN ?_ _ | refine blk_drew ?_ | refine blk_alloc ?_ _)); refine blk_far ?_ NB481_485.out _; (with_reducible repeat (first | refine blk_drewN ?_ _ | refine blk_drew ?_ | refine blk_alloc ?_ _)); exact BK481.out) hb); have n4_ := Aside0.mk (blk_below (g := gb485) (o := .cells #[.int .i64 t482, .int .i64 t483] 23 (0, 0)) (by (with_reducible repeat (first | refine blk_drewN ?_ _ | refine blk_drew ?_ | refine blk_alloc ?_ _)); refine blk_put (cs := #[.int .i64 t482, .int .i64 0]) ?_ 1 _ rfl; (with_reducible repeat (first | refine blk_drewN ?_ _ | refine blk_drew ?_ | refine blk_alloc ?_ _)); refine blk_put (cs := #[.int .i64 0, .int .i64 0]) ?_ 0 _ rfl; (with_reducible repeat (first | refine blk_drewN ?_ _ | refine blk_drew ?_ | refine blk_alloc ?_ _)); exact BK485.out) hb); have n5_ := Aside0.mk (below_step (by repeat (first | (with_reducible first | exact HB.out | apply below_alloc | apply pw_below_drewN | apply below_drew1 | refine below_set ?_ GE466.out | refine below_set ?_ GE467.out | refine below_set ?_ GE468.out | refine below_set ?_ GE481.out | refine below_set ?_ GE485.out) | exact HB.out)) hb); clear BK466; clear BK467; clear BK468; clear BK481; clear BK485; clear HB; have BK466 := n0_; have BK467 := n1_; have BK468 := n2_; have BK481 := n3_; have BK485 := n4_; have HB := n5_; clear n0_ n1_ n2_ n3_ n4_ n5_; (try clear hb); (try clear hb2); (try clear hk); (try clear hi)))
                          go_meet
                          case rel => exact ⟨_, ((t486 != t474)), (by first | rfl | (simp; done) | (simp [*]; done) | (simp [bne_nil]; done)), H', ⟨by have := HJ3.out; have := HJ42.out; have := HJ68.out; first | omega | exact Nat.le_refl _⟩, ⟨by (with_reducible repeat (first | refine blk_drewN ?_ _ | refine blk_drew ?_ | refine blk_alloc ?_ _)); exact BK466.out⟩, ⟨by (with_reducible repeat (first | refine blk_drewN ?_ _ | refine blk_drew ?_ | refine blk_alloc ?_ _)); exact BK467.out⟩, ⟨by (with_reducible repeat (first | refine blk_drewN ?_ _ | refine blk_drew ?_ | refine blk_alloc ?_ _)); exact BK468.out⟩, ⟨by (with_reducible repeat (first | refine blk_drewN ?_ _ | refine blk_drew ?_ | refine blk_alloc ?_ _)); exact BK481.out⟩, ⟨by (with_reducible repeat (first | refine blk_drewN ?_ _ | refine blk_drew ?_ | refine blk_alloc ?_ _)); exact BK485.out⟩, ⟨by repeat (first | (with_reducible first | exact HB.out | apply below_alloc | apply pw_below_drewN | apply below_drew1 | refine below_set ?_ GE466.out | refine below_set ?_ GE467.out | refine below_set ?_ GE468.out | refine below_set ?_ GE481.out | refine below_set ?_ GE485.out) | exact HB.out)⟩⟩
                        · replace c114 := Bool.eq_false_iff.mpr c114
                          subst c114
                          have H1 : (whittlelaw1_NumOrder.j3 kj68 t474 false a0_0 a0_1 a1_0 a1_1 a2_0 a2_1) = some r := by rw [if_neg (show ¬ (false = true) by decide)] at H; exact H
                          clear H
                          have H := H1
                          clear H1
                          have H' := Aside0.mk H
                          clear H
                          go_wp2
                          go_meet
                          case rel => exact ⟨_, (false), (by first | rfl | (simp; done) | (simp [*]; done) | (simp [bne_nil]; done)), H', ⟨by have := HJ3.out; have := HJ42.out; have := HJ68.out; first | omega | exact Nat.le_refl _⟩, ⟨by (with_reducible repeat (first | refine blk_drewN ?_ _ | refine blk_drew ?_ | refine blk_alloc ?_ _)); refine blk_far ?_ NB466_485.out _; (with_reducible repeat (first | refine blk_drewN ?_ _ | refine blk_drew ?_ | refine blk_alloc ?_ _)); refine blk_far ?_ NB466_485.out _; (with_reducible repeat (first | refine blk_drewN ?_ _ | refine blk_drew ?_ | refine blk_alloc ?_ _)); exact BK466.out⟩, ⟨by (with_reducible repeat (first | refine blk_drewN ?_ _ | refine blk_drew ?_ | refine blk_alloc ?_ _)); refine blk_far ?_ NB467_485.out _; (with_reducible repeat (first | refine blk_drewN ?_ _ | refine blk_drew ?_ | refine blk_alloc ?_ _)); refine blk_far ?_ NB467_485.out _; (with_reducible repeat (first | refine blk_drewN ?_ _ | refine blk_drew ?_ | refine blk_alloc ?_ _)); exact BK467.out⟩, ⟨by (with_reducible repeat (first | refine blk_drewN ?_ _ | refine blk_drew ?_ | refine blk_alloc ?_ _)); refine blk_far ?_ NB468_485.out _; (with_reducible repeat (first | refine blk_drewN ?_ _ | refine blk_drew ?_ | refine blk_alloc ?_ _)); refine blk_far ?_ NB468_485.out _; (with_reducible repeat (first | refine blk_drewN ?_ _ | refine blk_drew ?_ | refine blk_alloc ?_ _)); exact BK468.out⟩, ⟨by (with_reducible repeat (first | refine blk_drewN ?_ _ | refine blk_drew ?_ | refine blk_alloc ?_ _)); refine blk_far ?_ NB481_485.out _; (with_reducible repeat (first | refine blk_drewN ?_ _ | refine blk_drew ?_ | refine blk_alloc ?_ _)); refine blk_far ?_ NB481_485.out _; (with_reducible repeat (first | refine blk_drewN ?_ _ | refine blk_drew ?_ | refine blk_alloc ?_ _)); exact BK481.out⟩, ⟨by (with_reducible repeat (first | refine blk_drewN ?_ _ | refine blk_drew ?_ | refine blk_alloc ?_ _)); refine blk_put (cs := #[.int .i64 t482, .int .i64 0]) ?_ 1 _ rfl; (with_reducible repeat (first | refine blk_drewN ?_ _ | refine blk_drew ?_ | refine blk_alloc ?_ _)); refine blk_put (cs := #[.int .i64 0, .int .i64 0]) ?_ 0 _ rfl; (with_reducible repeat (first | refine blk_drewN ?_ _ | refine blk_drew ?_ | refine blk_alloc ?_ _)); exact BK485.out⟩, ⟨by repeat (first | (with_reducible first | exact HB.out | apply below_alloc | apply pw_below_drewN | apply below_drew1 | refine below_set ?_ GE466.out | refine below_set ?_ GE467.out | refine below_set ?_ GE468.out | refine below_set ?_ GE481.out | refine below_set ?_ GE485.out) | exact HB.out)⟩⟩
                      · replace c113 := Bool.eq_false_iff.mpr c113
                        subst c113
                        have H1 : (whittlelaw1_NumOrder.j3 kj68 t474 false a0_0 a0_1 a1_0 a1_1 a2_0 a2_1) = some r := by rw [if_neg (show ¬ (false = true) by decide)] at H; exact H
                        clear H
                        have H := H1
                        clear H1
                        have H' := Aside0.mk H
                        clear H
                        go_wp2
                        go_meet
                        case rel => exact ⟨_, (false), (by first | rfl | (simp; done) | (simp [*]; done) | (simp [bne_nil]; done)), H', ⟨by have := HJ3.out; have := HJ42.out; have := HJ68.out; first | omega | exact Nat.le_refl _⟩, ⟨by (with_reducible repeat (first | refine blk_drewN ?_ _ | refine blk_drew ?_ | refine blk_alloc ?_ _)); refine blk_far ?_ NB466_485.out _; (with_reducible repeat (first | refine blk_drewN ?_ _ | refine blk_drew ?_ | refine blk_alloc ?_ _)); refine blk_far ?_ NB466_485.out _; (with_reducible repeat (first | refine blk_drewN ?_ _ | refine blk_drew ?_ | refine blk_alloc ?_ _)); exact BK466.out⟩, ⟨by (with_reducible repeat (first | refine blk_drewN ?_ _ | refine blk_drew ?_ | refine blk_alloc ?_ _)); refine blk_far ?_ NB467_485.out _; (with_reducible repeat (first | refine blk_drewN ?_ _ | refine blk_drew ?_ | refine blk_alloc ?_ _)); refine blk_far ?_ NB467_485.out _; (with_reducible repeat (first | refine blk_drewN ?_ _ | refine blk_drew ?_ | refine blk_alloc ?_ _)); exact BK467.out⟩, ⟨by (with_reducible repeat (first | refine blk_drewN ?_ _ | refine blk_drew ?_ | refine blk_alloc ?_ _)); refine blk_far ?_ NB468_485.out _; (with_reducible repeat (first | refine blk_drewN ?_ _ | refine blk_drew ?_ | refine blk_alloc ?_ _)); refine blk_far ?_ NB468_485.out _; (with_reducible repeat (first | refine blk_drewN ?_ _ | refine blk_drew ?_ | refine blk_alloc ?_ _)); exact BK468.out⟩, ⟨by (with_reducible repeat (first | refine blk_drewN ?_ _ | refine blk_drew ?_ | refine blk_alloc ?_ _)); refine blk_far ?_ NB481_485.out _; (with_reducible repeat (first | refine blk_drewN ?_ _ | refine blk_drew ?_ | refine blk_alloc ?_ _)); refine blk_far ?_ NB481_485.out _; (with_reducible repeat (first | refine blk_drewN ?_ _ | refine blk_drew ?_ | refine blk_alloc ?_ _)); exact BK481.out⟩, ⟨by (with_reducible repeat (first | refine blk_drewN ?_ _ | refine blk_drew ?_ | refine blk_alloc ?_ _)); refine blk_put (cs := #[.int .i64 t482, .int .i64 0]) ?_ 1 _ rfl; (with_reducible repeat (first | refine blk_drewN ?_ _ | refine blk_drew ?_ | refine blk_alloc ?_ _)); refine blk_put (cs := #[.int .i64 0, .int .i64 0]) ?_ 0 _ rfl; (with_reducible repeat (first | refine blk_drewN ?_ _ | refine blk_drew ?_ | refine blk_alloc ?_ _)); exact BK485.out⟩, ⟨by repeat (first | (with_reducible first | exact HB.out | apply below_alloc | apply pw_below_drewN | apply below_drew1 | refine below_set ?_ GE466.out | refine below_set ?_ GE467.out | refine below_set ?_ GE468.out | refine below_set ?_ GE481.out | refine below_set ?_ GE485.out) | exact HB.out)⟩⟩
                    case rest =>
                      clear HC92
                      try clear c1
                      try clear c2
                      try clear p2
                      try clear c3
                      try clear c4
                      try clear c5
                      try clear c6
                      try clear p6
                      try clear c7
                      try clear c8
                      try clear c9
                      try clear c10
                      try clear c11
                      try clear c12
                      try clear c13
                      try clear c16
                      try clear c17
                      try clear c20
                      try clear c22
                      try clear c25
                      try clear c26
                      try clear c27
                      try clear c30
                      try clear c33
                      try clear c34
                      try clear c35
                      try clear c39
                      try clear c44
                      try clear c45
                      try clear c47
                      try clear c50
                      try clear c50b0
                      try clear c51
                      try clear c51b0
                      try clear c53
                      try clear c53b0
                      try clear c53b1
                      try clear c54
                      try clear c55
                      try clear c57
                      try clear c62
                      try clear c63
                      try clear p64
                      try clear c65
                      try clear c68
                      try clear c70
                      try clear c70b0
                      try clear c72
                      try clear c72b0
                      try clear c74
                      try clear c75
                      try clear c77
                      try clear c83
                      try clear c84
                      try clear c86
                      try clear c89
                      try clear c93
                      try clear c94
                      try clear c96
                      try clear c100
                      try clear c101
                      try clear c102
                      try clear c108
                      try clear c109
                      try clear c110
                      try clear c111
                      try clear c113
                      try clear c114
                      try clear c116
                      try clear c117
                      try clear c118
                      try clear c119
                      try clear c121
                      try clear c122
                      try clear c123
                      try clear hcz103_0
                      try clear hcz103_1
                      try clear hcz104_0
                      try clear hcz104_1
                      try clear hcz105_0
                      try clear hcz105_1
                      try clear hcz112_0
                      try clear hcz112_1
                      try clear hcz120_0
                      try clear hcz120_1
                      try clear hcz124_0
                      try clear hcz124_1
                      try clear hcz18_0
                      try clear hcz18_1
                      try clear hcz21_0
                      try clear hcz21_1
                      try clear hcz23_0
                      try clear hcz23_1
                      try clear hcz28_0
                      try clear hcz28_1
                      try clear hcz31_0
                      try clear hcz31_1
                      try clear hcz36_0
                      try clear hcz36_1
                      try clear hcz46_0
                      try clear hcz46_1
                      try clear hcz48_0
                      try clear hcz48_1
                      try clear hcz56_0
                      try clear hcz56_1
                      try clear hcz58_0
                      try clear hcz58_1
                      try clear hcz60_0
                      try clear hcz60_1
                      try clear hcz61_0
                      try clear hcz61_1
                      try clear hcz64_0
                      try clear hcz64_1
                      try clear hcz66_0
                      try clear hcz66_1
                      try clear hcz76_0
                      try clear hcz76_1
                      try clear hcz78_0
                      try clear hcz78_1
                      try clear hcz80_0
                      try clear hcz80_1
                      try clear hcz81_0
                      try clear hcz81_1
                      try clear hcz85_0
                      try clear hcz85_1
                      try clear hcz87_0
                      try clear hcz87_1
                      try clear hcz95_0
                      try clear hcz95_1
                      try clear hcz97_0
                      try clear hcz97_1
                      try clear hfz103_0
                      try clear hfz103_1
                      try clear hfz104_0
                      try clear hfz104_1
                      try clear hfz105_0
                      try clear hfz105_1
                      try clear hfz112_0
                      try clear hfz112_1
                      try clear hfz120_0
                      try clear hfz120_1
                      try clear hfz124_0
                      try clear hfz124_1
                      try clear hfz18_0
                      try clear hfz18_1
                      try clear hfz21_0
                      try clear hfz21_1
                      try clear hfz23_0
                      try clear hfz23_1
                      try clear hfz28_0
                      try clear hfz28_1
                      try clear hfz31_0
                      try clear hfz31_1
                      try clear hfz36_0
                      try clear hfz36_1
                      try clear hfz46_0
                      try clear hfz46_1
                      try clear hfz48_0
                      try clear hfz48_1
                      try clear hfz56_0
                      try clear hfz56_1
                      try clear hfz58_0
                      try clear hfz58_1
                      try clear hfz60_0
                      try clear hfz60_1
                      try clear hfz61_0
                      try clear hfz61_1
                      try clear hfz64_0
                      try clear hfz64_1
                      try clear hfz66_0
                      try clear hfz66_1
                      try clear hfz76_0
                      try clear hfz76_1
                      try clear hfz78_0
                      try clear hfz78_1
                      try clear hfz80_0
                      try clear hfz80_1
                      try clear hfz81_0
                      try clear hfz81_1
                      try clear hfz85_0
                      try clear hfz85_1
                      try clear hfz87_0
                      try clear hfz87_1
                      try clear hfz95_0
                      try clear hfz95_1
                      try clear hfz97_0
                      try clear hfz97_1
                      try clear p2
                      try clear p6
                      try clear p64
                      obtain ⟨kq, x92_91, rfl, HA, HJ91, BK466, BK467, BK468, BK481, BK485, HB⟩ := hcut
                      cases kq with
                      | zero => exact absurd HA.out (by simp [whittlelaw1_NumOrder.j3])
                      | succ kj91 =>
                        have H := HA.out
                        clear HA
                        simp only [whittlelaw1_NumOrder.j3] at H
                        by_cases c126 : x92_91 = true
                        · subst c126
                          have H1 : (some false) = some r := by rw [if_pos rfl] at H; exact H
                          clear H
                          have H := H1
                          clear H1
                          exact absurd (Option.some.inj H) (by rw [HR.out]; decide)
                        · replace c126 := Bool.eq_false_iff.mpr c126
                          subst c126
                          have H1 : ((num_Mul.f kj91 a0_0 a0_1 a2_0 a2_1).bind fun bt487 => ((num_Mul.f kj91 a1_0 a1_1 a2_0 a2_1).bind fun bt490 => ((whittlelaw1_zero.f).bind fun bt493 => ((num_Cmp.f kj91 a2_0 a2_1 bt493.1 bt493.2).bind fun t495 => (if bt487.2.2 = true then (if bt490.2.2 = true then ((num_Cmp.f kj91 bt487.1 bt487.2.1 bt490.1 bt490.2.1).bind fun t496 => (some (t496 == (wrap64 (t474 * t495))))) else (some true)) else (some true)))))) = some r := by rw [if_neg (show ¬ (false = true) by decide)] at H; exact H
                          clear H
                          have H := H1
                          clear H1
                          replace H := Option.bind_eq_some_iff.mp H
                          obtain ⟨⟨t487, t488, t489⟩, A1270, H⟩ := H
                          replace H : ((num_Mul.f kj91 a1_0 a1_1 a2_0 a2_1).bind fun bt490 => ((whittlelaw1_zero.f).bind fun bt493 => ((num_Cmp.f kj91 a2_0 a2_1 bt493.1 bt493.2).bind fun t495 => (if t489 = true then (if bt490.2.2 = true then ((num_Cmp.f kj91 t487 t488 bt490.1 bt490.2.1).bind fun t496 => (some (t496 == (wrap64 (t474 * t495))))) else (some true)) else (some true))))) = some r := H
                          have A127 := Aside0.mk A1270
                          clear A1270
                          replace H := Option.bind_eq_some_iff.mp H
                          obtain ⟨⟨t490, t491, t492⟩, A1280, H⟩ := H
                          replace H : ((whittlelaw1_zero.f).bind fun bt493 => ((num_Cmp.f kj91 a2_0 a2_1 bt493.1 bt493.2).bind fun t495 => (if t489 = true then (if t492 = true then ((num_Cmp.f kj91 t487 t488 t490 t491).bind fun t496 => (some (t496 == (wrap64 (t474 * t495))))) else (some true)) else (some true)))) = some r := H
                          have A128 := Aside0.mk A1280
                          clear A1280
                          replace H := Option.bind_eq_some_iff.mp H
                          obtain ⟨⟨t493, t494⟩, A1290, H⟩ := H
                          replace H : ((num_Cmp.f kj91 a2_0 a2_1 t493 t494).bind fun t495 => (if t489 = true then (if t492 = true then ((num_Cmp.f kj91 t487 t488 t490 t491).bind fun t496 => (some (t496 == (wrap64 (t474 * t495))))) else (some true)) else (some true))) = some r := H
                          have A129 := Aside0.mk A1290
                          clear A1290
                          replace H := Option.bind_eq_some_iff.mp H
                          obtain ⟨t495, A1300, H⟩ := H
                          replace H : (if t489 = true then (if t492 = true then ((num_Cmp.f kj91 t487 t488 t490 t491).bind fun t496 => (some (t496 == (wrap64 (t474 * t495))))) else (some true)) else (some true)) = some r := H
                          have A130 := Aside0.mk A1300
                          clear A1300
                          by_cases c131 : t489 = true
                          · subst c131
                            have H1 : (if t492 = true then ((num_Cmp.f kj91 t487 t488 t490 t491).bind fun t496 => (some (t496 == (wrap64 (t474 * t495))))) else (some true)) = some r := by rw [if_pos rfl] at H; exact H
                            clear H
                            have H := H1
                            clear H1
                            by_cases c132 : t492 = true
                            · subst c132
                              have H1 : ((num_Cmp.f kj91 t487 t488 t490 t491).bind fun t496 => (some (t496 == (wrap64 (t474 * t495))))) = some r := by rw [if_pos rfl] at H; exact H
                              clear H
                              have H := H1
                              clear H1
                              replace H := Option.bind_eq_some_iff.mp H
                              obtain ⟨t496, A1330, H⟩ := H
                              replace H : (some (t496 == (wrap64 (t474 * t495)))) = some r := H
                              have A133 := Aside0.mk A1330
                              clear A1330
                              clear HR
                              obtain rfl := Option.some.inj H
                              have hnb134 := NB466_467.out
                              have hnc134 := NB467_466.out
                              have hnb135 := NB466_468.out
                              have hnc135 := NB468_466.out
                              have hnb136 := NB466_481.out
                              have hnc136 := NB481_466.out
                              have hnb137 := NB466_485.out
                              have hnc137 := NB485_466.out
                              have hcz138_0 : wc.cell? ⟨gb466, 0, none⟩ = some (.int .i64 a0_0) := (blk_cell BK466.out 0).trans rfl
                              have hcz138_1 : wc.cell? ⟨gb466, 1, none⟩ = some (.int .i64 a0_1) := (blk_cell BK466.out 1).trans rfl
                              have hfz138_0 := blk_frozen BK466.out 0
                              have hfz138_1 := blk_frozen BK466.out 1
                              have hnb139 := NB468_467.out
                              have hnc139 := NB467_468.out
                              have hnb140 := NB468_481.out
                              have hnc140 := NB481_468.out
                              have hnb141 := NB468_485.out
                              have hnc141 := NB485_468.out
                              have hcz142_0 : wc.cell? ⟨gb468, 0, none⟩ = some (.int .i64 a2_0) := (blk_cell BK468.out 0).trans rfl
                              have hcz142_1 : wc.cell? ⟨gb468, 1, none⟩ = some (.int .i64 a2_1) := (blk_cell BK468.out 1).trans rfl
                              have hfz142_0 := blk_frozen BK468.out 0
                              have hfz142_1 := blk_frozen BK468.out 1
                              try go_wp2_with (first | ((with_reducible refine gate_callee (f := 39) rfl ?_); refine goesL_ (some 96) rfl rfl Tryd.func39 (by kernel_rfl) rfl #[.agg #[.int .i64 a0_0, .int .i64 a0_1], .agg #[.int .i64 a2_0, .int .i64 a2_1]] rfl (by (try simp only [List.map_toArray, List.map_cons, List.map_nil]); first | done | rfl | (simp only [List.length_drop, List.length_take]; rfl)) ?_; (with_reducible refine (num_Mul.calls kj91 a0_0 a0_1 a2_0 a2_1 t487 t488 true _ A127.out).mono ?_); rintro e w143 ⟨rfl, hb⟩; refine ⟨_, rfl, ?_⟩; have n0_ := Aside0.mk (blk_below (g := gb466) (o := .cells #[.int .i64 a0_0, .int .i64 a0_1] 23 (0, 0)) (by (with_reducible repeat (first | refine blk_drewN ?_ _ | refine blk_drew ?_ | refine blk_alloc ?_ _)); exact BK466.out) hb); have n1_ := Aside0.mk (blk_below (g := gb467) (o := .cells #[.int .i64 a1_0, .int .i64 a1_1] 23 (0, 0)) (by (with_reducible repeat (first | refine blk_drewN ?_ _ | refine blk_drew ?_ | refine blk_alloc ?_ _)); exact BK467.out) hb); have n2_ := Aside0.mk (blk_below (g := gb468) (o := .cells #[.int .i64 a2_0, .int .i64 a2_1] 23 (0, 0)) (by (with_reducible repeat (first | refine blk_drewN ?_ _ | refine blk_drew ?_ | refine blk_alloc ?_ _)); exact BK468.out) hb); have n3_ := Aside0.mk (blk_below (g := gb481) (o := .cells #[.int .i64 t478, .int .i64 t479] 23 (0, 0)) (by (with_reducible repeat (first | refine blk_drewN ?_ _ | refine blk_drew ?_ | refine blk_alloc ?_ _)); exact BK481.out) hb); have n4_ := Aside0.mk (blk_below (g := gb485) (o := .cells #[.int .i64 t482, .int .i64 t483] 23 (0, 0)) (by (with_reducible repeat (first | refine blk_drewN ?_ _ | refine blk_drew ?_ | refine blk_alloc ?_ _)); exact BK485.out) hb); have n5_ := Aside0.mk (below_step (by repeat (first | (with_reducible first | exact HB.out | apply below_alloc | apply pw_below_drewN | apply below_drew1 | refine below_set ?_ GE466.out | refine below_set ?_ GE467.out | refine below_set ?_ GE468.out | refine below_set ?_ GE481.out | refine below_set ?_ GE485.out) | exact HB.out)) hb); clear BK466; clear BK467; clear BK468; clear BK481; clear BK485; clear HB; have BK466 := n0_; have BK467 := n1_; have BK468 := n2_; have BK481 := n3_; have BK485 := n4_; have HB := n5_; clear n0_ n1_ n2_ n3_ n4_ n5_; (try clear hb); (try clear hb2); (try clear hk); (try clear hi); have hnb144 := NB481_467.out; have hnc144 := NB467_481.out; have hnb145 := NB481_485.out; have hnc145 := NB485_481.out; have hcz146_0 : w143.cell? ⟨gb481, 0, none⟩ = some (.int .i64 t478) := (blk_cell BK481.out 0).trans rfl; have hcz146_1 : w143.cell? ⟨gb481, 1, none⟩ = some (.int .i64 t479) := (blk_cell BK481.out 1).trans rfl; have hfz146_0 := blk_frozen BK481.out 0; have hfz146_1 := blk_frozen BK481.out 1; have hnb147 := NB467_485.out; have hnc147 := NB485_467.out; have hcz148_0 : w143.cell? ⟨gb467, 0, none⟩ = some (.int .i64 a1_0) := (blk_cell BK467.out 0).trans rfl; have hcz148_1 : w143.cell? ⟨gb467, 1, none⟩ = some (.int .i64 a1_1) := (blk_cell BK467.out 1).trans rfl; have hfz148_0 := blk_frozen BK467.out 0; have hfz148_1 := blk_frozen BK467.out 1; have hcz149_0 : w143.cell? ⟨gb468, 0, none⟩ = some (.int .i64 a2_0) := (blk_cell BK468.out 0).trans rfl; have hcz149_1 : w143.cell? ⟨gb468, 1, none⟩ = some (.int .i64 a2_1) := (blk_cell BK468.out 1).trans rfl; have hfz149_0 := blk_frozen BK468.out 0; have hfz149_1 := blk_frozen BK468.out 1) | ((with_reducible refine gate_callee (f := 39) rfl ?_); refine goesL_ (some 102) rfl rfl Tryd.func39 (by kernel_rfl) rfl #[.agg #[.int .i64 a1_0, .int .i64 a1_1], .agg #[.int .i64 a2_0, .int .i64 a2_1]] rfl (by (try simp only [List.map_toArray, List.map_cons, List.map_nil]); first | done | rfl | (simp only [List.length_drop, List.length_take]; rfl)) ?_; (with_reducible refine (num_Mul.calls kj91 a1_0 a1_1 a2_0 a2_1 t490 t491 true _ A128.out).mono ?_); rintro e w150 ⟨rfl, hb⟩; refine ⟨_, rfl, ?_⟩; have n0_ := Aside0.mk (blk_below (g := gb466) (o := .cells #[.int .i64 a0_0, .int .i64 a0_1] 23 (0, 0)) (by (with_reducible repeat (first | refine blk_drewN ?_ _ | refine blk_drew ?_ | refine blk_alloc ?_ _)); refine blk_far ?_ NB466_481.out _; (with_reducible repeat (first | refine blk_drewN ?_ _ | refine blk_drew ?_ | refine blk_alloc ?_ _)); refine blk_far ?_ NB466_481.out _; (with_reducible repeat (first | refine blk_drewN ?_ _ | refine blk_drew ?_ | refine blk_alloc ?_ _)); exact BK466.out) hb); have n1_ := Aside0.mk (blk_below (g := gb467) (o := .cells #[.int .i64 a1_0, .int .i64 a1_1] 23 (0, 0)) (by (with_reducible repeat (first | refine blk_drewN ?_ _ | refine blk_drew ?_ | refine blk_alloc ?_ _)); refine blk_far ?_ NB467_481.out _; (with_reducible repeat (first | refine blk_drewN ?_ _ | refine blk_drew ?_ | refine blk_alloc ?_ _)); refine blk_far ?_ NB467_481.out _; (with_reducible repeat (first | refine blk_drewN ?_ _ | refine blk_drew ?_ | refine blk_alloc ?_ _)); exact BK467.out) hb); have n2_ := Aside0.mk (blk_below (g := gb468) (o := .cells #[.int .i64 a2_0, .int .i64 a2_1] 23 (0, 0)) (by (with_reducible repeat (first | refine blk_drewN ?_ _ | refine blk_drew ?_ | refine blk_alloc ?_ _)); refine blk_far ?_ NB468_481.out _; (with_reducible repeat (first | refine blk_drewN ?_ _ | refine blk_drew ?_ | refine blk_alloc ?_ _)); refine blk_far ?_ NB468_481.out _; (with_reducible repeat (first | refine blk_drewN ?_ _ | refine blk_drew ?_ | refine blk_alloc ?_ _)); exact BK468.out) hb); have n3_ := Aside0.mk (blk_below (g := gb481) (o := .cells #[.int .i64 t487, .int .i64 t488] 23 (0, 0)) (by (with_reducible repeat (first | refine blk_drewN ?_ _ | refine blk_drew ?_ | refine blk_alloc ?_ _)); refine blk_put (cs := #[.int .i64 t487, .int .i64 t479]) ?_ 1 _ rfl; (with_reducible repeat (first | refine blk_drewN ?_ _ | refine blk_drew ?_ | refine blk_alloc ?_ _)); refine blk_put (cs := #[.int .i64 t478, .int .i64 t479]) ?_ 0 _ rfl; (with_reducible repeat (first | refine blk_drewN ?_ _ | refine blk_drew ?_ | refine blk_alloc ?_ _)); exact BK481.out) hb); have n4_ := Aside0.mk (blk_below (g := gb485) (o := .cells #[.int .i64 t482, .int .i64 t483] 23 (0, 0)) (by (with_reducible repeat (first | refine blk_drewN ?_ _ | refine blk_drew ?_ | refine blk_alloc ?_ _)); refine blk_far ?_ NB485_481.out _; (with_reducible repeat (first | refine blk_drewN ?_ _ | refine blk_drew ?_ | refine blk_alloc ?_ _)); refine blk_far ?_ NB485_481.out _; (with_reducible repeat (first | refine blk_drewN ?_ _ | refine blk_drew ?_ | refine blk_alloc ?_ _)); exact BK485.out) hb); have n5_ := Aside0.mk (below_step (by repeat (first | (with_reducible first | exact HB.out | apply below_alloc | apply pw_below_drewN | apply below_drew1 | refine below_set ?_ GE466.out | refine below_set ?_ GE467.out | refine below_set ?_ GE468.out | refine below_set ?_ GE481.out | refine below_set ?_ GE485.out) | exact HB.out)) hb); clear BK466; clear BK467; clear BK468; clear BK481; clear BK485; clear HB; have BK466 := n0_; have BK467 := n1_; have BK468 := n2_; have BK481 := n3_; have BK485 := n4_; have HB := n5_; clear n0_ n1_ n2_ n3_ n4_ n5_; (try clear hb); (try clear hb2); (try clear hk); (try clear hi); have hcz151_0 : w150.cell? ⟨gb485, 0, none⟩ = some (.int .i64 t482) := (blk_cell BK485.out 0).trans rfl; have hcz151_1 : w150.cell? ⟨gb485, 1, none⟩ = some (.int .i64 t483) := (blk_cell BK485.out 1).trans rfl; have hfz151_0 := blk_frozen BK485.out 0; have hfz151_1 := blk_frozen BK485.out 1))
                              have n0_ : Aside0 (((w150.setCell ⟨gb485, 0, none⟩ (.int .i64 t490)).setCell ⟨gb485, 1, none⟩ (.int .i64 t491)).heap[gb466]? = some (.cells #[.int .i64 a0_0, .int .i64 a0_1] 23 (0, 0))) := ⟨by (with_reducible repeat (first | refine blk_drewN ?_ _ | refine blk_drew ?_ | refine blk_alloc ?_ _)); refine blk_far ?_ NB466_485.out _; (with_reducible repeat (first | refine blk_drewN ?_ _ | refine blk_drew ?_ | refine blk_alloc ?_ _)); refine blk_far ?_ NB466_485.out _; (with_reducible repeat (first | refine blk_drewN ?_ _ | refine blk_drew ?_ | refine blk_alloc ?_ _)); exact BK466.out⟩
                              have n1_ : Aside0 (((w150.setCell ⟨gb485, 0, none⟩ (.int .i64 t490)).setCell ⟨gb485, 1, none⟩ (.int .i64 t491)).heap[gb467]? = some (.cells #[.int .i64 a1_0, .int .i64 a1_1] 23 (0, 0))) := ⟨by (with_reducible repeat (first | refine blk_drewN ?_ _ | refine blk_drew ?_ | refine blk_alloc ?_ _)); refine blk_far ?_ NB467_485.out _; (with_reducible repeat (first | refine blk_drewN ?_ _ | refine blk_drew ?_ | refine blk_alloc ?_ _)); refine blk_far ?_ NB467_485.out _; (with_reducible repeat (first | refine blk_drewN ?_ _ | refine blk_drew ?_ | refine blk_alloc ?_ _)); exact BK467.out⟩
                              have n2_ : Aside0 (((w150.setCell ⟨gb485, 0, none⟩ (.int .i64 t490)).setCell ⟨gb485, 1, none⟩ (.int .i64 t491)).heap[gb468]? = some (.cells #[.int .i64 a2_0, .int .i64 a2_1] 23 (0, 0))) := ⟨by (with_reducible repeat (first | refine blk_drewN ?_ _ | refine blk_drew ?_ | refine blk_alloc ?_ _)); refine blk_far ?_ NB468_485.out _; (with_reducible repeat (first | refine blk_drewN ?_ _ | refine blk_drew ?_ | refine blk_alloc ?_ _)); refine blk_far ?_ NB468_485.out _; (with_reducible repeat (first | refine blk_drewN ?_ _ | refine blk_drew ?_ | refine blk_alloc ?_ _)); exact BK468.out⟩
                              have n3_ : Aside0 (((w150.setCell ⟨gb485, 0, none⟩ (.int .i64 t490)).setCell ⟨gb485, 1, none⟩ (.int .i64 t491)).heap[gb481]? = some (.cells #[.int .i64 t487, .int .i64 t488] 23 (0, 0))) := ⟨by (with_reducible repeat (first | refine blk_drewN ?_ _ | refine blk_drew ?_ | refine blk_alloc ?_ _)); refine blk_far ?_ NB481_485.out _; (with_reducible repeat (first | refine blk_drewN ?_ _ | refine blk_drew ?_ | refine blk_alloc ?_ _)); refine blk_far ?_ NB481_485.out _; (with_reducible repeat (first | refine blk_drewN ?_ _ | refine blk_drew ?_ | refine blk_alloc ?_ _)); exact BK481.out⟩
                              have n4_ : Aside0 (((w150.setCell ⟨gb485, 0, none⟩ (.int .i64 t490)).setCell ⟨gb485, 1, none⟩ (.int .i64 t491)).heap[gb485]? = some (.cells #[.int .i64 t490, .int .i64 t491] 23 (0, 0))) := ⟨by (with_reducible repeat (first | refine blk_drewN ?_ _ | refine blk_drew ?_ | refine blk_alloc ?_ _)); refine blk_put (cs := #[.int .i64 t490, .int .i64 t483]) ?_ 1 _ rfl; (with_reducible repeat (first | refine blk_drewN ?_ _ | refine blk_drew ?_ | refine blk_alloc ?_ _)); refine blk_put (cs := #[.int .i64 t482, .int .i64 t483]) ?_ 0 _ rfl; (with_reducible repeat (first | refine blk_drewN ?_ _ | refine blk_drew ?_ | refine blk_alloc ?_ _)); exact BK485.out⟩
                              have n5_ : Aside0 (Below w.heap.size w ((w150.setCell ⟨gb485, 0, none⟩ (.int .i64 t490)).setCell ⟨gb485, 1, none⟩ (.int .i64 t491))) := ⟨by repeat (first | (with_reducible first | exact HB.out | apply below_alloc | apply pw_below_drewN | apply below_drew1 | refine below_set ?_ GE466.out | refine below_set ?_ GE467.out | refine below_set ?_ GE468.out | refine below_set ?_ GE481.out | refine below_set ?_ GE485.out) | exact HB.out)⟩
                              (try clear BK466)
                              (try clear BK467)
                              (try clear BK468)
                              (try clear BK481)
                              (try clear BK485)
                              (try clear HB)
                              generalize ((w150.setCell ⟨gb485, 0, none⟩ (.int .i64 t490)).setCell ⟨gb485, 1, none⟩ (.int .i64 t491)) = w152 at n0_ n1_ n2_ n3_ n4_ n5_ ⊢
                              have BK466 := n0_
                              have BK467 := n1_
                              have BK468 := n2_
                              have BK481 := n3_
                              have BK485 := n4_
                              have HB := n5_
                              clear n0_ n1_ n2_ n3_ n4_ n5_
                              have n0_ := Aside0.mk (blk_drew BK466.out)
                              have n1_ := Aside0.mk (blk_drew BK467.out)
                              have n2_ := Aside0.mk (blk_drew BK468.out)
                              have n3_ := Aside0.mk (blk_drew BK481.out)
                              have n4_ := Aside0.mk (blk_drew BK485.out)
                              have n5_ := Aside0.mk (below_drew1 HB.out)
                              clear BK466
                              clear BK467
                              clear BK468
                              clear BK481
                              clear BK485
                              clear HB
                              have BK466 := n0_
                              have BK467 := n1_
                              have BK468 := n2_
                              have BK481 := n3_
                              have BK485 := n4_
                              have HB := n5_
                              clear n0_ n1_ n2_ n3_ n4_ n5_
                              refine start_ (n := 4) (S := fun w' => w'.cell? ⟨gb468, 0, none⟩ = some (.int .i64 a2_0) ∧ w'.cell? ⟨gb468, 1, none⟩ = some (.int .i64 a2_1)) (ds := []) #[false, false, false, false] (by kernel_rfl) rfl rfl ⟨(blk_cell BK468.out 0).trans rfl, (blk_cell BK468.out 1).trans rfl⟩ (fun hHeld => ?_)
                              generalize w152.drew = w153 at BK466 BK467 BK468 BK481 BK485 HB hHeld ⊢
                              refine take_ (i := 0) (N := some 105) (v := ?_) (a' := ?_) #[true, false, false, false] rfl rfl (by kernel_rfl) (fun _ _ _ h => h) (Or.inl ⟨by rfl, ?_⟩) hHeld ?_ ?_
                              rotate_left
                              · rintro w' ⟨s0, s1⟩
                                go_simp
                                with_reducible rfl
                              rotate_left
                              · simp only [Act.put, List.setIfInBounds_toArray, List.set_cons_zero, List.set_cons_succ, i64_w, i32_w]
                                rfl
                              refine one_ (i := 1) (N := some 106) #[true, true, false, false] rfl rfl (by kernel_rfl) (by decide) (fun K hK => ?_)
                              refine goes_ Tryd.func32 (by kernel_rfl) rfl #[] (by rfl) rfl rfl (by (try simp only [List.map_toArray, List.map_cons, List.map_nil]); first | done | rfl | (simp only [List.length_drop, List.length_take]; rfl)) ?_
                              with_reducible refine (whittlelaw1_zero.calls  t493 t494 _ A129.out).mono ?_
                              rintro e w154 ⟨rfl, hb⟩
                              refine ⟨_, rfl, ?_⟩
                              have n0_ := Aside0.mk (blk_below (g := gb466) (o := .cells #[.int .i64 a0_0, .int .i64 a0_1] 23 (0, 0)) (by (with_reducible repeat (first | refine blk_drewN ?_ _ | refine blk_drew ?_ | refine blk_alloc ?_ _)); exact BK466.out) hb)
                              have n1_ := Aside0.mk (blk_below (g := gb467) (o := .cells #[.int .i64 a1_0, .int .i64 a1_1] 23 (0, 0)) (by (with_reducible repeat (first | refine blk_drewN ?_ _ | refine blk_drew ?_ | refine blk_alloc ?_ _)); exact BK467.out) hb)
                              have n2_ := Aside0.mk (blk_below (g := gb468) (o := .cells #[.int .i64 a2_0, .int .i64 a2_1] 23 (0, 0)) (by (with_reducible repeat (first | refine blk_drewN ?_ _ | refine blk_drew ?_ | refine blk_alloc ?_ _)); exact BK468.out) hb)
                              have n3_ := Aside0.mk (blk_below (g := gb481) (o := .cells #[.int .i64 t487, .int .i64 t488] 23 (0, 0)) (by (with_reducible repeat (first | refine blk_drewN ?_ _ | refine blk_drew ?_ | refine blk_alloc ?_ _)); exact BK481.out) hb)
                              have n4_ := Aside0.mk (blk_below (g := gb485) (o := .cells #[.int .i64 t490, .int .i64 t491] 23 (0, 0)) (by (with_reducible repeat (first | refine blk_drewN ?_ _ | refine blk_drew ?_ | refine blk_alloc ?_ _)); exact BK485.out) hb)
                              have n5_ := Aside0.mk (below_step (by repeat (first | (with_reducible first | exact HB.out | apply below_alloc | apply pw_below_drewN | apply below_drew1 | refine below_set ?_ GE466.out | refine below_set ?_ GE467.out | refine below_set ?_ GE468.out | refine below_set ?_ GE481.out | refine below_set ?_ GE485.out) | exact HB.out)) hb)
                              clear BK466
                              clear BK467
                              clear BK468
                              clear BK481
                              clear BK485
                              clear HB
                              have BK466 := n0_
                              have BK467 := n1_
                              have BK468 := n2_
                              have BK481 := n3_
                              have BK485 := n4_
                              have HB := n5_
                              clear n0_ n1_ n2_ n3_ n4_ n5_
                              (try clear hb)
                              (try clear hb2)
                              (try clear hk)
                              (try clear hi)
                              refine hK.out _ _ ⟨(blk_cell BK468.out 0).trans rfl, (blk_cell BK468.out 1).trans rfl⟩ (fun hHeld => ?_)
                              clear hK K
                              refine norm_ (a' := ?_) ?_ ?_
                              rotate_left
                              · show Act.put _ (some 106) _ = _
                                simp only [Act.put, List.setIfInBounds_toArray, List.set_cons_zero, List.set_cons_succ, i64_w, i32_w]
                                rfl
                              refine one_ (i := 2) (N := some 107) #[true, true, true, false] rfl rfl (by kernel_rfl) (by decide) (fun K hK => ?_)
                              refine goes_ Tryd.func25 (by kernel_rfl) rfl #[.agg #[.int .i64 a2_0, .int .i64 a2_1], .agg #[.int .i64 t493, .int .i64 t494]] (by rfl) rfl rfl (by (try simp only [List.map_toArray, List.map_cons, List.map_nil]); first | done | rfl | (simp only [List.length_drop, List.length_take]; rfl)) ?_
                              with_reducible refine (num_Cmp.calls kj91 a2_0 a2_1 t493 t494 t495 _ A130.out).mono ?_
                              rintro e w155 ⟨rfl, hb⟩
                              refine ⟨_, rfl, ?_⟩
                              have n0_ := Aside0.mk (blk_below (g := gb466) (o := .cells #[.int .i64 a0_0, .int .i64 a0_1] 23 (0, 0)) (by (with_reducible repeat (first | refine blk_drewN ?_ _ | refine blk_drew ?_ | refine blk_alloc ?_ _)); exact BK466.out) hb)
                              have n1_ := Aside0.mk (blk_below (g := gb467) (o := .cells #[.int .i64 a1_0, .int .i64 a1_1] 23 (0, 0)) (by (with_reducible repeat (first | refine blk_drewN ?_ _ | refine blk_drew ?_ | refine blk_alloc ?_ _)); exact BK467.out) hb)
                              have n2_ := Aside0.mk (blk_below (g := gb468) (o := .cells #[.int .i64 a2_0, .int .i64 a2_1] 23 (0, 0)) (by (with_reducible repeat (first | refine blk_drewN ?_ _ | refine blk_drew ?_ | refine blk_alloc ?_ _)); exact BK468.out) hb)
                              have n3_ := Aside0.mk (blk_below (g := gb481) (o := .cells #[.int .i64 t487, .int .i64 t488] 23 (0, 0)) (by (with_reducible repeat (first | refine blk_drewN ?_ _ | refine blk_drew ?_ | refine blk_alloc ?_ _)); exact BK481.out) hb)
                              have n4_ := Aside0.mk (blk_below (g := gb485) (o := .cells #[.int .i64 t490, .int .i64 t491] 23 (0, 0)) (by (with_reducible repeat (first | refine blk_drewN ?_ _ | refine blk_drew ?_ | refine blk_alloc ?_ _)); exact BK485.out) hb)
                              have n5_ := Aside0.mk (below_step (by repeat (first | (with_reducible first | exact HB.out | apply below_alloc | apply pw_below_drewN | apply below_drew1 | refine below_set ?_ GE466.out | refine below_set ?_ GE467.out | refine below_set ?_ GE468.out | refine below_set ?_ GE481.out | refine below_set ?_ GE485.out) | exact HB.out)) hb)
                              clear BK466
                              clear BK467
                              clear BK468
                              clear BK481
                              clear BK485
                              clear HB
                              have BK466 := n0_
                              have BK467 := n1_
                              have BK468 := n2_
                              have BK481 := n3_
                              have BK485 := n4_
                              have HB := n5_
                              clear n0_ n1_ n2_ n3_ n4_ n5_
                              (try clear hb)
                              (try clear hb2)
                              (try clear hk)
                              (try clear hi)
                              refine hK.out _ _ ⟨(blk_cell BK468.out 0).trans rfl, (blk_cell BK468.out 1).trans rfl⟩ (fun hHeld => ?_)
                              clear hK K
                              refine norm_ (a' := ?_) ?_ ?_
                              rotate_left
                              · show Act.put _ (some 107) _ = _
                                simp only [Act.put, List.setIfInBounds_toArray, List.set_cons_zero, List.set_cons_succ, i64_w, i32_w]
                                rfl
                              refine pure_ (i := 3) (N := some 12) (v := ?_) (a' := ?_) #[true, true, true, true] rfl rfl (by kernel_rfl) (fun _ _ _ h => h) (Or.inl ⟨by rfl, ?_⟩) ?_ ?_
                              rotate_left
                              · intro w'
                                go_simp
                                with_reducible rfl
                              rotate_left
                              · simp only [Act.put, List.setIfInBounds_toArray, List.set_cons_zero, List.set_cons_succ, i64_w, i32_w]
                                rfl
                              refine done_ (by kernel_rfl) ?_
                              have hcz156_0 : w155.cell? ⟨gb481, 0, none⟩ = some (.int .i64 t487) := (blk_cell BK481.out 0).trans rfl
                              have hcz156_1 : w155.cell? ⟨gb481, 1, none⟩ = some (.int .i64 t488) := (blk_cell BK481.out 1).trans rfl
                              have hfz156_0 := blk_frozen BK481.out 0
                              have hfz156_1 := blk_frozen BK481.out 1
                              have hcz157_0 : w155.cell? ⟨gb485, 0, none⟩ = some (.int .i64 t490) := (blk_cell BK485.out 0).trans rfl
                              have hcz157_1 : w155.cell? ⟨gb485, 1, none⟩ = some (.int .i64 t491) := (blk_cell BK485.out 1).trans rfl
                              have hfz157_0 := blk_frozen BK485.out 0
                              have hfz157_1 := blk_frozen BK485.out 1
                              try go_wp2_with (first | (go_at_call 25; (with_reducible refine (num_Cmp.calls kj91 t487 t488 t490 t491 t496 _ A133.out).mono ?_); rintro e w158 ⟨rfl, hb⟩; have n0_ := Aside0.mk (blk_below (g := gb466) (o := .cells #[.int .i64 a0_0, .int .i64 a0_1] 23 (0, 0)) (by (with_reducible repeat (first | refine blk_drewN ?_ _ | refine blk_drew ?_ | refine blk_alloc ?_ _)); exact BK466.out) hb); have n1_ := Aside0.mk (blk_below (g := gb467) (o := .cells #[.int .i64 a1_0, .int .i64 a1_1] 23 (0, 0)) (by (with_reducible repeat (first | refine blk_drewN ?_ _ | refine blk_drew ?_ | refine blk_alloc ?_ _)); exact BK467.out) hb); have n2_ := Aside0.mk (blk_below (g := gb468) (o := .cells #[.int .i64 a2_0, .int .i64 a2_1] 23 (0, 0)) (by (with_reducible repeat (first | refine blk_drewN ?_ _ | refine blk_drew ?_ | refine blk_alloc ?_ _)); exact BK468.out) hb); have n3_ := Aside0.mk (blk_below (g := gb481) (o := .cells #[.int .i64 t487, .int .i64 t488] 23 (0, 0)) (by (with_reducible repeat (first | refine blk_drewN ?_ _ | refine blk_drew ?_ | refine blk_alloc ?_ _)); exact BK481.out) hb); have n4_ := Aside0.mk (blk_below (g := gb485) (o := .cells #[.int .i64 t490, .int .i64 t491] 23 (0, 0)) (by (with_reducible repeat (first | refine blk_drewN ?_ _ | refine blk_drew ?_ | refine blk_alloc ?_ _)); exact BK485.out) hb); have n5_ := Aside0.mk (below_step (by repeat (first | (with_reducible first | exact HB.out | apply below_alloc | apply pw_below_drewN | apply below_drew1 | refine below_set ?_ GE466.out | refine below_set ?_ GE467.out | refine below_set ?_ GE468.out | refine below_set ?_ GE481.out | refine below_set ?_ GE485.out) | exact HB.out)) hb); clear BK466; clear BK467; clear BK468; clear BK481; clear BK485; clear HB; have BK466 := n0_; have BK467 := n1_; have BK468 := n2_; have BK481 := n3_; have BK485 := n4_; have HB := n5_; clear n0_ n1_ n2_ n3_ n4_ n5_; (try clear hb); (try clear hb2); (try clear hk); (try clear hi)))
                              go_ret
                              exact ⟨by first | rfl | (simp [errW_none, errW_some] <;> rfl) | (simp [*, errW_none, errW_some] <;> rfl), by repeat (first | (with_reducible first | exact HB.out | apply below_alloc | apply pw_below_drewN | apply below_drew1 | refine below_set ?_ GE466.out | refine below_set ?_ GE467.out | refine below_set ?_ GE468.out | refine below_set ?_ GE481.out | refine below_set ?_ GE485.out) | exact HB.out)⟩
                            · replace c132 := Bool.eq_false_iff.mpr c132
                              subst c132
                              have H1 : (some true) = some r := by rw [if_neg (show ¬ (false = true) by decide)] at H; exact H
                              clear H
                              have H := H1
                              clear H1
                              clear HR
                              obtain rfl := Option.some.inj H
                              have hnb159 := NB466_467.out
                              have hnc159 := NB467_466.out
                              have hnb160 := NB466_468.out
                              have hnc160 := NB468_466.out
                              have hnb161 := NB466_481.out
                              have hnc161 := NB481_466.out
                              have hnb162 := NB466_485.out
                              have hnc162 := NB485_466.out
                              have hcz163_0 : wc.cell? ⟨gb466, 0, none⟩ = some (.int .i64 a0_0) := (blk_cell BK466.out 0).trans rfl
                              have hcz163_1 : wc.cell? ⟨gb466, 1, none⟩ = some (.int .i64 a0_1) := (blk_cell BK466.out 1).trans rfl
                              have hfz163_0 := blk_frozen BK466.out 0
                              have hfz163_1 := blk_frozen BK466.out 1
                              have hnb164 := NB468_467.out
                              have hnc164 := NB467_468.out
                              have hnb165 := NB468_481.out
                              have hnc165 := NB481_468.out
                              have hnb166 := NB468_485.out
                              have hnc166 := NB485_468.out
                              have hcz167_0 : wc.cell? ⟨gb468, 0, none⟩ = some (.int .i64 a2_0) := (blk_cell BK468.out 0).trans rfl
                              have hcz167_1 : wc.cell? ⟨gb468, 1, none⟩ = some (.int .i64 a2_1) := (blk_cell BK468.out 1).trans rfl
                              have hfz167_0 := blk_frozen BK468.out 0
                              have hfz167_1 := blk_frozen BK468.out 1
                              try go_wp2_with (first | ((with_reducible refine gate_callee (f := 39) rfl ?_); refine goesL_ (some 96) rfl rfl Tryd.func39 (by kernel_rfl) rfl #[.agg #[.int .i64 a0_0, .int .i64 a0_1], .agg #[.int .i64 a2_0, .int .i64 a2_1]] rfl (by (try simp only [List.map_toArray, List.map_cons, List.map_nil]); first | done | rfl | (simp only [List.length_drop, List.length_take]; rfl)) ?_; (with_reducible refine (num_Mul.calls kj91 a0_0 a0_1 a2_0 a2_1 t487 t488 true _ A127.out).mono ?_); rintro e w168 ⟨rfl, hb⟩; refine ⟨_, rfl, ?_⟩; have n0_ := Aside0.mk (blk_below (g := gb466) (o := .cells #[.int .i64 a0_0, .int .i64 a0_1] 23 (0, 0)) (by (with_reducible repeat (first | refine blk_drewN ?_ _ | refine blk_drew ?_ | refine blk_alloc ?_ _)); exact BK466.out) hb); have n1_ := Aside0.mk (blk_below (g := gb467) (o := .cells #[.int .i64 a1_0, .int .i64 a1_1] 23 (0, 0)) (by (with_reducible repeat (first | refine blk_drewN ?_ _ | refine blk_drew ?_ | refine blk_alloc ?_ _)); exact BK467.out) hb); have n2_ := Aside0.mk (blk_below (g := gb468) (o := .cells #[.int .i64 a2_0, .int .i64 a2_1] 23 (0, 0)) (by (with_reducible repeat (first | refine blk_drewN ?_ _ | refine blk_drew ?_ | refine blk_alloc ?_ _)); exact BK468.out) hb); have n3_ := Aside0.mk (blk_below (g := gb481) (o := .cells #[.int .i64 t478, .int .i64 t479] 23 (0, 0)) (by (with_reducible repeat (first | refine blk_drewN ?_ _ | refine blk_drew ?_ | refine blk_alloc ?_ _)); exact BK481.out) hb); have n4_ := Aside0.mk (blk_below (g := gb485) (o := .cells #[.int .i64 t482, .int .i64 t483] 23 (0, 0)) (by (with_reducible repeat (first | refine blk_drewN ?_ _ | refine blk_drew ?_ | refine blk_alloc ?_ _)); exact BK485.out) hb); have n5_ := Aside0.mk (below_step (by repeat (first | (with_reducible first | exact HB.out | apply below_alloc | apply pw_below_drewN | apply below_drew1 | refine below_set ?_ GE466.out | refine below_set ?_ GE467.out | refine below_set ?_ GE468.out | refine below_set ?_ GE481.out | refine below_set ?_ GE485.out) | exact HB.out)) hb); clear BK466; clear BK467; clear BK468; clear BK481; clear BK485; clear HB; have BK466 := n0_; have BK467 := n1_; have BK468 := n2_; have BK481 := n3_; have BK485 := n4_; have HB := n5_; clear n0_ n1_ n2_ n3_ n4_ n5_; (try clear hb); (try clear hb2); (try clear hk); (try clear hi); have hnb169 := NB481_467.out; have hnc169 := NB467_481.out; have hnb170 := NB481_485.out; have hnc170 := NB485_481.out; have hcz171_0 : w168.cell? ⟨gb481, 0, none⟩ = some (.int .i64 t478) := (blk_cell BK481.out 0).trans rfl; have hcz171_1 : w168.cell? ⟨gb481, 1, none⟩ = some (.int .i64 t479) := (blk_cell BK481.out 1).trans rfl; have hfz171_0 := blk_frozen BK481.out 0; have hfz171_1 := blk_frozen BK481.out 1; have hnb172 := NB467_485.out; have hnc172 := NB485_467.out; have hcz173_0 : w168.cell? ⟨gb467, 0, none⟩ = some (.int .i64 a1_0) := (blk_cell BK467.out 0).trans rfl; have hcz173_1 : w168.cell? ⟨gb467, 1, none⟩ = some (.int .i64 a1_1) := (blk_cell BK467.out 1).trans rfl; have hfz173_0 := blk_frozen BK467.out 0; have hfz173_1 := blk_frozen BK467.out 1; have hcz174_0 : w168.cell? ⟨gb468, 0, none⟩ = some (.int .i64 a2_0) := (blk_cell BK468.out 0).trans rfl; have hcz174_1 : w168.cell? ⟨gb468, 1, none⟩ = some (.int .i64 a2_1) := (blk_cell BK468.out 1).trans rfl; have hfz174_0 := blk_frozen BK468.out 0; have hfz174_1 := blk_frozen BK468.out 1) | ((with_reducible refine gate_callee (f := 39) rfl ?_); refine goesL_ (some 102) rfl rfl Tryd.func39 (by kernel_rfl) rfl #[.agg #[.int .i64 a1_0, .int .i64 a1_1], .agg #[.int .i64 a2_0, .int .i64 a2_1]] rfl (by (try simp only [List.map_toArray, List.map_cons, List.map_nil]); first | done | rfl | (simp only [List.length_drop, List.length_take]; rfl)) ?_; (with_reducible refine (num_Mul.calls kj91 a1_0 a1_1 a2_0 a2_1 t490 t491 false _ A128.out).mono ?_); rintro e w175 ⟨rfl, hb⟩; refine ⟨_, rfl, ?_⟩; have n0_ := Aside0.mk (blk_below (g := gb466) (o := .cells #[.int .i64 a0_0, .int .i64 a0_1] 23 (0, 0)) (by (with_reducible repeat (first | refine blk_drewN ?_ _ | refine blk_drew ?_ | refine blk_alloc ?_ _)); refine blk_far ?_ NB466_481.out _; (with_reducible repeat (first | refine blk_drewN ?_ _ | refine blk_drew ?_ | refine blk_alloc ?_ _)); refine blk_far ?_ NB466_481.out _; (with_reducible repeat (first | refine blk_drewN ?_ _ | refine blk_drew ?_ | refine blk_alloc ?_ _)); exact BK466.out) hb); have n1_ := Aside0.mk (blk_below (g := gb467) (o := .cells #[.int .i64 a1_0, .int .i64 a1_1] 23 (0, 0)) (by (with_reducible repeat (first | refine blk_drewN ?_ _ | refine blk_drew ?_ | refine blk_alloc ?_ _)); refine blk_far ?_ NB467_481.out _; (with_reducible repeat (first | refine blk_drewN ?_ _ | refine blk_drew ?_ | refine blk_alloc ?_ _)); refine blk_far ?_ NB467_481.out _; (with_reducible repeat (first | refine blk_drewN ?_ _ | refine blk_drew ?_ | refine blk_alloc ?_ _)); exact BK467.out) hb); have n2_ := Aside0.mk (blk_below (g := gb468) (o := .cells #[.int .i64 a2_0, .int .i64 a2_1] 23 (0, 0)) (by (with_reducible repeat (first | refine blk_drewN ?_ _ | refine blk_drew ?_ | refine blk_alloc ?_ _)); refine blk_far ?_ NB468_481.out _; (with_reducible repeat (first | refine blk_drewN ?_ _ | refine blk_drew ?_ | refine blk_alloc ?_ _)); refine blk_far ?_ NB468_481.out _; (with_reducible repeat (first | refine blk_drewN ?_ _ | refine blk_drew ?_ | refine blk_alloc ?_ _)); exact BK468.out) hb); have n3_ := Aside0.mk (blk_below (g := gb481) (o := .cells #[.int .i64 t487, .int .i64 t488] 23 (0, 0)) (by (with_reducible repeat (first | refine blk_drewN ?_ _ | refine blk_drew ?_ | refine blk_alloc ?_ _)); refine blk_put (cs := #[.int .i64 t487, .int .i64 t479]) ?_ 1 _ rfl; (with_reducible repeat (first | refine blk_drewN ?_ _ | refine blk_drew ?_ | refine blk_alloc ?_ _)); refine blk_put (cs := #[.int .i64 t478, .int .i64 t479]) ?_ 0 _ rfl; (with_reducible repeat (first | refine blk_drewN ?_ _ | refine blk_drew ?_ | refine blk_alloc ?_ _)); exact BK481.out) hb); have n4_ := Aside0.mk (blk_below (g := gb485) (o := .cells #[.int .i64 t482, .int .i64 t483] 23 (0, 0)) (by (with_reducible repeat (first | refine blk_drewN ?_ _ | refine blk_drew ?_ | refine blk_alloc ?_ _)); refine blk_far ?_ NB485_481.out _; (with_reducible repeat (first | refine blk_drewN ?_ _ | refine blk_drew ?_ | refine blk_alloc ?_ _)); refine blk_far ?_ NB485_481.out _; (with_reducible repeat (first | refine blk_drewN ?_ _ | refine blk_drew ?_ | refine blk_alloc ?_ _)); exact BK485.out) hb); have n5_ := Aside0.mk (below_step (by repeat (first | (with_reducible first | exact HB.out | apply below_alloc | apply pw_below_drewN | apply below_drew1 | refine below_set ?_ GE466.out | refine below_set ?_ GE467.out | refine below_set ?_ GE468.out | refine below_set ?_ GE481.out | refine below_set ?_ GE485.out) | exact HB.out)) hb); clear BK466; clear BK467; clear BK468; clear BK481; clear BK485; clear HB; have BK466 := n0_; have BK467 := n1_; have BK468 := n2_; have BK481 := n3_; have BK485 := n4_; have HB := n5_; clear n0_ n1_ n2_ n3_ n4_ n5_; (try clear hb); (try clear hb2); (try clear hk); (try clear hi); have hcz176_0 : w175.cell? ⟨gb485, 0, none⟩ = some (.int .i64 t482) := (blk_cell BK485.out 0).trans rfl; have hcz176_1 : w175.cell? ⟨gb485, 1, none⟩ = some (.int .i64 t483) := (blk_cell BK485.out 1).trans rfl; have hfz176_0 := blk_frozen BK485.out 0; have hfz176_1 := blk_frozen BK485.out 1))
                              have n0_ : Aside0 (((w175.setCell ⟨gb485, 0, none⟩ (.int .i64 t490)).setCell ⟨gb485, 1, none⟩ (.int .i64 t491)).heap[gb466]? = some (.cells #[.int .i64 a0_0, .int .i64 a0_1] 23 (0, 0))) := ⟨by (with_reducible repeat (first | refine blk_drewN ?_ _ | refine blk_drew ?_ | refine blk_alloc ?_ _)); refine blk_far ?_ NB466_485.out _; (with_reducible repeat (first | refine blk_drewN ?_ _ | refine blk_drew ?_ | refine blk_alloc ?_ _)); refine blk_far ?_ NB466_485.out _; (with_reducible repeat (first | refine blk_drewN ?_ _ | refine blk_drew ?_ | refine blk_alloc ?_ _)); exact BK466.out⟩
                              have n1_ : Aside0 (((w175.setCell ⟨gb485, 0, none⟩ (.int .i64 t490)).setCell ⟨gb485, 1, none⟩ (.int .i64 t491)).heap[gb467]? = some (.cells #[.int .i64 a1_0, .int .i64 a1_1] 23 (0, 0))) := ⟨by (with_reducible repeat (first | refine blk_drewN ?_ _ | refine blk_drew ?_ | refine blk_alloc ?_ _)); refine blk_far ?_ NB467_485.out _; (with_reducible repeat (first | refine blk_drewN ?_ _ | refine blk_drew ?_ | refine blk_alloc ?_ _)); refine blk_far ?_ NB467_485.out _; (with_reducible repeat (first | refine blk_drewN ?_ _ | refine blk_drew ?_ | refine blk_alloc ?_ _)); exact BK467.out⟩
                              have n2_ : Aside0 (((w175.setCell ⟨gb485, 0, none⟩ (.int .i64 t490)).setCell ⟨gb485, 1, none⟩ (.int .i64 t491)).heap[gb468]? = some (.cells #[.int .i64 a2_0, .int .i64 a2_1] 23 (0, 0))) := ⟨by (with_reducible repeat (first | refine blk_drewN ?_ _ | refine blk_drew ?_ | refine blk_alloc ?_ _)); refine blk_far ?_ NB468_485.out _; (with_reducible repeat (first | refine blk_drewN ?_ _ | refine blk_drew ?_ | refine blk_alloc ?_ _)); refine blk_far ?_ NB468_485.out _; (with_reducible repeat (first | refine blk_drewN ?_ _ | refine blk_drew ?_ | refine blk_alloc ?_ _)); exact BK468.out⟩
                              have n3_ : Aside0 (((w175.setCell ⟨gb485, 0, none⟩ (.int .i64 t490)).setCell ⟨gb485, 1, none⟩ (.int .i64 t491)).heap[gb481]? = some (.cells #[.int .i64 t487, .int .i64 t488] 23 (0, 0))) := ⟨by (with_reducible repeat (first | refine blk_drewN ?_ _ | refine blk_drew ?_ | refine blk_alloc ?_ _)); refine blk_far ?_ NB481_485.out _; (with_reducible repeat (first | refine blk_drewN ?_ _ | refine blk_drew ?_ | refine blk_alloc ?_ _)); refine blk_far ?_ NB481_485.out _; (with_reducible repeat (first | refine blk_drewN ?_ _ | refine blk_drew ?_ | refine blk_alloc ?_ _)); exact BK481.out⟩
                              have n4_ : Aside0 (((w175.setCell ⟨gb485, 0, none⟩ (.int .i64 t490)).setCell ⟨gb485, 1, none⟩ (.int .i64 t491)).heap[gb485]? = some (.cells #[.int .i64 t490, .int .i64 t491] 23 (0, 0))) := ⟨by (with_reducible repeat (first | refine blk_drewN ?_ _ | refine blk_drew ?_ | refine blk_alloc ?_ _)); refine blk_put (cs := #[.int .i64 t490, .int .i64 t483]) ?_ 1 _ rfl; (with_reducible repeat (first | refine blk_drewN ?_ _ | refine blk_drew ?_ | refine blk_alloc ?_ _)); refine blk_put (cs := #[.int .i64 t482, .int .i64 t483]) ?_ 0 _ rfl; (with_reducible repeat (first | refine blk_drewN ?_ _ | refine blk_drew ?_ | refine blk_alloc ?_ _)); exact BK485.out⟩
                              have n5_ : Aside0 (Below w.heap.size w ((w175.setCell ⟨gb485, 0, none⟩ (.int .i64 t490)).setCell ⟨gb485, 1, none⟩ (.int .i64 t491))) := ⟨by repeat (first | (with_reducible first | exact HB.out | apply below_alloc | apply pw_below_drewN | apply below_drew1 | refine below_set ?_ GE466.out | refine below_set ?_ GE467.out | refine below_set ?_ GE468.out | refine below_set ?_ GE481.out | refine below_set ?_ GE485.out) | exact HB.out)⟩
                              (try clear BK466)
                              (try clear BK467)
                              (try clear BK468)
                              (try clear BK481)
                              (try clear BK485)
                              (try clear HB)
                              generalize ((w175.setCell ⟨gb485, 0, none⟩ (.int .i64 t490)).setCell ⟨gb485, 1, none⟩ (.int .i64 t491)) = w177 at n0_ n1_ n2_ n3_ n4_ n5_ ⊢
                              have BK466 := n0_
                              have BK467 := n1_
                              have BK468 := n2_
                              have BK481 := n3_
                              have BK485 := n4_
                              have HB := n5_
                              clear n0_ n1_ n2_ n3_ n4_ n5_
                              have n0_ := Aside0.mk (blk_drew BK466.out)
                              have n1_ := Aside0.mk (blk_drew BK467.out)
                              have n2_ := Aside0.mk (blk_drew BK468.out)
                              have n3_ := Aside0.mk (blk_drew BK481.out)
                              have n4_ := Aside0.mk (blk_drew BK485.out)
                              have n5_ := Aside0.mk (below_drew1 HB.out)
                              clear BK466
                              clear BK467
                              clear BK468
                              clear BK481
                              clear BK485
                              clear HB
                              have BK466 := n0_
                              have BK467 := n1_
                              have BK468 := n2_
                              have BK481 := n3_
                              have BK485 := n4_
                              have HB := n5_
                              clear n0_ n1_ n2_ n3_ n4_ n5_
                              refine start_ (n := 4) (S := fun w' => w'.cell? ⟨gb468, 0, none⟩ = some (.int .i64 a2_0) ∧ w'.cell? ⟨gb468, 1, none⟩ = some (.int .i64 a2_1)) (ds := []) #[false, false, false, false] (by kernel_rfl) rfl rfl ⟨(blk_cell BK468.out 0).trans rfl, (blk_cell BK468.out 1).trans rfl⟩ (fun hHeld => ?_)
                              generalize w177.drew = w178 at BK466 BK467 BK468 BK481 BK485 HB hHeld ⊢
                              refine take_ (i := 0) (N := some 105) (v := ?_) (a' := ?_) #[true, false, false, false] rfl rfl (by kernel_rfl) (fun _ _ _ h => h) (Or.inl ⟨by rfl, ?_⟩) hHeld ?_ ?_
                              rotate_left
                              · rintro w' ⟨s0, s1⟩
                                go_simp
                                with_reducible rfl
                              rotate_left
                              · simp only [Act.put, List.setIfInBounds_toArray, List.set_cons_zero, List.set_cons_succ, i64_w, i32_w]
                                rfl
                              refine one_ (i := 1) (N := some 106) #[true, true, false, false] rfl rfl (by kernel_rfl) (by decide) (fun K hK => ?_)
                              refine goes_ Tryd.func32 (by kernel_rfl) rfl #[] (by rfl) rfl rfl (by (try simp only [List.map_toArray, List.map_cons, List.map_nil]); first | done | rfl | (simp only [List.length_drop, List.length_take]; rfl)) ?_
                              with_reducible refine (whittlelaw1_zero.calls  t493 t494 _ A129.out).mono ?_
                              rintro e w179 ⟨rfl, hb⟩
                              refine ⟨_, rfl, ?_⟩
                              have n0_ := Aside0.mk (blk_below (g := gb466) (o := .cells #[.int .i64 a0_0, .int .i64 a0_1] 23 (0, 0)) (by (with_reducible repeat (first | refine blk_drewN ?_ _ | refine blk_drew ?_ | refine blk_alloc ?_ _)); exact BK466.out) hb)
                              have n1_ := Aside0.mk (blk_below (g := gb467) (o := .cells #[.int .i64 a1_0, .int .i64 a1_1] 23 (0, 0)) (by (with_reducible repeat (first | refine blk_drewN ?_ _ | refine blk_drew ?_ | refine blk_alloc ?_ _)); exact BK467.out) hb)
                              have n2_ := Aside0.mk (blk_below (g := gb468) (o := .cells #[.int .i64 a2_0, .int .i64 a2_1] 23 (0, 0)) (by (with_reducible repeat (first | refine blk_drewN ?_ _ | refine blk_drew ?_ | refine blk_alloc ?_ _)); exact BK468.out) hb)
                              have n3_ := Aside0.mk (blk_below (g := gb481) (o := .cells #[.int .i64 t487, .int .i64 t488] 23 (0, 0)) (by (with_reducible repeat (first | refine blk_drewN ?_ _ | refine blk_drew ?_ | refine blk_alloc ?_ _)); exact BK481.out) hb)
                              have n4_ := Aside0.mk (blk_below (g := gb485) (o := .cells #[.int .i64 t490, .int .i64 t491] 23 (0, 0)) (by (with_reducible repeat (first | refine blk_drewN ?_ _ | refine blk_drew ?_ | refine blk_alloc ?_ _)); exact BK485.out) hb)
                              have n5_ := Aside0.mk (below_step (by repeat (first | (with_reducible first | exact HB.out | apply below_alloc | apply pw_below_drewN | apply below_drew1 | refine below_set ?_ GE466.out | refine below_set ?_ GE467.out | refine below_set ?_ GE468.out | refine below_set ?_ GE481.out | refine below_set ?_ GE485.out) | exact HB.out)) hb)
                              clear BK466
                              clear BK467
                              clear BK468
                              clear BK481
                              clear BK485
                              clear HB
                              have BK466 := n0_
                              have BK467 := n1_
                              have BK468 := n2_
                              have BK481 := n3_
                              have BK485 := n4_
                              have HB := n5_
                              clear n0_ n1_ n2_ n3_ n4_ n5_
                              (try clear hb)
                              (try clear hb2)
                              (try clear hk)
                              (try clear hi)
                              refine hK.out _ _ ⟨(blk_cell BK468.out 0).trans rfl, (blk_cell BK468.out 1).trans rfl⟩ (fun hHeld => ?_)
                              clear hK K
                              refine norm_ (a' := ?_) ?_ ?_
                              rotate_left
                              · show Act.put _ (some 106) _ = _
                                simp only [Act.put, List.setIfInBounds_toArray, List.set_cons_zero, List.set_cons_succ, i64_w, i32_w]
                                rfl
                              refine one_ (i := 2) (N := some 107) #[true, true, true, false] rfl rfl (by kernel_rfl) (by decide) (fun K hK => ?_)
                              refine goes_ Tryd.func25 (by kernel_rfl) rfl #[.agg #[.int .i64 a2_0, .int .i64 a2_1], .agg #[.int .i64 t493, .int .i64 t494]] (by rfl) rfl rfl (by (try simp only [List.map_toArray, List.map_cons, List.map_nil]); first | done | rfl | (simp only [List.length_drop, List.length_take]; rfl)) ?_
                              with_reducible refine (num_Cmp.calls kj91 a2_0 a2_1 t493 t494 t495 _ A130.out).mono ?_
                              rintro e w180 ⟨rfl, hb⟩
                              refine ⟨_, rfl, ?_⟩
                              have n0_ := Aside0.mk (blk_below (g := gb466) (o := .cells #[.int .i64 a0_0, .int .i64 a0_1] 23 (0, 0)) (by (with_reducible repeat (first | refine blk_drewN ?_ _ | refine blk_drew ?_ | refine blk_alloc ?_ _)); exact BK466.out) hb)
                              have n1_ := Aside0.mk (blk_below (g := gb467) (o := .cells #[.int .i64 a1_0, .int .i64 a1_1] 23 (0, 0)) (by (with_reducible repeat (first | refine blk_drewN ?_ _ | refine blk_drew ?_ | refine blk_alloc ?_ _)); exact BK467.out) hb)
                              have n2_ := Aside0.mk (blk_below (g := gb468) (o := .cells #[.int .i64 a2_0, .int .i64 a2_1] 23 (0, 0)) (by (with_reducible repeat (first | refine blk_drewN ?_ _ | refine blk_drew ?_ | refine blk_alloc ?_ _)); exact BK468.out) hb)
                              have n3_ := Aside0.mk (blk_below (g := gb481) (o := .cells #[.int .i64 t487, .int .i64 t488] 23 (0, 0)) (by (with_reducible repeat (first | refine blk_drewN ?_ _ | refine blk_drew ?_ | refine blk_alloc ?_ _)); exact BK481.out) hb)
                              have n4_ := Aside0.mk (blk_below (g := gb485) (o := .cells #[.int .i64 t490, .int .i64 t491] 23 (0, 0)) (by (with_reducible repeat (first | refine blk_drewN ?_ _ | refine blk_drew ?_ | refine blk_alloc ?_ _)); exact BK485.out) hb)
                              have n5_ := Aside0.mk (below_step (by repeat (first | (with_reducible first | exact HB.out | apply below_alloc | apply pw_below_drewN | apply below_drew1 | refine below_set ?_ GE466.out | refine below_set ?_ GE467.out | refine below_set ?_ GE468.out | refine below_set ?_ GE481.out | refine below_set ?_ GE485.out) | exact HB.out)) hb)
                              clear BK466
                              clear BK467
                              clear BK468
                              clear BK481
                              clear BK485
                              clear HB
                              have BK466 := n0_
                              have BK467 := n1_
                              have BK468 := n2_
                              have BK481 := n3_
                              have BK485 := n4_
                              have HB := n5_
                              clear n0_ n1_ n2_ n3_ n4_ n5_
                              (try clear hb)
                              (try clear hb2)
                              (try clear hk)
                              (try clear hi)
                              refine hK.out _ _ ⟨(blk_cell BK468.out 0).trans rfl, (blk_cell BK468.out 1).trans rfl⟩ (fun hHeld => ?_)
                              clear hK K
                              refine norm_ (a' := ?_) ?_ ?_
                              rotate_left
                              · show Act.put _ (some 107) _ = _
                                simp only [Act.put, List.setIfInBounds_toArray, List.set_cons_zero, List.set_cons_succ, i64_w, i32_w]
                                rfl
                              refine pure_ (i := 3) (N := some 12) (v := ?_) (a' := ?_) #[true, true, true, true] rfl rfl (by kernel_rfl) (fun _ _ _ h => h) (Or.inl ⟨by rfl, ?_⟩) ?_ ?_
                              rotate_left
                              · intro w'
                                go_simp
                                with_reducible rfl
                              rotate_left
                              · simp only [Act.put, List.setIfInBounds_toArray, List.set_cons_zero, List.set_cons_succ, i64_w, i32_w]
                                rfl
                              refine done_ (by kernel_rfl) ?_
                              try go_wp2
                              go_ret
                              exact ⟨by first | rfl | (simp [errW_none, errW_some] <;> rfl) | (simp [*, errW_none, errW_some] <;> rfl), by repeat (first | (with_reducible first | exact HB.out | apply below_alloc | apply pw_below_drewN | apply below_drew1 | refine below_set ?_ GE466.out | refine below_set ?_ GE467.out | refine below_set ?_ GE468.out | refine below_set ?_ GE481.out | refine below_set ?_ GE485.out) | exact HB.out)⟩
                          · replace c131 := Bool.eq_false_iff.mpr c131
                            subst c131
                            have H1 : (some true) = some r := by rw [if_neg (show ¬ (false = true) by decide)] at H; exact H
                            clear H
                            have H := H1
                            clear H1
                            clear HR
                            obtain rfl := Option.some.inj H
                            have hnb181 := NB466_467.out
                            have hnc181 := NB467_466.out
                            have hnb182 := NB466_468.out
                            have hnc182 := NB468_466.out
                            have hnb183 := NB466_481.out
                            have hnc183 := NB481_466.out
                            have hnb184 := NB466_485.out
                            have hnc184 := NB485_466.out
                            have hcz185_0 : wc.cell? ⟨gb466, 0, none⟩ = some (.int .i64 a0_0) := (blk_cell BK466.out 0).trans rfl
                            have hcz185_1 : wc.cell? ⟨gb466, 1, none⟩ = some (.int .i64 a0_1) := (blk_cell BK466.out 1).trans rfl
                            have hfz185_0 := blk_frozen BK466.out 0
                            have hfz185_1 := blk_frozen BK466.out 1
                            have hnb186 := NB468_467.out
                            have hnc186 := NB467_468.out
                            have hnb187 := NB468_481.out
                            have hnc187 := NB481_468.out
                            have hnb188 := NB468_485.out
                            have hnc188 := NB485_468.out
                            have hcz189_0 : wc.cell? ⟨gb468, 0, none⟩ = some (.int .i64 a2_0) := (blk_cell BK468.out 0).trans rfl
                            have hcz189_1 : wc.cell? ⟨gb468, 1, none⟩ = some (.int .i64 a2_1) := (blk_cell BK468.out 1).trans rfl
                            have hfz189_0 := blk_frozen BK468.out 0
                            have hfz189_1 := blk_frozen BK468.out 1
                            try go_wp2_with (first | ((with_reducible refine gate_callee (f := 39) rfl ?_); refine goesL_ (some 96) rfl rfl Tryd.func39 (by kernel_rfl) rfl #[.agg #[.int .i64 a0_0, .int .i64 a0_1], .agg #[.int .i64 a2_0, .int .i64 a2_1]] rfl (by (try simp only [List.map_toArray, List.map_cons, List.map_nil]); first | done | rfl | (simp only [List.length_drop, List.length_take]; rfl)) ?_; (with_reducible refine (num_Mul.calls kj91 a0_0 a0_1 a2_0 a2_1 t487 t488 false _ A127.out).mono ?_); rintro e w190 ⟨rfl, hb⟩; refine ⟨_, rfl, ?_⟩; have n0_ := Aside0.mk (blk_below (g := gb466) (o := .cells #[.int .i64 a0_0, .int .i64 a0_1] 23 (0, 0)) (by (with_reducible repeat (first | refine blk_drewN ?_ _ | refine blk_drew ?_ | refine blk_alloc ?_ _)); exact BK466.out) hb); have n1_ := Aside0.mk (blk_below (g := gb467) (o := .cells #[.int .i64 a1_0, .int .i64 a1_1] 23 (0, 0)) (by (with_reducible repeat (first | refine blk_drewN ?_ _ | refine blk_drew ?_ | refine blk_alloc ?_ _)); exact BK467.out) hb); have n2_ := Aside0.mk (blk_below (g := gb468) (o := .cells #[.int .i64 a2_0, .int .i64 a2_1] 23 (0, 0)) (by (with_reducible repeat (first | refine blk_drewN ?_ _ | refine blk_drew ?_ | refine blk_alloc ?_ _)); exact BK468.out) hb); have n3_ := Aside0.mk (blk_below (g := gb481) (o := .cells #[.int .i64 t478, .int .i64 t479] 23 (0, 0)) (by (with_reducible repeat (first | refine blk_drewN ?_ _ | refine blk_drew ?_ | refine blk_alloc ?_ _)); exact BK481.out) hb); have n4_ := Aside0.mk (blk_below (g := gb485) (o := .cells #[.int .i64 t482, .int .i64 t483] 23 (0, 0)) (by (with_reducible repeat (first | refine blk_drewN ?_ _ | refine blk_drew ?_ | refine blk_alloc ?_ _)); exact BK485.out) hb); have n5_ := Aside0.mk (below_step (by repeat (first | (with_reducible first | exact HB.out | apply below_alloc | apply pw_below_drewN | apply below_drew1 | refine below_set ?_ GE466.out | refine below_set ?_ GE467.out | refine below_set ?_ GE468.out | refine below_set ?_ GE481.out | refine below_set ?_ GE485.out) | exact HB.out)) hb); clear BK466; clear BK467; clear BK468; clear BK481; clear BK485; clear HB; have BK466 := n0_; have BK467 := n1_; have BK468 := n2_; have BK481 := n3_; have BK485 := n4_; have HB := n5_; clear n0_ n1_ n2_ n3_ n4_ n5_; (try clear hb); (try clear hb2); (try clear hk); (try clear hi); have hnb191 := NB481_467.out; have hnc191 := NB467_481.out; have hnb192 := NB481_485.out; have hnc192 := NB485_481.out; have hcz193_0 : w190.cell? ⟨gb481, 0, none⟩ = some (.int .i64 t478) := (blk_cell BK481.out 0).trans rfl; have hcz193_1 : w190.cell? ⟨gb481, 1, none⟩ = some (.int .i64 t479) := (blk_cell BK481.out 1).trans rfl; have hfz193_0 := blk_frozen BK481.out 0; have hfz193_1 := blk_frozen BK481.out 1; have hnb194 := NB467_485.out; have hnc194 := NB485_467.out; have hcz195_0 : w190.cell? ⟨gb467, 0, none⟩ = some (.int .i64 a1_0) := (blk_cell BK467.out 0).trans rfl; have hcz195_1 : w190.cell? ⟨gb467, 1, none⟩ = some (.int .i64 a1_1) := (blk_cell BK467.out 1).trans rfl; have hfz195_0 := blk_frozen BK467.out 0; have hfz195_1 := blk_frozen BK467.out 1; have hcz196_0 : w190.cell? ⟨gb468, 0, none⟩ = some (.int .i64 a2_0) := (blk_cell BK468.out 0).trans rfl; have hcz196_1 : w190.cell? ⟨gb468, 1, none⟩ = some (.int .i64 a2_1) := (blk_cell BK468.out 1).trans rfl; have hfz196_0 := blk_frozen BK468.out 0; have hfz196_1 := blk_frozen BK468.out 1) | ((with_reducible refine gate_callee (f := 39) rfl ?_); refine goesL_ (some 102) rfl rfl Tryd.func39 (by kernel_rfl) rfl #[.agg #[.int .i64 a1_0, .int .i64 a1_1], .agg #[.int .i64 a2_0, .int .i64 a2_1]] rfl (by (try simp only [List.map_toArray, List.map_cons, List.map_nil]); first | done | rfl | (simp only [List.length_drop, List.length_take]; rfl)) ?_; (with_reducible refine (num_Mul.calls kj91 a1_0 a1_1 a2_0 a2_1 t490 t491 t492 _ A128.out).mono ?_); rintro e w197 ⟨rfl, hb⟩; refine ⟨_, rfl, ?_⟩; have n0_ := Aside0.mk (blk_below (g := gb466) (o := .cells #[.int .i64 a0_0, .int .i64 a0_1] 23 (0, 0)) (by (with_reducible repeat (first | refine blk_drewN ?_ _ | refine blk_drew ?_ | refine blk_alloc ?_ _)); refine blk_far ?_ NB466_481.out _; (with_reducible repeat (first | refine blk_drewN ?_ _ | refine blk_drew ?_ | refine blk_alloc ?_ _)); refine blk_far ?_ NB466_481.out _; (with_reducible repeat (first | refine blk_drewN ?_ _ | refine blk_drew ?_ | refine blk_alloc ?_ _)); exact BK466.out) hb); have n1_ := Aside0.mk (blk_below (g := gb467) (o := .cells #[.int .i64 a1_0, .int .i64 a1_1] 23 (0, 0)) (by (with_reducible repeat (first | refine blk_drewN ?_ _ | refine blk_drew ?_ | refine blk_alloc ?_ _)); refine blk_far ?_ NB467_481.out _; (with_reducible repeat (first | refine blk_drewN ?_ _ | refine blk_drew ?_ | refine blk_alloc ?_ _)); refine blk_far ?_ NB467_481.out _; (with_reducible repeat (first | refine blk_drewN ?_ _ | refine blk_drew ?_ | refine blk_alloc ?_ _)); exact BK467.out) hb); have n2_ := Aside0.mk (blk_below (g := gb468) (o := .cells #[.int .i64 a2_0, .int .i64 a2_1] 23 (0, 0)) (by (with_reducible repeat (first | refine blk_drewN ?_ _ | refine blk_drew ?_ | refine blk_alloc ?_ _)); refine blk_far ?_ NB468_481.out _; (with_reducible repeat (first | refine blk_drewN ?_ _ | refine blk_drew ?_ | refine blk_alloc ?_ _)); refine blk_far ?_ NB468_481.out _; (with_reducible repeat (first | refine blk_drewN ?_ _ | refine blk_drew ?_ | refine blk_alloc ?_ _)); exact BK468.out) hb); have n3_ := Aside0.mk (blk_below (g := gb481) (o := .cells #[.int .i64 t487, .int .i64 t488] 23 (0, 0)) (by (with_reducible repeat (first | refine blk_drewN ?_ _ | refine blk_drew ?_ | refine blk_alloc ?_ _)); refine blk_put (cs := #[.int .i64 t487, .int .i64 t479]) ?_ 1 _ rfl; (with_reducible repeat (first | refine blk_drewN ?_ _ | refine blk_drew ?_ | refine blk_alloc ?_ _)); refine blk_put (cs := #[.int .i64 t478, .int .i64 t479]) ?_ 0 _ rfl; (with_reducible repeat (first | refine blk_drewN ?_ _ | refine blk_drew ?_ | refine blk_alloc ?_ _)); exact BK481.out) hb); have n4_ := Aside0.mk (blk_below (g := gb485) (o := .cells #[.int .i64 t482, .int .i64 t483] 23 (0, 0)) (by (with_reducible repeat (first | refine blk_drewN ?_ _ | refine blk_drew ?_ | refine blk_alloc ?_ _)); refine blk_far ?_ NB485_481.out _; (with_reducible repeat (first | refine blk_drewN ?_ _ | refine blk_drew ?_ | refine blk_alloc ?_ _)); refine blk_far ?_ NB485_481.out _; (with_reducible repeat (first | refine blk_drewN ?_ _ | refine blk_drew ?_ | refine blk_alloc ?_ _)); exact BK485.out) hb); have n5_ := Aside0.mk (below_step (by repeat (first | (with_reducible first | exact HB.out | apply below_alloc | apply pw_below_drewN | apply below_drew1 | refine below_set ?_ GE466.out | refine below_set ?_ GE467.out | refine below_set ?_ GE468.out | refine below_set ?_ GE481.out | refine below_set ?_ GE485.out) | exact HB.out)) hb); clear BK466; clear BK467; clear BK468; clear BK481; clear BK485; clear HB; have BK466 := n0_; have BK467 := n1_; have BK468 := n2_; have BK481 := n3_; have BK485 := n4_; have HB := n5_; clear n0_ n1_ n2_ n3_ n4_ n5_; (try clear hb); (try clear hb2); (try clear hk); (try clear hi); have hcz198_0 : w197.cell? ⟨gb485, 0, none⟩ = some (.int .i64 t482) := (blk_cell BK485.out 0).trans rfl; have hcz198_1 : w197.cell? ⟨gb485, 1, none⟩ = some (.int .i64 t483) := (blk_cell BK485.out 1).trans rfl; have hfz198_0 := blk_frozen BK485.out 0; have hfz198_1 := blk_frozen BK485.out 1))
                            have n0_ : Aside0 (((w197.setCell ⟨gb485, 0, none⟩ (.int .i64 t490)).setCell ⟨gb485, 1, none⟩ (.int .i64 t491)).heap[gb466]? = some (.cells #[.int .i64 a0_0, .int .i64 a0_1] 23 (0, 0))) := ⟨by (with_reducible repeat (first | refine blk_drewN ?_ _ | refine blk_drew ?_ | refine blk_alloc ?_ _)); refine blk_far ?_ NB466_485.out _; (with_reducible repeat (first | refine blk_drewN ?_ _ | refine blk_drew ?_ | refine blk_alloc ?_ _)); refine blk_far ?_ NB466_485.out _; (with_reducible repeat (first | refine blk_drewN ?_ _ | refine blk_drew ?_ | refine blk_alloc ?_ _)); exact BK466.out⟩
                            have n1_ : Aside0 (((w197.setCell ⟨gb485, 0, none⟩ (.int .i64 t490)).setCell ⟨gb485, 1, none⟩ (.int .i64 t491)).heap[gb467]? = some (.cells #[.int .i64 a1_0, .int .i64 a1_1] 23 (0, 0))) := ⟨by (with_reducible repeat (first | refine blk_drewN ?_ _ | refine blk_drew ?_ | refine blk_alloc ?_ _)); refine blk_far ?_ NB467_485.out _; (with_reducible repeat (first | refine blk_drewN ?_ _ | refine blk_drew ?_ | refine blk_alloc ?_ _)); refine blk_far ?_ NB467_485.out _; (with_reducible repeat (first | refine blk_drewN ?_ _ | refine blk_drew ?_ | refine blk_alloc ?_ _)); exact BK467.out⟩
                            have n2_ : Aside0 (((w197.setCell ⟨gb485, 0, none⟩ (.int .i64 t490)).setCell ⟨gb485, 1, none⟩ (.int .i64 t491)).heap[gb468]? = some (.cells #[.int .i64 a2_0, .int .i64 a2_1] 23 (0, 0))) := ⟨by (with_reducible repeat (first | refine blk_drewN ?_ _ | refine blk_drew ?_ | refine blk_alloc ?_ _)); refine blk_far ?_ NB468_485.out _; (with_reducible repeat (first | refine blk_drewN ?_ _ | refine blk_drew ?_ | refine blk_alloc ?_ _)); refine blk_far ?_ NB468_485.out _; (with_reducible repeat (first | refine blk_drewN ?_ _ | refine blk_drew ?_ | refine blk_alloc ?_ _)); exact BK468.out⟩
                            have n3_ : Aside0 (((w197.setCell ⟨gb485, 0, none⟩ (.int .i64 t490)).setCell ⟨gb485, 1, none⟩ (.int .i64 t491)).heap[gb481]? = some (.cells #[.int .i64 t487, .int .i64 t488] 23 (0, 0))) := ⟨by (with_reducible repeat (first | refine blk_drewN ?_ _ | refine blk_drew ?_ | refine blk_alloc ?_ _)); refine blk_far ?_ NB481_485.out _; (with_reducible repeat (first | refine blk_drewN ?_ _ | refine blk_drew ?_ | refine blk_alloc ?_ _)); refine blk_far ?_ NB481_485.out _; (with_reducible repeat (first | refine blk_drewN ?_ _ | refine blk_drew ?_ | refine blk_alloc ?_ _)); exact BK481.out⟩
                            have n4_ : Aside0 (((w197.setCell ⟨gb485, 0, none⟩ (.int .i64 t490)).setCell ⟨gb485, 1, none⟩ (.int .i64 t491)).heap[gb485]? = some (.cells #[.int .i64 t490, .int .i64 t491] 23 (0, 0))) := ⟨by (with_reducible repeat (first | refine blk_drewN ?_ _ | refine blk_drew ?_ | refine blk_alloc ?_ _)); refine blk_put (cs := #[.int .i64 t490, .int .i64 t483]) ?_ 1 _ rfl; (with_reducible repeat (first | refine blk_drewN ?_ _ | refine blk_drew ?_ | refine blk_alloc ?_ _)); refine blk_put (cs := #[.int .i64 t482, .int .i64 t483]) ?_ 0 _ rfl; (with_reducible repeat (first | refine blk_drewN ?_ _ | refine blk_drew ?_ | refine blk_alloc ?_ _)); exact BK485.out⟩
                            have n5_ : Aside0 (Below w.heap.size w ((w197.setCell ⟨gb485, 0, none⟩ (.int .i64 t490)).setCell ⟨gb485, 1, none⟩ (.int .i64 t491))) := ⟨by repeat (first | (with_reducible first | exact HB.out | apply below_alloc | apply pw_below_drewN | apply below_drew1 | refine below_set ?_ GE466.out | refine below_set ?_ GE467.out | refine below_set ?_ GE468.out | refine below_set ?_ GE481.out | refine below_set ?_ GE485.out) | exact HB.out)⟩
                            (try clear BK466)
                            (try clear BK467)
                            (try clear BK468)
                            (try clear BK481)
                            (try clear BK485)
                            (try clear HB)
                            generalize ((w197.setCell ⟨gb485, 0, none⟩ (.int .i64 t490)).setCell ⟨gb485, 1, none⟩ (.int .i64 t491)) = w199 at n0_ n1_ n2_ n3_ n4_ n5_ ⊢
                            have BK466 := n0_
                            have BK467 := n1_
                            have BK468 := n2_
                            have BK481 := n3_
                            have BK485 := n4_
                            have HB := n5_
                            clear n0_ n1_ n2_ n3_ n4_ n5_
                            have n0_ := Aside0.mk (blk_drew BK466.out)
                            have n1_ := Aside0.mk (blk_drew BK467.out)
                            have n2_ := Aside0.mk (blk_drew BK468.out)
                            have n3_ := Aside0.mk (blk_drew BK481.out)
                            have n4_ := Aside0.mk (blk_drew BK485.out)
                            have n5_ := Aside0.mk (below_drew1 HB.out)
                            clear BK466
                            clear BK467
                            clear BK468
                            clear BK481
                            clear BK485
                            clear HB
                            have BK466 := n0_
                            have BK467 := n1_
                            have BK468 := n2_
                            have BK481 := n3_
                            have BK485 := n4_
                            have HB := n5_
                            clear n0_ n1_ n2_ n3_ n4_ n5_
                            refine start_ (n := 4) (S := fun w' => w'.cell? ⟨gb468, 0, none⟩ = some (.int .i64 a2_0) ∧ w'.cell? ⟨gb468, 1, none⟩ = some (.int .i64 a2_1)) (ds := []) #[false, false, false, false] (by kernel_rfl) rfl rfl ⟨(blk_cell BK468.out 0).trans rfl, (blk_cell BK468.out 1).trans rfl⟩ (fun hHeld => ?_)
                            generalize w199.drew = w200 at BK466 BK467 BK468 BK481 BK485 HB hHeld ⊢
                            refine take_ (i := 0) (N := some 105) (v := ?_) (a' := ?_) #[true, false, false, false] rfl rfl (by kernel_rfl) (fun _ _ _ h => h) (Or.inl ⟨by rfl, ?_⟩) hHeld ?_ ?_
                            rotate_left
                            · rintro w' ⟨s0, s1⟩
                              go_simp
                              with_reducible rfl
                            rotate_left
                            · simp only [Act.put, List.setIfInBounds_toArray, List.set_cons_zero, List.set_cons_succ, i64_w, i32_w]
                              rfl
                            refine one_ (i := 1) (N := some 106) #[true, true, false, false] rfl rfl (by kernel_rfl) (by decide) (fun K hK => ?_)
                            refine goes_ Tryd.func32 (by kernel_rfl) rfl #[] (by rfl) rfl rfl (by (try simp only [List.map_toArray, List.map_cons, List.map_nil]); first | done | rfl | (simp only [List.length_drop, List.length_take]; rfl)) ?_
                            with_reducible refine (whittlelaw1_zero.calls  t493 t494 _ A129.out).mono ?_
                            rintro e w201 ⟨rfl, hb⟩
                            refine ⟨_, rfl, ?_⟩
                            have n0_ := Aside0.mk (blk_below (g := gb466) (o := .cells #[.int .i64 a0_0, .int .i64 a0_1] 23 (0, 0)) (by (with_reducible repeat (first | refine blk_drewN ?_ _ | refine blk_drew ?_ | refine blk_alloc ?_ _)); exact BK466.out) hb)
                            have n1_ := Aside0.mk (blk_below (g := gb467) (o := .cells #[.int .i64 a1_0, .int .i64 a1_1] 23 (0, 0)) (by (with_reducible repeat (first | refine blk_drewN ?_ _ | refine blk_drew ?_ | refine blk_alloc ?_ _)); exact BK467.out) hb)
                            have n2_ := Aside0.mk (blk_below (g := gb468) (o := .cells #[.int .i64 a2_0, .int .i64 a2_1] 23 (0, 0)) (by (with_reducible repeat (first | refine blk_drewN ?_ _ | refine blk_drew ?_ | refine blk_alloc ?_ _)); exact BK468.out) hb)
                            have n3_ := Aside0.mk (blk_below (g := gb481) (o := .cells #[.int .i64 t487, .int .i64 t488] 23 (0, 0)) (by (with_reducible repeat (first | refine blk_drewN ?_ _ | refine blk_drew ?_ | refine blk_alloc ?_ _)); exact BK481.out) hb)
                            have n4_ := Aside0.mk (blk_below (g := gb485) (o := .cells #[.int .i64 t490, .int .i64 t491] 23 (0, 0)) (by (with_reducible repeat (first | refine blk_drewN ?_ _ | refine blk_drew ?_ | refine blk_alloc ?_ _)); exact BK485.out) hb)
                            have n5_ := Aside0.mk (below_step (by repeat (first | (with_reducible first | exact HB.out | apply below_alloc | apply pw_below_drewN | apply below_drew1 | refine below_set ?_ GE466.out | refine below_set ?_ GE467.out | refine below_set ?_ GE468.out | refine below_set ?_ GE481.out | refine below_set ?_ GE485.out) | exact HB.out)) hb)
                            clear BK466
                            clear BK467
                            clear BK468
                            clear BK481
                            clear BK485
                            clear HB
                            have BK466 := n0_
                            have BK467 := n1_
                            have BK468 := n2_
                            have BK481 := n3_
                            have BK485 := n4_
                            have HB := n5_
                            clear n0_ n1_ n2_ n3_ n4_ n5_
                            (try clear hb)
                            (try clear hb2)
                            (try clear hk)
                            (try clear hi)
                            refine hK.out _ _ ⟨(blk_cell BK468.out 0).trans rfl, (blk_cell BK468.out 1).trans rfl⟩ (fun hHeld => ?_)
                            clear hK K
                            refine norm_ (a' := ?_) ?_ ?_
                            rotate_left
                            · show Act.put _ (some 106) _ = _
                              simp only [Act.put, List.setIfInBounds_toArray, List.set_cons_zero, List.set_cons_succ, i64_w, i32_w]
                              rfl
                            refine one_ (i := 2) (N := some 107) #[true, true, true, false] rfl rfl (by kernel_rfl) (by decide) (fun K hK => ?_)
                            refine goes_ Tryd.func25 (by kernel_rfl) rfl #[.agg #[.int .i64 a2_0, .int .i64 a2_1], .agg #[.int .i64 t493, .int .i64 t494]] (by rfl) rfl rfl (by (try simp only [List.map_toArray, List.map_cons, List.map_nil]); first | done | rfl | (simp only [List.length_drop, List.length_take]; rfl)) ?_
                            with_reducible refine (num_Cmp.calls kj91 a2_0 a2_1 t493 t494 t495 _ A130.out).mono ?_
                            rintro e w202 ⟨rfl, hb⟩
                            refine ⟨_, rfl, ?_⟩
                            have n0_ := Aside0.mk (blk_below (g := gb466) (o := .cells #[.int .i64 a0_0, .int .i64 a0_1] 23 (0, 0)) (by (with_reducible repeat (first | refine blk_drewN ?_ _ | refine blk_drew ?_ | refine blk_alloc ?_ _)); exact BK466.out) hb)
                            have n1_ := Aside0.mk (blk_below (g := gb467) (o := .cells #[.int .i64 a1_0, .int .i64 a1_1] 23 (0, 0)) (by (with_reducible repeat (first | refine blk_drewN ?_ _ | refine blk_drew ?_ | refine blk_alloc ?_ _)); exact BK467.out) hb)
                            have n2_ := Aside0.mk (blk_below (g := gb468) (o := .cells #[.int .i64 a2_0, .int .i64 a2_1] 23 (0, 0)) (by (with_reducible repeat (first | refine blk_drewN ?_ _ | refine blk_drew ?_ | refine blk_alloc ?_ _)); exact BK468.out) hb)
                            have n3_ := Aside0.mk (blk_below (g := gb481) (o := .cells #[.int .i64 t487, .int .i64 t488] 23 (0, 0)) (by (with_reducible repeat (first | refine blk_drewN ?_ _ | refine blk_drew ?_ | refine blk_alloc ?_ _)); exact BK481.out) hb)
                            have n4_ := Aside0.mk (blk_below (g := gb485) (o := .cells #[.int .i64 t490, .int .i64 t491] 23 (0, 0)) (by (with_reducible repeat (first | refine blk_drewN ?_ _ | refine blk_drew ?_ | refine blk_alloc ?_ _)); exact BK485.out) hb)
                            have n5_ := Aside0.mk (below_step (by repeat (first | (with_reducible first | exact HB.out | apply below_alloc | apply pw_below_drewN | apply below_drew1 | refine below_set ?_ GE466.out | refine below_set ?_ GE467.out | refine below_set ?_ GE468.out | refine below_set ?_ GE481.out | refine below_set ?_ GE485.out) | exact HB.out)) hb)
                            clear BK466
                            clear BK467
                            clear BK468
                            clear BK481
                            clear BK485
                            clear HB
                            have BK466 := n0_
                            have BK467 := n1_
                            have BK468 := n2_
                            have BK481 := n3_
                            have BK485 := n4_
                            have HB := n5_
                            clear n0_ n1_ n2_ n3_ n4_ n5_
                            (try clear hb)
                            (try clear hb2)
                            (try clear hk)
                            (try clear hi)
                            refine hK.out _ _ ⟨(blk_cell BK468.out 0).trans rfl, (blk_cell BK468.out 1).trans rfl⟩ (fun hHeld => ?_)
                            clear hK K
                            refine norm_ (a' := ?_) ?_ ?_
                            rotate_left
                            · show Act.put _ (some 107) _ = _
                              simp only [Act.put, List.setIfInBounds_toArray, List.set_cons_zero, List.set_cons_succ, i64_w, i32_w]
                              rfl
                            refine pure_ (i := 3) (N := some 12) (v := ?_) (a' := ?_) #[true, true, true, true] rfl rfl (by kernel_rfl) (fun _ _ _ h => h) (Or.inl ⟨by rfl, ?_⟩) ?_ ?_
                            rotate_left
                            · intro w'
                              go_simp
                              with_reducible rfl
                            rotate_left
                            · simp only [Act.put, List.setIfInBounds_toArray, List.set_cons_zero, List.set_cons_succ, i64_w, i32_w]
                              rfl
                            refine done_ (by kernel_rfl) ?_
                            try go_wp2
                            go_ret
                            exact ⟨by first | rfl | (simp [errW_none, errW_some] <;> rfl) | (simp [*, errW_none, errW_some] <;> rfl), by repeat (first | (with_reducible first | exact HB.out | apply below_alloc | apply pw_below_drewN | apply below_drew1 | refine below_set ?_ GE466.out | refine below_set ?_ GE467.out | refine below_set ?_ GE468.out | refine below_set ?_ GE481.out | refine below_set ?_ GE485.out) | exact HB.out)⟩

end Go.Proofs.YtlcjfabbnclalaaDoor.F
