-- Laid by program (wip/tools/gen.sh of this repo) out of the translation; Lean checks it.
import Derived.Test.YtlcjfabbnclalaaDoorF0
import Derived.Test.YtlcjfabbnclalaaDoorF2
import Derived.Test.YtlcjfabbnclalaaDoorF8
namespace Go.Proofs.YtlcjfabbnclalaaDoor.F
open Go.RowKit Go.Proofs.YtlcjfabbnclalaaDoorW.PrintWords Go.Proofs.YtlcjfabbnclalaaDoorW.PrintLast Go.Proofs.YtlcjfabbnclalaaDoorW.PrintMore
attribute [local go_sem] max2_int min2_int max_two min_two max_three min_three max_four min_four   -- for this text's walks alone
set_option linter.unusedVariables false
set_option linter.unusedSimpArgs false

/-! ### whittleref1_Pow: function 44 -/
mutual
def whittleref1_Pow.j0 : Nat → Int → Bool → Int → Int → Int → Int → Option (Int × Int × Bool)
  | 0, _, _, _, _, _, _ => none
  | k + 1, x1, x37, x565000, x565001, x569000, x569001 => if x37 = true then (if x565000 = (-1) then (if (Int.tmod x1 2) = 0 then (some (x569000, x569001, true)) else (some (x565000, x565001, true))) else (some (x569000, x569001, true))) else ((whittleref1_far.f x565000).bind fun t569 => (if x1 < 0 then ((whittleref1_far.f x565000).bind fun t570 => (whittleref1_Pow.j1 k x1 1 1 (IntKind.u64.wrap (x565001)) t570 x565000 x565001)) else (whittleref1_Pow.j1 k x1 1 1 t569 (IntKind.u64.wrap (x565001)) x565000 x565001)))
def whittleref1_Pow.j1 : Nat → Int → Int → Int → Int → Int → Int → Int → Option (Int × Int × Bool)
  | 0, _, _, _, _, _, _, _ => none
  | k + 1, x1, x7, x8, x9, x10, x565000, x565001 => whittleref1_Pow.l0 k x1 x7 x8 x9 x10 0 x565000 x565001
def whittleref1_Pow.l0 : Nat → Int → Int → Int → Int → Int → Int → Int → Int → Option (Int × Int × Bool)
  | 0, _, _, _, _, _, _, _, _ => none
  | k + 1, x1, x7, x8, x9, x10, x11, x565000, x565001 => (whittleref1_far.f x1).bind fun t571 => (if x11 < t571 then (if x9 = 0 then (none) else (if x7 > (IntKind.u64.wrap (Int.tdiv (1000000000000 : Int) x9)) then (some (0, 0, false)) else (if x10 = 0 then (none) else (if x8 > (IntKind.u64.wrap (Int.tdiv (1000000 : Int) x10)) then (some (0, 0, false)) else (whittleref1_Pow.l0 k x1 (IntKind.u64.wrap (x7 * x9)) (IntKind.u64.wrap (x8 * x10)) x9 x10 (IntKind.u64.wrap (x11 + 1)) x565000 x565001))))) else (if x565000 < 0 then ((whittleref1_made.f k ((Int.tmod x1 2) != 0) x7 x8).bind fun bt572 => (some (bt572.1, bt572.2.1, bt572.2.2))) else ((whittleref1_made.f k false x7 x8).bind fun bt575 => (some (bt575.1, bt575.2.1, bt575.2.2)))))
end
def whittleref1_Pow.f (k : Nat) (a0_0 : Int) (a0_1 : Int) (a1 : Int) : Option (Int × Int × Bool) := (whittleref1_Of.f k a0_0 a0_1).bind fun bt566 => (if a1 = 0 then (some (1, 1, true)) else (if bt566.1 = 0 then (if a1 < 0 then (some (0, 0, false)) else (some (bt566.1, bt566.2, true))) else (if bt566.2 = 1 then (if bt566.1 = 1 then (whittleref1_Pow.j0 k a1 true bt566.1 bt566.2 1 1) else (whittleref1_Pow.j0 k a1 (bt566.1 == (-1)) bt566.1 bt566.2 1 1)) else (whittleref1_Pow.j0 k a1 false bt566.1 bt566.2 1 1))))
theorem whittleref1_Pow.mono_l : ∀ k, (∀ y0 y1 y2 y3 y4 y5, LeO (whittleref1_Pow.j0 k y0 y1 y2 y3 y4 y5) (whittleref1_Pow.j0 (k + 1) y0 y1 y2 y3 y4 y5)) ∧ (∀ y0 y1 y2 y3 y4 y5 y6, LeO (whittleref1_Pow.j1 k y0 y1 y2 y3 y4 y5 y6) (whittleref1_Pow.j1 (k + 1) y0 y1 y2 y3 y4 y5 y6)) ∧ (∀ y0 y1 y2 y3 y4 y5 y6 y7, LeO (whittleref1_Pow.l0 k y0 y1 y2 y3 y4 y5 y6 y7) (whittleref1_Pow.l0 (k + 1) y0 y1 y2 y3 y4 y5 y6 y7))
  | 0 => ⟨fun _ _ _ _ _ _ r h => by simp [whittleref1_Pow.j0] at h, fun _ _ _ _ _ _ _ r h => by simp [whittleref1_Pow.j1] at h, fun _ _ _ _ _ _ _ _ r h => by simp [whittleref1_Pow.l0] at h⟩
  | k + 1 => by
    obtain ⟨ih0, ih1, ih2⟩ := whittleref1_Pow.mono_l k
    refine ⟨?_, ?_, ?_⟩
    · intro y0 y1 y2 y3 y4 y5
      unfold whittleref1_Pow.j0
      repeat' first
      | (with_reducible exact ih0 _ _ _ _ _ _)
      | (with_reducible exact ih1 _ _ _ _ _ _ _)
      | (with_reducible exact ih2 _ _ _ _ _ _ _ _)
      | (with_reducible exact whittleref1_Of.mono _ _ _)
      | (with_reducible exact whittleref1_made.mono _ _ _ _)
      | (with_reducible exact LeO.refl _)
      | (with_reducible exact LeO.none _)
      | (with_reducible refine LeO.ite ?_ ?_)
      | (with_reducible refine LeO.bind ?_ (fun _ => ?_))
      | exact ih0 _ _ _ _ _ _
      | exact ih1 _ _ _ _ _ _ _
      | exact ih2 _ _ _ _ _ _ _ _
      | exact whittleref1_Of.mono _ _ _
      | exact whittleref1_made.mono _ _ _ _
      | exact LeO.none _
      | refine LeO.ite ?_ ?_
      | refine LeO.bind ?_ (fun _ => ?_)
    · intro y0 y1 y2 y3 y4 y5 y6
      unfold whittleref1_Pow.j1
      repeat' first
      | (with_reducible exact ih0 _ _ _ _ _ _)
      | (with_reducible exact ih1 _ _ _ _ _ _ _)
      | (with_reducible exact ih2 _ _ _ _ _ _ _ _)
      | (with_reducible exact whittleref1_Of.mono _ _ _)
      | (with_reducible exact whittleref1_made.mono _ _ _ _)
      | (with_reducible exact LeO.refl _)
      | (with_reducible exact LeO.none _)
      | (with_reducible refine LeO.ite ?_ ?_)
      | (with_reducible refine LeO.bind ?_ (fun _ => ?_))
      | exact ih0 _ _ _ _ _ _
      | exact ih1 _ _ _ _ _ _ _
      | exact ih2 _ _ _ _ _ _ _ _
      | exact whittleref1_Of.mono _ _ _
      | exact whittleref1_made.mono _ _ _ _
      | exact LeO.none _
      | refine LeO.ite ?_ ?_
      | refine LeO.bind ?_ (fun _ => ?_)
    · intro y0 y1 y2 y3 y4 y5 y6 y7
      unfold whittleref1_Pow.l0
      repeat' first
      | (with_reducible exact ih0 _ _ _ _ _ _)
      | (with_reducible exact ih1 _ _ _ _ _ _ _)
      | (with_reducible exact ih2 _ _ _ _ _ _ _ _)
      | (with_reducible exact whittleref1_Of.mono _ _ _)
      | (with_reducible exact whittleref1_made.mono _ _ _ _)
      | (with_reducible exact LeO.refl _)
      | (with_reducible exact LeO.none _)
      | (with_reducible refine LeO.ite ?_ ?_)
      | (with_reducible refine LeO.bind ?_ (fun _ => ?_))
      | exact ih0 _ _ _ _ _ _
      | exact ih1 _ _ _ _ _ _ _
      | exact ih2 _ _ _ _ _ _ _ _
      | exact whittleref1_Of.mono _ _ _
      | exact whittleref1_made.mono _ _ _ _
      | exact LeO.none _
      | refine LeO.ite ?_ ?_
      | refine LeO.bind ?_ (fun _ => ?_)
theorem whittleref1_Pow.mono : ∀ a0 a1 a2 k, LeO (whittleref1_Pow.f k a0 a1 a2) (whittleref1_Pow.f (k + 1) a0 a1 a2) := by
  intro a0 a1 a2 k
  obtain ⟨ih0, ih1, ih2⟩ := whittleref1_Pow.mono_l k
  unfold whittleref1_Pow.f
  repeat' first
      | (with_reducible exact ih0 _ _ _ _ _ _)
      | (with_reducible exact ih1 _ _ _ _ _ _ _)
      | (with_reducible exact ih2 _ _ _ _ _ _ _ _)
      | (with_reducible exact whittleref1_Of.mono _ _ _)
      | (with_reducible exact whittleref1_made.mono _ _ _ _)
      | (with_reducible exact LeO.refl _)
      | (with_reducible exact LeO.none _)
      | (with_reducible refine LeO.ite ?_ ?_)
      | (with_reducible refine LeO.bind ?_ (fun _ => ?_))
      | exact ih0 _ _ _ _ _ _
      | exact ih1 _ _ _ _ _ _ _
      | exact ih2 _ _ _ _ _ _ _ _
      | exact whittleref1_Of.mono _ _ _
      | exact whittleref1_made.mono _ _ _ _
      | exact LeO.none _
      | refine LeO.ite ?_ ?_
      | refine LeO.bind ?_ (fun _ => ?_)
set_option maxHeartbeats 8000000 in
set_option maxRecDepth 100000 in
theorem whittleref1_Pow.calls (k : Nat) (a0_0 : Int) (a0_1 : Int) (a1 : Int) (r1 : Int) (r2 : Int) (r3 : Bool) (w : World) (h : whittleref1_Pow.f k a0_0 a0_1 a1 = some (r1, r2, r3)) :
    Calls Tryd.prog 44 #[.agg #[.int .i64 a0_0, .int .i64 a0_1], .int .i64 a1] w fun e w' => e = .returned (.tuple #[.agg #[.int .i64 r1, .int .i64 r2], .bool r3]) ∧ Below w.heap.size w w' := by
  have hu23 := Tryd.underlying23
  have HB := Aside0.mk (Below.refl w.heap.size w)
  have H : ((whittleref1_Of.f k a0_0 a0_1).bind fun bt566 => (if a1 = 0 then (some (1, 1, true)) else (if bt566.1 = 0 then (if a1 < 0 then (some (0, 0, false)) else (some (bt566.1, bt566.2, true))) else (if bt566.2 = 1 then (if bt566.1 = 1 then (whittleref1_Pow.j0 k a1 true bt566.1 bt566.2 1 1) else (whittleref1_Pow.j0 k a1 (bt566.1 == (-1)) bt566.1 bt566.2 1 1)) else (whittleref1_Pow.j0 k a1 false bt566.1 bt566.2 1 1))))) = some (r1, r2, r3) := h
  clear h
  replace H := Option.bind_eq_some_iff.mp H
  obtain ⟨⟨t566, t567⟩, A30, H⟩ := H
  replace H : (if a1 = 0 then (some (1, 1, true)) else (if t566 = 0 then (if a1 < 0 then (some (0, 0, false)) else (some (t566, t567, true))) else (if t567 = 1 then (if t566 = 1 then (whittleref1_Pow.j0 k a1 true t566 t567 1 1) else (whittleref1_Pow.j0 k a1 (t566 == (-1)) t566 t567 1 1)) else (whittleref1_Pow.j0 k a1 false t566 t567 1 1)))) = some (r1, r2, r3) := H
  have A3 := Aside0.mk A30
  clear A30
  by_cases c4 : a1 = 0
  · rw [if_pos c4] at H
    have c4b0 : (a1 == 0) = true := beq_iff_eq.mpr c4
    have c4b1 : (a1 != 0) = false := bne_eq_false_iff_eq.mpr c4
    clear c4
    simp only [Option.some.injEq, Prod.mk.injEq] at H
    obtain ⟨rfl, rfl, rfl⟩ := H
    go_enter Tryd.func44, Tryd.ntmps44
    go_wp2_with (first | ((with_reducible refine gate_dst (N := 2) rfl ?_); refine box_event ?hg (N := 2) ?hd (cs := #[.int .i64 a0_0, .int .i64 a0_1]) (t := 23) ?hr ?_; (case hd => rfl); (case hg => rfl); (case hr => first | (go_simp; done) | (go_simp; rfl)); intro gb564 hg w5 hbox hb; have n0_ := Aside0.mk (below_step (by repeat (first | (with_reducible first | exact HB.out | apply below_alloc | apply pw_below_drewN | apply below_drew1) | exact HB.out)) hb); have n1_ := Aside0.mk (hbox); have n2_ := Aside0.mk ((by rw [hg]; exact (below_size (by repeat (first | (with_reducible first | exact HB.out | apply below_alloc | apply pw_below_drewN | apply below_drew1) | exact HB.out))) : w.heap.size ≤ gb564)); have n3_ := Aside0.mk ((by rw [hg]; exact (below_size (by repeat (first | (with_reducible first | exact HB.out | apply below_alloc | apply pw_below_drewN | apply below_drew1) | exact HB.out))) : w.heap.size ≤ gb564)); clear HB; have HB := n0_; have BK564 := n1_; have GW564 := n2_; have GE564 := n3_; clear n0_ n1_ n2_ n3_; clear hb hbox hg) | ((with_reducible refine gate_dst (N := 4) rfl ?_); refine box_event ?hg (N := 4) ?hd (cs := #[.int .i64 0, .int .i64 0]) (t := 23) ?hr ?_; (case hd => rfl); (case hg => rfl); (case hr => first | (go_simp; done) | (go_simp; rfl)); intro gb565 hg w6 hbox hb; have n0_ := Aside0.mk (blk_below (g := gb564) (o := .cells #[.int .i64 a0_0, .int .i64 a0_1] 23 (0, 0)) (by (with_reducible repeat (first | refine blk_drewN ?_ _ | refine blk_drew ?_ | refine blk_alloc ?_ _)); exact BK564.out) hb); have n1_ := Aside0.mk (below_step (by repeat (first | (with_reducible first | exact HB.out | apply below_alloc | apply pw_below_drewN | apply below_drew1 | refine below_set ?_ GE564.out) | exact HB.out)) hb); have n2_ := Aside0.mk (hbox); have n3_ := Aside0.mk ((by rw [hg]; exact (below_size (by repeat (first | (with_reducible first | exact HB.out | apply below_alloc | apply pw_below_drewN | apply below_drew1 | refine below_set ?_ GE564.out) | exact HB.out))) : w.heap.size ≤ gb565)); have n4_ := Aside0.mk ((by rw [hg]; exact (below_size (by repeat (first | (with_reducible first | exact HB.out | apply below_alloc | apply pw_below_drewN | apply below_drew1 | refine below_set ?_ GE564.out) | exact HB.out))) : w.heap.size ≤ gb565)); have n5_ := Aside0.mk ((by rw [hg]; exact Nat.ne_of_lt (blk_lt (g := gb564) (o := .cells #[.int .i64 a0_0, .int .i64 a0_1] 23 (0, 0)) (by (with_reducible repeat (first | refine blk_drewN ?_ _ | refine blk_drew ?_ | refine blk_alloc ?_ _)); exact BK564.out)) : gb564 ≠ gb565)); have n6_ := Aside0.mk ((by rw [hg]; exact Nat.ne_of_gt (blk_lt (g := gb564) (o := .cells #[.int .i64 a0_0, .int .i64 a0_1] 23 (0, 0)) (by (with_reducible repeat (first | refine blk_drewN ?_ _ | refine blk_drew ?_ | refine blk_alloc ?_ _)); exact BK564.out)) : gb565 ≠ gb564)); clear BK564; clear HB; have BK564 := n0_; have HB := n1_; have BK565 := n2_; have GW565 := n3_; have GE565 := n4_; have NB564_565 := n5_; have NB565_564 := n6_; clear n0_ n1_ n2_ n3_ n4_ n5_ n6_; clear hb hbox hg; have hnb7 := NB564_565.out; have hnc7 := NB565_564.out; have hcz8_0 : w6.cell? ⟨gb564, 0, none⟩ = some (.int .i64 a0_0) := (blk_cell BK564.out 0).trans rfl; have hcz8_1 : w6.cell? ⟨gb564, 1, none⟩ = some (.int .i64 a0_1) := (blk_cell BK564.out 1).trans rfl; have hfz8_0 := blk_frozen BK564.out 0; have hfz8_1 := blk_frozen BK564.out 1) | ((with_reducible refine gate_callee (f := 64) rfl ?_); refine goesL_ (some 13) rfl rfl Tryd.func64 (by kernel_rfl) rfl #[.agg #[.int .i64 a0_0, .int .i64 a0_1]] rfl (by (try simp only [List.map_toArray, List.map_cons, List.map_nil]); first | done | rfl | (simp only [List.length_drop, List.length_take]; rfl)) ?_; (with_reducible refine (whittleref1_Of.calls k a0_0 a0_1 t566 t567 _ A3.out).mono ?_); rintro e w9 ⟨rfl, hb⟩; refine ⟨_, rfl, ?_⟩; have n0_ := Aside0.mk (blk_below (g := gb564) (o := .cells #[.int .i64 a0_0, .int .i64 a0_1] 23 (0, 0)) (by (with_reducible repeat (first | refine blk_drewN ?_ _ | refine blk_drew ?_ | refine blk_alloc ?_ _)); exact BK564.out) hb); have n1_ := Aside0.mk (blk_below (g := gb565) (o := .cells #[.int .i64 0, .int .i64 0] 23 (0, 0)) (by (with_reducible repeat (first | refine blk_drewN ?_ _ | refine blk_drew ?_ | refine blk_alloc ?_ _)); exact BK565.out) hb); have n2_ := Aside0.mk (below_step (by repeat (first | (with_reducible first | exact HB.out | apply below_alloc | apply pw_below_drewN | apply below_drew1 | refine below_set ?_ GE564.out | refine below_set ?_ GE565.out) | exact HB.out)) hb); clear BK564; clear BK565; clear HB; have BK564 := n0_; have BK565 := n1_; have HB := n2_; clear n0_ n1_ n2_; (try clear hb); (try clear hb2); (try clear hk); (try clear hi); have hcz10_0 : w9.cell? ⟨gb564, 0, none⟩ = some (.int .i64 a0_0) := (blk_cell BK564.out 0).trans rfl; have hcz10_1 : w9.cell? ⟨gb564, 1, none⟩ = some (.int .i64 a0_1) := (blk_cell BK564.out 1).trans rfl; have hfz10_0 := blk_frozen BK564.out 0; have hfz10_1 := blk_frozen BK564.out 1) | ((with_reducible refine gate_dst (N := 6) rfl ?_); refine box_event ?hg (N := 6) ?hd (cs := #[.int .i64 0, .int .i64 0]) (t := 23) ?hr ?_; (case hd => rfl); (case hg => rfl); (case hr => first | (go_simp; done) | (go_simp; rfl)); intro gb568 hg w11 hbox hb; have n0_ := Aside0.mk (blk_below (g := gb564) (o := .cells #[.int .i64 t566, .int .i64 t567] 23 (0, 0)) (by (with_reducible repeat (first | refine blk_drewN ?_ _ | refine blk_drew ?_ | refine blk_alloc ?_ _)); refine blk_put (cs := #[.int .i64 t566, .int .i64 a0_1]) ?_ 1 _ rfl; (with_reducible repeat (first | refine blk_drewN ?_ _ | refine blk_drew ?_ | refine blk_alloc ?_ _)); refine blk_put (cs := #[.int .i64 a0_0, .int .i64 a0_1]) ?_ 0 _ rfl; (with_reducible repeat (first | refine blk_drewN ?_ _ | refine blk_drew ?_ | refine blk_alloc ?_ _)); exact BK564.out) hb); have n1_ := Aside0.mk (blk_below (g := gb565) (o := .cells #[.int .i64 0, .int .i64 0] 23 (0, 0)) (by (with_reducible repeat (first | refine blk_drewN ?_ _ | refine blk_drew ?_ | refine blk_alloc ?_ _)); refine blk_far ?_ NB565_564.out _; (with_reducible repeat (first | refine blk_drewN ?_ _ | refine blk_drew ?_ | refine blk_alloc ?_ _)); refine blk_far ?_ NB565_564.out _; (with_reducible repeat (first | refine blk_drewN ?_ _ | refine blk_drew ?_ | refine blk_alloc ?_ _)); exact BK565.out) hb); have n2_ := Aside0.mk (below_step (by repeat (first | (with_reducible first | exact HB.out | apply below_alloc | apply pw_below_drewN | apply below_drew1 | refine below_set ?_ GE564.out | refine below_set ?_ GE565.out) | exact HB.out)) hb); have n3_ := Aside0.mk (hbox); have n4_ := Aside0.mk ((by rw [hg]; exact (below_size (by repeat (first | (with_reducible first | exact HB.out | apply below_alloc | apply pw_below_drewN | apply below_drew1 | refine below_set ?_ GE564.out | refine below_set ?_ GE565.out) | exact HB.out))) : w.heap.size ≤ gb568)); have n5_ := Aside0.mk ((by rw [hg]; exact (below_size (by repeat (first | (with_reducible first | exact HB.out | apply below_alloc | apply pw_below_drewN | apply below_drew1 | refine below_set ?_ GE564.out | refine below_set ?_ GE565.out) | exact HB.out))) : w.heap.size ≤ gb568)); have n6_ := Aside0.mk ((by rw [hg]; exact Nat.ne_of_lt (blk_lt (g := gb564) (o := .cells #[.int .i64 t566, .int .i64 t567] 23 (0, 0)) (by (with_reducible repeat (first | refine blk_drewN ?_ _ | refine blk_drew ?_ | refine blk_alloc ?_ _)); refine blk_put (cs := #[.int .i64 t566, .int .i64 a0_1]) ?_ 1 _ rfl; (with_reducible repeat (first | refine blk_drewN ?_ _ | refine blk_drew ?_ | refine blk_alloc ?_ _)); refine blk_put (cs := #[.int .i64 a0_0, .int .i64 a0_1]) ?_ 0 _ rfl; (with_reducible repeat (first | refine blk_drewN ?_ _ | refine blk_drew ?_ | refine blk_alloc ?_ _)); exact BK564.out)) : gb564 ≠ gb568)); have n7_ := Aside0.mk ((by rw [hg]; exact Nat.ne_of_gt (blk_lt (g := gb564) (o := .cells #[.int .i64 t566, .int .i64 t567] 23 (0, 0)) (by (with_reducible repeat (first | refine blk_drewN ?_ _ | refine blk_drew ?_ | refine blk_alloc ?_ _)); refine blk_put (cs := #[.int .i64 t566, .int .i64 a0_1]) ?_ 1 _ rfl; (with_reducible repeat (first | refine blk_drewN ?_ _ | refine blk_drew ?_ | refine blk_alloc ?_ _)); refine blk_put (cs := #[.int .i64 a0_0, .int .i64 a0_1]) ?_ 0 _ rfl; (with_reducible repeat (first | refine blk_drewN ?_ _ | refine blk_drew ?_ | refine blk_alloc ?_ _)); exact BK564.out)) : gb568 ≠ gb564)); have n8_ := Aside0.mk ((by rw [hg]; exact Nat.ne_of_lt (blk_lt (g := gb565) (o := .cells #[.int .i64 0, .int .i64 0] 23 (0, 0)) (by (with_reducible repeat (first | refine blk_drewN ?_ _ | refine blk_drew ?_ | refine blk_alloc ?_ _)); refine blk_far ?_ NB565_564.out _; (with_reducible repeat (first | refine blk_drewN ?_ _ | refine blk_drew ?_ | refine blk_alloc ?_ _)); refine blk_far ?_ NB565_564.out _; (with_reducible repeat (first | refine blk_drewN ?_ _ | refine blk_drew ?_ | refine blk_alloc ?_ _)); exact BK565.out)) : gb565 ≠ gb568)); have n9_ := Aside0.mk ((by rw [hg]; exact Nat.ne_of_gt (blk_lt (g := gb565) (o := .cells #[.int .i64 0, .int .i64 0] 23 (0, 0)) (by (with_reducible repeat (first | refine blk_drewN ?_ _ | refine blk_drew ?_ | refine blk_alloc ?_ _)); refine blk_far ?_ NB565_564.out _; (with_reducible repeat (first | refine blk_drewN ?_ _ | refine blk_drew ?_ | refine blk_alloc ?_ _)); refine blk_far ?_ NB565_564.out _; (with_reducible repeat (first | refine blk_drewN ?_ _ | refine blk_drew ?_ | refine blk_alloc ?_ _)); exact BK565.out)) : gb568 ≠ gb565)); clear BK564; clear BK565; clear HB; have BK564 := n0_; have BK565 := n1_; have HB := n2_; have BK568 := n3_; have GW568 := n4_; have GE568 := n5_; have NB564_568 := n6_; have NB568_564 := n7_; have NB565_568 := n8_; have NB568_565 := n9_; clear n0_ n1_ n2_ n3_ n4_ n5_ n6_ n7_ n8_ n9_; clear hb hbox hg; have hnb12 := NB568_564.out; have hnc12 := NB564_568.out; have hnb13 := NB568_565.out; have hnc13 := NB565_568.out; have hcz14_0 : w11.cell? ⟨gb568, 0, none⟩ = some (.int .i64 0) := (blk_cell BK568.out 0).trans rfl; have hcz14_1 : w11.cell? ⟨gb568, 1, none⟩ = some (.int .i64 0) := (blk_cell BK568.out 1).trans rfl; have hfz14_0 := blk_frozen BK568.out 0; have hfz14_1 := blk_frozen BK568.out 1; have hcz15_0 : w11.cell? ⟨gb565, 0, none⟩ = some (.int .i64 0) := (blk_cell BK565.out 0).trans rfl; have hcz15_1 : w11.cell? ⟨gb565, 1, none⟩ = some (.int .i64 0) := (blk_cell BK565.out 1).trans rfl; have hfz15_0 := blk_frozen BK565.out 0; have hfz15_1 := blk_frozen BK565.out 1))
    refine bodyPost_ret (results_ct rfl _ _ gb565 23 #[.int .i64 1, .int .i64 1] (0, 0) _ rfl (by (with_reducible repeat (first | refine blk_drewN ?_ _ | refine blk_drew ?_ | refine blk_alloc ?_ _)); refine blk_put (cs := #[.int .i64 1, .int .i64 0]) ?_ 1 _ rfl; (with_reducible repeat (first | refine blk_drewN ?_ _ | refine blk_drew ?_ | refine blk_alloc ?_ _)); refine blk_put (cs := #[.int .i64 0, .int .i64 0]) ?_ 0 _ rfl; (with_reducible repeat (first | refine blk_drewN ?_ _ | refine blk_drew ?_ | refine blk_alloc ?_ _)); refine blk_far ?_ NB565_568.out _; (with_reducible repeat (first | refine blk_drewN ?_ _ | refine blk_drew ?_ | refine blk_alloc ?_ _)); refine blk_far ?_ NB565_568.out _; (with_reducible repeat (first | refine blk_drewN ?_ _ | refine blk_drew ?_ | refine blk_alloc ?_ _)); exact BK565.out) Tryd.underlying23 rfl (by kernel_rfl)) rfl ?_
    exact ⟨by first | rfl | (simp [errW_none, errW_some] <;> rfl) | (simp [*, errW_none, errW_some] <;> rfl), by repeat (first | (with_reducible first | exact HB.out | apply below_alloc | apply pw_below_drewN | apply below_drew1 | refine below_set ?_ GE564.out | refine below_set ?_ GE565.out | refine below_set ?_ GE568.out) | exact HB.out)⟩
  · rw [if_neg c4] at H
    have c4b0 : (a1 == 0) = false := beq_eq_false_iff_ne.mpr c4
    have c4b1 : (a1 != 0) = true := bne_iff_ne.mpr c4
    by_cases c16 : t566 = 0
    · rw [if_pos c16] at H
      have c16b0 : (t566 == 0) = true := beq_iff_eq.mpr c16
      have c16b1 : (t566 != 0) = false := bne_eq_false_iff_eq.mpr c16
      clear c16
      by_cases c17 : a1 < 0
      · rw [if_pos c17] at H
        have c17b0 : decide (a1 < 0) = true := decide_eq_true c17
        clear c17
        simp only [Option.some.injEq, Prod.mk.injEq] at H
        obtain ⟨rfl, rfl, rfl⟩ := H
        go_enter Tryd.func44, Tryd.ntmps44
        go_wp2_with (first | ((with_reducible refine gate_dst (N := 2) rfl ?_); refine box_event ?hg (N := 2) ?hd (cs := #[.int .i64 a0_0, .int .i64 a0_1]) (t := 23) ?hr ?_; (case hd => rfl); (case hg => rfl); (case hr => first | (go_simp; done) | (go_simp; rfl)); intro gb564 hg w18 hbox hb; have n0_ := Aside0.mk (below_step (by repeat (first | (with_reducible first | exact HB.out | apply below_alloc | apply pw_below_drewN | apply below_drew1) | exact HB.out)) hb); have n1_ := Aside0.mk (hbox); have n2_ := Aside0.mk ((by rw [hg]; exact (below_size (by repeat (first | (with_reducible first | exact HB.out | apply below_alloc | apply pw_below_drewN | apply below_drew1) | exact HB.out))) : w.heap.size ≤ gb564)); have n3_ := Aside0.mk ((by rw [hg]; exact (below_size (by repeat (first | (with_reducible first | exact HB.out | apply below_alloc | apply pw_below_drewN | apply below_drew1) | exact HB.out))) : w.heap.size ≤ gb564)); clear HB; have HB := n0_; have BK564 := n1_; have GW564 := n2_; have GE564 := n3_; clear n0_ n1_ n2_ n3_; clear hb hbox hg) | ((with_reducible refine gate_dst (N := 4) rfl ?_); refine box_event ?hg (N := 4) ?hd (cs := #[.int .i64 0, .int .i64 0]) (t := 23) ?hr ?_; (case hd => rfl); (case hg => rfl); (case hr => first | (go_simp; done) | (go_simp; rfl)); intro gb565 hg w19 hbox hb; have n0_ := Aside0.mk (blk_below (g := gb564) (o := .cells #[.int .i64 a0_0, .int .i64 a0_1] 23 (0, 0)) (by (with_reducible repeat (first | refine blk_drewN ?_ _ | refine blk_drew ?_ | refine blk_alloc ?_ _)); exact BK564.out) hb); have n1_ := Aside0.mk (below_step (by repeat (first | (with_reducible first | exact HB.out | apply below_alloc | apply pw_below_drewN | apply below_drew1 | refine below_set ?_ GE564.out) | exact HB.out)) hb); have n2_ := Aside0.mk (hbox); have n3_ := Aside0.mk ((by rw [hg]; exact (below_size (by repeat (first | (with_reducible first | exact HB.out | apply below_alloc | apply pw_below_drewN | apply below_drew1 | refine below_set ?_ GE564.out) | exact HB.out))) : w.heap.size ≤ gb565)); have n4_ := Aside0.mk ((by rw [hg]; exact (below_size (by repeat (first | (with_reducible first | exact HB.out | apply below_alloc | apply pw_below_drewN | apply below_drew1 | refine below_set ?_ GE564.out) | exact HB.out))) : w.heap.size ≤ gb565)); have n5_ := Aside0.mk ((by rw [hg]; exact Nat.ne_of_lt (blk_lt (g := gb564) (o := .cells #[.int .i64 a0_0, .int .i64 a0_1] 23 (0, 0)) (by (with_reducible repeat (first | refine blk_drewN ?_ _ | refine blk_drew ?_ | refine blk_alloc ?_ _)); exact BK564.out)) : gb564 ≠ gb565)); have n6_ := Aside0.mk ((by rw [hg]; exact Nat.ne_of_gt (blk_lt (g := gb564) (o := .cells #[.int .i64 a0_0, .int .i64 a0_1] 23 (0, 0)) (by (with_reducible repeat (first | refine blk_drewN ?_ _ | refine blk_drew ?_ | refine blk_alloc ?_ _)); exact BK564.out)) : gb565 ≠ gb564)); clear BK564; clear HB; have BK564 := n0_; have HB := n1_; have BK565 := n2_; have GW565 := n3_; have GE565 := n4_; have NB564_565 := n5_; have NB565_564 := n6_; clear n0_ n1_ n2_ n3_ n4_ n5_ n6_; clear hb hbox hg; have hnb20 := NB564_565.out; have hnc20 := NB565_564.out; have hcz21_0 : w19.cell? ⟨gb564, 0, none⟩ = some (.int .i64 a0_0) := (blk_cell BK564.out 0).trans rfl; have hcz21_1 : w19.cell? ⟨gb564, 1, none⟩ = some (.int .i64 a0_1) := (blk_cell BK564.out 1).trans rfl; have hfz21_0 := blk_frozen BK564.out 0; have hfz21_1 := blk_frozen BK564.out 1) | ((with_reducible refine gate_callee (f := 64) rfl ?_); refine goesL_ (some 13) rfl rfl Tryd.func64 (by kernel_rfl) rfl #[.agg #[.int .i64 a0_0, .int .i64 a0_1]] rfl (by (try simp only [List.map_toArray, List.map_cons, List.map_nil]); first | done | rfl | (simp only [List.length_drop, List.length_take]; rfl)) ?_; (with_reducible refine (whittleref1_Of.calls k a0_0 a0_1 t566 t567 _ A3.out).mono ?_); rintro e w22 ⟨rfl, hb⟩; refine ⟨_, rfl, ?_⟩; have n0_ := Aside0.mk (blk_below (g := gb564) (o := .cells #[.int .i64 a0_0, .int .i64 a0_1] 23 (0, 0)) (by (with_reducible repeat (first | refine blk_drewN ?_ _ | refine blk_drew ?_ | refine blk_alloc ?_ _)); exact BK564.out) hb); have n1_ := Aside0.mk (blk_below (g := gb565) (o := .cells #[.int .i64 0, .int .i64 0] 23 (0, 0)) (by (with_reducible repeat (first | refine blk_drewN ?_ _ | refine blk_drew ?_ | refine blk_alloc ?_ _)); exact BK565.out) hb); have n2_ := Aside0.mk (below_step (by repeat (first | (with_reducible first | exact HB.out | apply below_alloc | apply pw_below_drewN | apply below_drew1 | refine below_set ?_ GE564.out | refine below_set ?_ GE565.out) | exact HB.out)) hb); clear BK564; clear BK565; clear HB; have BK564 := n0_; have BK565 := n1_; have HB := n2_; clear n0_ n1_ n2_; (try clear hb); (try clear hb2); (try clear hk); (try clear hi); have hcz23_0 : w22.cell? ⟨gb564, 0, none⟩ = some (.int .i64 a0_0) := (blk_cell BK564.out 0).trans rfl; have hcz23_1 : w22.cell? ⟨gb564, 1, none⟩ = some (.int .i64 a0_1) := (blk_cell BK564.out 1).trans rfl; have hfz23_0 := blk_frozen BK564.out 0; have hfz23_1 := blk_frozen BK564.out 1) | ((with_reducible refine gate_dst (N := 6) rfl ?_); refine box_event ?hg (N := 6) ?hd (cs := #[.int .i64 0, .int .i64 0]) (t := 23) ?hr ?_; (case hd => rfl); (case hg => rfl); (case hr => first | (go_simp; done) | (go_simp; rfl)); intro gb568 hg w24 hbox hb; have n0_ := Aside0.mk (blk_below (g := gb564) (o := .cells #[.int .i64 t566, .int .i64 t567] 23 (0, 0)) (by (with_reducible repeat (first | refine blk_drewN ?_ _ | refine blk_drew ?_ | refine blk_alloc ?_ _)); refine blk_put (cs := #[.int .i64 t566, .int .i64 a0_1]) ?_ 1 _ rfl; (with_reducible repeat (first | refine blk_drewN ?_ _ | refine blk_drew ?_ | refine blk_alloc ?_ _)); refine blk_put (cs := #[.int .i64 a0_0, .int .i64 a0_1]) ?_ 0 _ rfl; (with_reducible repeat (first | refine blk_drewN ?_ _ | refine blk_drew ?_ | refine blk_alloc ?_ _)); exact BK564.out) hb); have n1_ := Aside0.mk (blk_below (g := gb565) (o := .cells #[.int .i64 0, .int .i64 0] 23 (0, 0)) (by (with_reducible repeat (first | refine blk_drewN ?_ _ | refine blk_drew ?_ | refine blk_alloc ?_ _)); refine blk_far ?_ NB565_564.out _; (with_reducible repeat (first | refine blk_drewN ?_ _ | refine blk_drew ?_ | refine blk_alloc ?_ _)); refine blk_far ?_ NB565_564.out _; (with_reducible repeat (first | refine blk_drewN ?_ _ | refine blk_drew ?_ | refine blk_alloc ?_ _)); exact BK565.out) hb); have n2_ := Aside0.mk (below_step (by repeat (first | (with_reducible first | exact HB.out | apply below_alloc | apply pw_below_drewN | apply below_drew1 | refine below_set ?_ GE564.out | refine below_set ?_ GE565.out) | exact HB.out)) hb); have n3_ := Aside0.mk (hbox); have n4_ := Aside0.mk ((by rw [hg]; exact (below_size (by repeat (first | (with_reducible first | exact HB.out | apply below_alloc | apply pw_below_drewN | apply below_drew1 | refine below_set ?_ GE564.out | refine below_set ?_ GE565.out) | exact HB.out))) : w.heap.size ≤ gb568)); have n5_ := Aside0.mk ((by rw [hg]; exact (below_size (by repeat (first | (with_reducible first | exact HB.out | apply below_alloc | apply pw_below_drewN | apply below_drew1 | refine below_set ?_ GE564.out | refine below_set ?_ GE565.out) | exact HB.out))) : w.heap.size ≤ gb568)); have n6_ := Aside0.mk ((by rw [hg]; exact Nat.ne_of_lt (blk_lt (g := gb564) (o := .cells #[.int .i64 t566, .int .i64 t567] 23 (0, 0)) (by (with_reducible repeat (first | refine blk_drewN ?_ _ | refine blk_drew ?_ | refine blk_alloc ?_ _)); refine blk_put (cs := #[.int .i64 t566, .int .i64 a0_1]) ?_ 1 _ rfl; (with_reducible repeat (first | refine blk_drewN ?_ _ | refine blk_drew ?_ | refine blk_alloc ?_ _)); refine blk_put (cs := #[.int .i64 a0_0, .int .i64 a0_1]) ?_ 0 _ rfl; (with_reducible repeat (first | refine blk_drewN ?_ _ | refine blk_drew ?_ | refine blk_alloc ?_ _)); exact BK564.out)) : gb564 ≠ gb568)); have n7_ := Aside0.mk ((by rw [hg]; exact Nat.ne_of_gt (blk_lt (g := gb564) (o := .cells #[.int .i64 t566, .int .i64 t567] 23 (0, 0)) (by (with_reducible repeat (first | refine blk_drewN ?_ _ | refine blk_drew ?_ | refine blk_alloc ?_ _)); refine blk_put (cs := #[.int .i64 t566, .int .i64 a0_1]) ?_ 1 _ rfl; (with_reducible repeat (first | refine blk_drewN ?_ _ | refine blk_drew ?_ | refine blk_alloc ?_ _)); refine blk_put (cs := #[.int .i64 a0_0, .int .i64 a0_1]) ?_ 0 _ rfl; (with_reducible repeat (first | refine blk_drewN ?_ _ | refine blk_drew ?_ | refine blk_alloc ?_ _)); exact BK564.out)) : gb568 ≠ gb564)); have n8_ := Aside0.mk ((by rw [hg]; exact Nat.ne_of_lt (blk_lt (g := gb565) (o := .cells #[.int .i64 0, .int .i64 0] 23 (0, 0)) (by (with_reducible repeat (first | refine blk_drewN ?_ _ | refine blk_drew ?_ | refine blk_alloc ?_ _)); refine blk_far ?_ NB565_564.out _; (with_reducible repeat (first | refine blk_drewN ?_ _ | refine blk_drew ?_ | refine blk_alloc ?_ _)); refine blk_far ?_ NB565_564.out _; (with_reducible repeat (first | refine blk_drewN ?_ _ | refine blk_drew ?_ | refine blk_alloc ?_ _)); exact BK565.out)) : gb565 ≠ gb568)); have n9_ := Aside0.mk ((by rw [hg]; exact Nat.ne_of_gt (blk_lt (g := gb565) (o := .cells #[.int .i64 0, .int .i64 0] 23 (0, 0)) (by (with_reducible repeat (first | refine blk_drewN ?_ _ | refine blk_drew ?_ | refine blk_alloc ?_ _)); refine blk_far ?_ NB565_564.out _; (with_reducible repeat (first | refine blk_drewN ?_ _ | refine blk_drew ?_ | refine blk_alloc ?_ _)); refine blk_far ?_ NB565_564.out _; (with_reducible repeat (first | refine blk_drewN ?_ _ | refine blk_drew ?_ | refine blk_alloc ?_ _)); exact BK565.out)) : gb568 ≠ gb565)); clear BK564; clear BK565; clear HB; have BK564 := n0_; have BK565 := n1_; have HB := n2_; have BK568 := n3_; have GW568 := n4_; have GE568 := n5_; have NB564_568 := n6_; have NB568_564 := n7_; have NB565_568 := n8_; have NB568_565 := n9_; clear n0_ n1_ n2_ n3_ n4_ n5_ n6_ n7_ n8_ n9_; clear hb hbox hg; have hnb25 := NB568_564.out; have hnc25 := NB564_568.out; have hnb26 := NB568_565.out; have hnc26 := NB565_568.out; have hcz27_0 : w24.cell? ⟨gb568, 0, none⟩ = some (.int .i64 0) := (blk_cell BK568.out 0).trans rfl; have hcz27_1 : w24.cell? ⟨gb568, 1, none⟩ = some (.int .i64 0) := (blk_cell BK568.out 1).trans rfl; have hfz27_0 := blk_frozen BK568.out 0; have hfz27_1 := blk_frozen BK568.out 1; have hcz28_0 : w24.cell? ⟨gb564, 0, none⟩ = some (.int .i64 t566) := (blk_cell BK564.out 0).trans rfl; have hcz28_1 : w24.cell? ⟨gb564, 1, none⟩ = some (.int .i64 t567) := (blk_cell BK564.out 1).trans rfl; have hfz28_0 := blk_frozen BK564.out 0; have hfz28_1 := blk_frozen BK564.out 1; have hcz29_0 : w24.cell? ⟨gb565, 0, none⟩ = some (.int .i64 0) := (blk_cell BK565.out 0).trans rfl; have hcz29_1 : w24.cell? ⟨gb565, 1, none⟩ = some (.int .i64 0) := (blk_cell BK565.out 1).trans rfl; have hfz29_0 := blk_frozen BK565.out 0; have hfz29_1 := blk_frozen BK565.out 1))
        refine bodyPost_ret (results_ct rfl _ _ gb565 23 #[.int .i64 0, .int .i64 0] (0, 0) _ rfl (by (with_reducible repeat (first | refine blk_drewN ?_ _ | refine blk_drew ?_ | refine blk_alloc ?_ _)); refine blk_put (cs := #[.int .i64 0, .int .i64 0]) ?_ 1 _ rfl; (with_reducible repeat (first | refine blk_drewN ?_ _ | refine blk_drew ?_ | refine blk_alloc ?_ _)); refine blk_put (cs := #[.int .i64 0, .int .i64 0]) ?_ 0 _ rfl; (with_reducible repeat (first | refine blk_drewN ?_ _ | refine blk_drew ?_ | refine blk_alloc ?_ _)); refine blk_far ?_ NB565_568.out _; (with_reducible repeat (first | refine blk_drewN ?_ _ | refine blk_drew ?_ | refine blk_alloc ?_ _)); refine blk_far ?_ NB565_568.out _; (with_reducible repeat (first | refine blk_drewN ?_ _ | refine blk_drew ?_ | refine blk_alloc ?_ _)); exact BK565.out) Tryd.underlying23 rfl (by kernel_rfl)) rfl ?_
        exact ⟨by first | rfl | (simp [errW_none, errW_some] <;> rfl) | (simp [*, errW_none, errW_some] <;> rfl), by repeat (first | (with_reducible first | exact HB.out | apply below_alloc | apply pw_below_drewN | apply below_drew1 | refine below_set ?_ GE564.out | refine below_set ?_ GE565.out | refine below_set ?_ GE568.out) | exact HB.out)⟩
      · rw [if_neg c17] at H
        have c17b0 : decide (a1 < 0) = false := decide_eq_false c17
        clear c17
        simp only [Option.some.injEq, Prod.mk.injEq] at H
        obtain ⟨rfl, rfl, rfl⟩ := H
        go_enter Tryd.func44, Tryd.ntmps44
        go_wp2_with (first | ((with_reducible refine gate_dst (N := 2) rfl ?_); refine box_event ?hg (N := 2) ?hd (cs := #[.int .i64 a0_0, .int .i64 a0_1]) (t := 23) ?hr ?_; (case hd => rfl); (case hg => rfl); (case hr => first | (go_simp; done) | (go_simp; rfl)); intro gb564 hg w30 hbox hb; have n0_ := Aside0.mk (below_step (by repeat (first | (with_reducible first | exact HB.out | apply below_alloc | apply pw_below_drewN | apply below_drew1) | exact HB.out)) hb); have n1_ := Aside0.mk (hbox); have n2_ := Aside0.mk ((by rw [hg]; exact (below_size (by repeat (first | (with_reducible first | exact HB.out | apply below_alloc | apply pw_below_drewN | apply below_drew1) | exact HB.out))) : w.heap.size ≤ gb564)); have n3_ := Aside0.mk ((by rw [hg]; exact (below_size (by repeat (first | (with_reducible first | exact HB.out | apply below_alloc | apply pw_below_drewN | apply below_drew1) | exact HB.out))) : w.heap.size ≤ gb564)); clear HB; have HB := n0_; have BK564 := n1_; have GW564 := n2_; have GE564 := n3_; clear n0_ n1_ n2_ n3_; clear hb hbox hg) | ((with_reducible refine gate_dst (N := 4) rfl ?_); refine box_event ?hg (N := 4) ?hd (cs := #[.int .i64 0, .int .i64 0]) (t := 23) ?hr ?_; (case hd => rfl); (case hg => rfl); (case hr => first | (go_simp; done) | (go_simp; rfl)); intro gb565 hg w31 hbox hb; have n0_ := Aside0.mk (blk_below (g := gb564) (o := .cells #[.int .i64 a0_0, .int .i64 a0_1] 23 (0, 0)) (by (with_reducible repeat (first | refine blk_drewN ?_ _ | refine blk_drew ?_ | refine blk_alloc ?_ _)); exact BK564.out) hb); have n1_ := Aside0.mk (below_step (by repeat (first | (with_reducible first | exact HB.out | apply below_alloc | apply pw_below_drewN | apply below_drew1 | refine below_set ?_ GE564.out) | exact HB.out)) hb); have n2_ := Aside0.mk (hbox); have n3_ := Aside0.mk ((by rw [hg]; exact (below_size (by repeat (first | (with_reducible first | exact HB.out | apply below_alloc | apply pw_below_drewN | apply below_drew1 | refine below_set ?_ GE564.out) | exact HB.out))) : w.heap.size ≤ gb565)); have n4_ := Aside0.mk ((by rw [hg]; exact (below_size (by repeat (first | (with_reducible first | exact HB.out | apply below_alloc | apply pw_below_drewN | apply below_drew1 | refine below_set ?_ GE564.out) | exact HB.out))) : w.heap.size ≤ gb565)); have n5_ := Aside0.mk ((by rw [hg]; exact Nat.ne_of_lt (blk_lt (g := gb564) (o := .cells #[.int .i64 a0_0, .int .i64 a0_1] 23 (0, 0)) (by (with_reducible repeat (first | refine blk_drewN ?_ _ | refine blk_drew ?_ | refine blk_alloc ?_ _)); exact BK564.out)) : gb564 ≠ gb565)); have n6_ := Aside0.mk ((by rw [hg]; exact Nat.ne_of_gt (blk_lt (g := gb564) (o := .cells #[.int .i64 a0_0, .int .i64 a0_1] 23 (0, 0)) (by (with_reducible repeat (first | refine blk_drewN ?_ _ | refine blk_drew ?_ | refine blk_alloc ?_ _)); exact BK564.out)) : gb565 ≠ gb564)); clear BK564; clear HB; have BK564 := n0_; have HB := n1_; have BK565 := n2_; have GW565 := n3_; have GE565 := n4_; have NB564_565 := n5_; have NB565_564 := n6_; clear n0_ n1_ n2_ n3_ n4_ n5_ n6_; clear hb hbox hg; have hnb32 := NB564_565.out; have hnc32 := NB565_564.out; have hcz33_0 : w31.cell? ⟨gb564, 0, none⟩ = some (.int .i64 a0_0) := (blk_cell BK564.out 0).trans rfl; have hcz33_1 : w31.cell? ⟨gb564, 1, none⟩ = some (.int .i64 a0_1) := (blk_cell BK564.out 1).trans rfl; have hfz33_0 := blk_frozen BK564.out 0; have hfz33_1 := blk_frozen BK564.out 1) | ((with_reducible refine gate_callee (f := 64) rfl ?_); refine goesL_ (some 13) rfl rfl Tryd.func64 (by kernel_rfl) rfl #[.agg #[.int .i64 a0_0, .int .i64 a0_1]] rfl (by (try simp only [List.map_toArray, List.map_cons, List.map_nil]); first | done | rfl | (simp only [List.length_drop, List.length_take]; rfl)) ?_; (with_reducible refine (whittleref1_Of.calls k a0_0 a0_1 t566 t567 _ A3.out).mono ?_); rintro e w34 ⟨rfl, hb⟩; refine ⟨_, rfl, ?_⟩; have n0_ := Aside0.mk (blk_below (g := gb564) (o := .cells #[.int .i64 a0_0, .int .i64 a0_1] 23 (0, 0)) (by (with_reducible repeat (first | refine blk_drewN ?_ _ | refine blk_drew ?_ | refine blk_alloc ?_ _)); exact BK564.out) hb); have n1_ := Aside0.mk (blk_below (g := gb565) (o := .cells #[.int .i64 0, .int .i64 0] 23 (0, 0)) (by (with_reducible repeat (first | refine blk_drewN ?_ _ | refine blk_drew ?_ | refine blk_alloc ?_ _)); exact BK565.out) hb); have n2_ := Aside0.mk (below_step (by repeat (first | (with_reducible first | exact HB.out | apply below_alloc | apply pw_below_drewN | apply below_drew1 | refine below_set ?_ GE564.out | refine below_set ?_ GE565.out) | exact HB.out)) hb); clear BK564; clear BK565; clear HB; have BK564 := n0_; have BK565 := n1_; have HB := n2_; clear n0_ n1_ n2_; (try clear hb); (try clear hb2); (try clear hk); (try clear hi); have hcz35_0 : w34.cell? ⟨gb564, 0, none⟩ = some (.int .i64 a0_0) := (blk_cell BK564.out 0).trans rfl; have hcz35_1 : w34.cell? ⟨gb564, 1, none⟩ = some (.int .i64 a0_1) := (blk_cell BK564.out 1).trans rfl; have hfz35_0 := blk_frozen BK564.out 0; have hfz35_1 := blk_frozen BK564.out 1) | ((with_reducible refine gate_dst (N := 6) rfl ?_); refine box_event ?hg (N := 6) ?hd (cs := #[.int .i64 0, .int .i64 0]) (t := 23) ?hr ?_; (case hd => rfl); (case hg => rfl); (case hr => first | (go_simp; done) | (go_simp; rfl)); intro gb568 hg w36 hbox hb; have n0_ := Aside0.mk (blk_below (g := gb564) (o := .cells #[.int .i64 t566, .int .i64 t567] 23 (0, 0)) (by (with_reducible repeat (first | refine blk_drewN ?_ _ | refine blk_drew ?_ | refine blk_alloc ?_ _)); refine blk_put (cs := #[.int .i64 t566, .int .i64 a0_1]) ?_ 1 _ rfl; (with_reducible repeat (first | refine blk_drewN ?_ _ | refine blk_drew ?_ | refine blk_alloc ?_ _)); refine blk_put (cs := #[.int .i64 a0_0, .int .i64 a0_1]) ?_ 0 _ rfl; (with_reducible repeat (first | refine blk_drewN ?_ _ | refine blk_drew ?_ | refine blk_alloc ?_ _)); exact BK564.out) hb); have n1_ := Aside0.mk (blk_below (g := gb565) (o := .cells #[.int .i64 0, .int .i64 0] 23 (0, 0)) (by (with_reducible repeat (first | refine blk_drewN ?_ _ | refine blk_drew ?_ | refine blk_alloc ?_ _)); refine blk_far ?_ NB565_564.out _; (with_reducible repeat (first | refine blk_drewN ?_ _ | refine blk_drew ?_ | refine blk_alloc ?_ _)); refine blk_far ?_ NB565_564.out _; (with_reducible repeat (first | refine blk_drewN ?_ _ | refine blk_drew ?_ | refine blk_alloc ?_ _)); exact BK565.out) hb); have n2_ := Aside0.mk (below_step (by repeat (first | (with_reducible first | exact HB.out | apply below_alloc | apply pw_below_drewN | apply below_drew1 | refine below_set ?_ GE564.out | refine below_set ?_ GE565.out) | exact HB.out)) hb); have n3_ := Aside0.mk (hbox); have n4_ := Aside0.mk ((by rw [hg]; exact (below_size (by repeat (first | (with_reducible first | exact HB.out | apply below_alloc | apply pw_below_drewN | apply below_drew1 | refine below_set ?_ GE564.out | refine below_set ?_ GE565.out) | exact HB.out))) : w.heap.size ≤ gb568)); have n5_ := Aside0.mk ((by rw [hg]; exact (below_size (by repeat (first | (with_reducible first | exact HB.out | apply below_alloc | apply pw_below_drewN | apply below_drew1 | refine below_set ?_ GE564.out | refine below_set ?_ GE565.out) | exact HB.out))) : w.heap.size ≤ gb568)); have n6_ := Aside0.mk ((by rw [hg]; exact Nat.ne_of_lt (blk_lt (g := gb564) (o := .cells #[.int .i64 t566, .int .i64 t567] 23 (0, 0)) (by (with_reducible repeat (first | refine blk_drewN ?_ _ | refine blk_drew ?_ | refine blk_alloc ?_ _)); refine blk_put (cs := #[.int .i64 t566, .int .i64 a0_1]) ?_ 1 _ rfl; (with_reducible repeat (first | refine blk_drewN ?_ _ | refine blk_drew ?_ | refine blk_alloc ?_ _)); refine blk_put (cs := #[.int .i64 a0_0, .int .i64 a0_1]) ?_ 0 _ rfl; (with_reducible repeat (first | refine blk_drewN ?_ _ | refine blk_drew ?_ | refine blk_alloc ?_ _)); exact BK564.out)) : gb564 ≠ gb568)); have n7_ := Aside0.mk ((by rw [hg]; exact Nat.ne_of_gt (blk_lt (g := gb564) (o := .cells #[.int .i64 t566, .int .i64 t567] 23 (0, 0)) (by (with_reducible repeat (first | refine blk_drewN ?_ _ | refine blk_drew ?_ | refine blk_alloc ?_ _)); refine blk_put (cs := #[.int .i64 t566, .int .i64 a0_1]) ?_ 1 _ rfl; (with_reducible repeat (first | refine blk_drewN ?_ _ | refine blk_drew ?_ | refine blk_alloc ?_ _)); refine blk_put (cs := #[.int .i64 a0_0, .int .i64 a0_1]) ?_ 0 _ rfl; (with_reducible repeat (first | refine blk_drewN ?_ _ | refine blk_drew ?_ | refine blk_alloc ?_ _)); exact BK564.out)) : gb568 ≠ gb564)); have n8_ := Aside0.mk ((by rw [hg]; exact Nat.ne_of_lt (blk_lt (g := gb565) (o := .cells #[.int .i64 0, .int .i64 0] 23 (0, 0)) (by (with_reducible repeat (first | refine blk_drewN ?_ _ | refine blk_drew ?_ | refine blk_alloc ?_ _)); refine blk_far ?_ NB565_564.out _; (with_reducible repeat (first | refine blk_drewN ?_ _ | refine blk_drew ?_ | refine blk_alloc ?_ _)); refine blk_far ?_ NB565_564.out _; (with_reducible repeat (first | refine blk_drewN ?_ _ | refine blk_drew ?_ | refine blk_alloc ?_ _)); exact BK565.out)) : gb565 ≠ gb568)); have n9_ := Aside0.mk ((by rw [hg]; exact Nat.ne_of_gt (blk_lt (g := gb565) (o := .cells #[.int .i64 0, .int .i64 0] 23 (0, 0)) (by (with_reducible repeat (first | refine blk_drewN ?_ _ | refine blk_drew ?_ | refine blk_alloc ?_ _)); refine blk_far ?_ NB565_564.out _; (with_reducible repeat (first | refine blk_drewN ?_ _ | refine blk_drew ?_ | refine blk_alloc ?_ _)); refine blk_far ?_ NB565_564.out _; (with_reducible repeat (first | refine blk_drewN ?_ _ | refine blk_drew ?_ | refine blk_alloc ?_ _)); exact BK565.out)) : gb568 ≠ gb565)); clear BK564; clear BK565; clear HB; have BK564 := n0_; have BK565 := n1_; have HB := n2_; have BK568 := n3_; have GW568 := n4_; have GE568 := n5_; have NB564_568 := n6_; have NB568_564 := n7_; have NB565_568 := n8_; have NB568_565 := n9_; clear n0_ n1_ n2_ n3_ n4_ n5_ n6_ n7_ n8_ n9_; clear hb hbox hg; have hnb37 := NB568_564.out; have hnc37 := NB564_568.out; have hnb38 := NB568_565.out; have hnc38 := NB565_568.out; have hcz39_0 : w36.cell? ⟨gb568, 0, none⟩ = some (.int .i64 0) := (blk_cell BK568.out 0).trans rfl; have hcz39_1 : w36.cell? ⟨gb568, 1, none⟩ = some (.int .i64 0) := (blk_cell BK568.out 1).trans rfl; have hfz39_0 := blk_frozen BK568.out 0; have hfz39_1 := blk_frozen BK568.out 1; have hcz40_0 : w36.cell? ⟨gb564, 0, none⟩ = some (.int .i64 t566) := (blk_cell BK564.out 0).trans rfl; have hcz40_1 : w36.cell? ⟨gb564, 1, none⟩ = some (.int .i64 t567) := (blk_cell BK564.out 1).trans rfl; have hfz40_0 := blk_frozen BK564.out 0; have hfz40_1 := blk_frozen BK564.out 1; have hcz41_0 : w36.cell? ⟨gb565, 0, none⟩ = some (.int .i64 0) := (blk_cell BK565.out 0).trans rfl; have hcz41_1 : w36.cell? ⟨gb565, 1, none⟩ = some (.int .i64 0) := (blk_cell BK565.out 1).trans rfl; have hfz41_0 := blk_frozen BK565.out 0; have hfz41_1 := blk_frozen BK565.out 1))
        refine bodyPost_ret (results_ct rfl _ _ gb565 23 #[.int .i64 t566, .int .i64 t567] (0, 0) _ rfl (by (with_reducible repeat (first | refine blk_drewN ?_ _ | refine blk_drew ?_ | refine blk_alloc ?_ _)); refine blk_put (cs := #[.int .i64 t566, .int .i64 0]) ?_ 1 _ rfl; (with_reducible repeat (first | refine blk_drewN ?_ _ | refine blk_drew ?_ | refine blk_alloc ?_ _)); refine blk_put (cs := #[.int .i64 0, .int .i64 0]) ?_ 0 _ rfl; (with_reducible repeat (first | refine blk_drewN ?_ _ | refine blk_drew ?_ | refine blk_alloc ?_ _)); refine blk_far ?_ NB565_568.out _; (with_reducible repeat (first | refine blk_drewN ?_ _ | refine blk_drew ?_ | refine blk_alloc ?_ _)); refine blk_far ?_ NB565_568.out _; (with_reducible repeat (first | refine blk_drewN ?_ _ | refine blk_drew ?_ | refine blk_alloc ?_ _)); exact BK565.out) Tryd.underlying23 rfl (by kernel_rfl)) rfl ?_
        exact ⟨by first | rfl | (simp [errW_none, errW_some] <;> rfl) | (simp [*, errW_none, errW_some] <;> rfl), by repeat (first | (with_reducible first | exact HB.out | apply below_alloc | apply pw_below_drewN | apply below_drew1 | refine below_set ?_ GE564.out | refine below_set ?_ GE565.out | refine below_set ?_ GE568.out) | exact HB.out)⟩
    · rw [if_neg c16] at H
      have c16b0 : (t566 == 0) = false := beq_eq_false_iff_ne.mpr c16
      have c16b1 : (t566 != 0) = true := bne_iff_ne.mpr c16
      have HC42 := Aside0.mk H
      clear H
      go_enter Tryd.func44, Tryd.ntmps44
      go_upto_region 9 with (first | ((with_reducible refine gate_dst (N := 2) rfl ?_); refine box_event ?hg (N := 2) ?hd (cs := #[.int .i64 a0_0, .int .i64 a0_1]) (t := 23) ?hr ?_; (case hd => rfl); (case hg => rfl); (case hr => first | (go_simp; done) | (go_simp; rfl)); intro gb564 hg w43 hbox hb; have n0_ := Aside0.mk (below_step (by repeat (first | (with_reducible first | exact HB.out | apply below_alloc | apply pw_below_drewN | apply below_drew1) | exact HB.out)) hb); have n1_ := Aside0.mk (hbox); have n2_ := Aside0.mk ((by rw [hg]; exact (below_size (by repeat (first | (with_reducible first | exact HB.out | apply below_alloc | apply pw_below_drewN | apply below_drew1) | exact HB.out))) : w.heap.size ≤ gb564)); have n3_ := Aside0.mk ((by rw [hg]; exact (below_size (by repeat (first | (with_reducible first | exact HB.out | apply below_alloc | apply pw_below_drewN | apply below_drew1) | exact HB.out))) : w.heap.size ≤ gb564)); clear HB; have HB := n0_; have BK564 := n1_; have GW564 := n2_; have GE564 := n3_; clear n0_ n1_ n2_ n3_; clear hb hbox hg) | ((with_reducible refine gate_dst (N := 4) rfl ?_); refine box_event ?hg (N := 4) ?hd (cs := #[.int .i64 0, .int .i64 0]) (t := 23) ?hr ?_; (case hd => rfl); (case hg => rfl); (case hr => first | (go_simp; done) | (go_simp; rfl)); intro gb565 hg w44 hbox hb; have n0_ := Aside0.mk (blk_below (g := gb564) (o := .cells #[.int .i64 a0_0, .int .i64 a0_1] 23 (0, 0)) (by (with_reducible repeat (first | refine blk_drewN ?_ _ | refine blk_drew ?_ | refine blk_alloc ?_ _)); exact BK564.out) hb); have n1_ := Aside0.mk (below_step (by repeat (first | (with_reducible first | exact HB.out | apply below_alloc | apply pw_below_drewN | apply below_drew1 | refine below_set ?_ GE564.out) | exact HB.out)) hb); have n2_ := Aside0.mk (hbox); have n3_ := Aside0.mk ((by rw [hg]; exact (below_size (by repeat (first | (with_reducible first | exact HB.out | apply below_alloc | apply pw_below_drewN | apply below_drew1 | refine below_set ?_ GE564.out) | exact HB.out))) : w.heap.size ≤ gb565)); have n4_ := Aside0.mk ((by rw [hg]; exact (below_size (by repeat (first | (with_reducible first | exact HB.out | apply below_alloc | apply pw_below_drewN | apply below_drew1 | refine below_set ?_ GE564.out) | exact HB.out))) : w.heap.size ≤ gb565)); have n5_ := Aside0.mk ((by rw [hg]; exact Nat.ne_of_lt (blk_lt (g := gb564) (o := .cells #[.int .i64 a0_0, .int .i64 a0_1] 23 (0, 0)) (by (with_reducible repeat (first | refine blk_drewN ?_ _ | refine blk_drew ?_ | refine blk_alloc ?_ _)); exact BK564.out)) : gb564 ≠ gb565)); have n6_ := Aside0.mk ((by rw [hg]; exact Nat.ne_of_gt (blk_lt (g := gb564) (o := .cells #[.int .i64 a0_0, .int .i64 a0_1] 23 (0, 0)) (by (with_reducible repeat (first | refine blk_drewN ?_ _ | refine blk_drew ?_ | refine blk_alloc ?_ _)); exact BK564.out)) : gb565 ≠ gb564)); clear BK564; clear HB; have BK564 := n0_; have HB := n1_; have BK565 := n2_; have GW565 := n3_; have GE565 := n4_; have NB564_565 := n5_; have NB565_564 := n6_; clear n0_ n1_ n2_ n3_ n4_ n5_ n6_; clear hb hbox hg; have hnb45 := NB564_565.out; have hnc45 := NB565_564.out; have hcz46_0 : w44.cell? ⟨gb564, 0, none⟩ = some (.int .i64 a0_0) := (blk_cell BK564.out 0).trans rfl; have hcz46_1 : w44.cell? ⟨gb564, 1, none⟩ = some (.int .i64 a0_1) := (blk_cell BK564.out 1).trans rfl; have hfz46_0 := blk_frozen BK564.out 0; have hfz46_1 := blk_frozen BK564.out 1) | ((with_reducible refine gate_callee (f := 64) rfl ?_); refine goesL_ (some 13) rfl rfl Tryd.func64 (by kernel_rfl) rfl #[.agg #[.int .i64 a0_0, .int .i64 a0_1]] rfl (by (try simp only [List.map_toArray, List.map_cons, List.map_nil]); first | done | rfl | (simp only [List.length_drop, List.length_take]; rfl)) ?_; (with_reducible refine (whittleref1_Of.calls k a0_0 a0_1 t566 t567 _ A3.out).mono ?_); rintro e w47 ⟨rfl, hb⟩; refine ⟨_, rfl, ?_⟩; have n0_ := Aside0.mk (blk_below (g := gb564) (o := .cells #[.int .i64 a0_0, .int .i64 a0_1] 23 (0, 0)) (by (with_reducible repeat (first | refine blk_drewN ?_ _ | refine blk_drew ?_ | refine blk_alloc ?_ _)); exact BK564.out) hb); have n1_ := Aside0.mk (blk_below (g := gb565) (o := .cells #[.int .i64 0, .int .i64 0] 23 (0, 0)) (by (with_reducible repeat (first | refine blk_drewN ?_ _ | refine blk_drew ?_ | refine blk_alloc ?_ _)); exact BK565.out) hb); have n2_ := Aside0.mk (below_step (by repeat (first | (with_reducible first | exact HB.out | apply below_alloc | apply pw_below_drewN | apply below_drew1 | refine below_set ?_ GE564.out | refine below_set ?_ GE565.out) | exact HB.out)) hb); clear BK564; clear BK565; clear HB; have BK564 := n0_; have BK565 := n1_; have HB := n2_; clear n0_ n1_ n2_; (try clear hb); (try clear hb2); (try clear hk); (try clear hi); have hcz48_0 : w47.cell? ⟨gb564, 0, none⟩ = some (.int .i64 a0_0) := (blk_cell BK564.out 0).trans rfl; have hcz48_1 : w47.cell? ⟨gb564, 1, none⟩ = some (.int .i64 a0_1) := (blk_cell BK564.out 1).trans rfl; have hfz48_0 := blk_frozen BK564.out 0; have hfz48_1 := blk_frozen BK564.out 1) | ((with_reducible refine gate_dst (N := 6) rfl ?_); refine box_event ?hg (N := 6) ?hd (cs := #[.int .i64 0, .int .i64 0]) (t := 23) ?hr ?_; (case hd => rfl); (case hg => rfl); (case hr => first | (go_simp; done) | (go_simp; rfl)); intro gb568 hg w49 hbox hb; have n0_ := Aside0.mk (blk_below (g := gb564) (o := .cells #[.int .i64 t566, .int .i64 t567] 23 (0, 0)) (by (with_reducible repeat (first | refine blk_drewN ?_ _ | refine blk_drew ?_ | refine blk_alloc ?_ _)); refine blk_put (cs := #[.int .i64 t566, .int .i64 a0_1]) ?_ 1 _ rfl; (with_reducible repeat (first | refine blk_drewN ?_ _ | refine blk_drew ?_ | refine blk_alloc ?_ _)); refine blk_put (cs := #[.int .i64 a0_0, .int .i64 a0_1]) ?_ 0 _ rfl; (with_reducible repeat (first | refine blk_drewN ?_ _ | refine blk_drew ?_ | refine blk_alloc ?_ _)); exact BK564.out) hb); have n1_ := Aside0.mk (blk_below (g := gb565) (o := .cells #[.int .i64 0, .int .i64 0] 23 (0, 0)) (by (with_reducible repeat (first | refine blk_drewN ?_ _ | refine blk_drew ?_ | refine blk_alloc ?_ _)); refine blk_far ?_ NB565_564.out _; (with_reducible repeat (first | refine blk_drewN ?_ _ | refine blk_drew ?_ | refine blk_alloc ?_ _)); refine blk_far ?_ NB565_564.out _; (with_reducible repeat (first | refine blk_drewN ?_ _ | refine blk_drew ?_ | refine blk_alloc ?_ _)); exact BK565.out) hb); have n2_ := Aside0.mk (below_step (by repeat (first | (with_reducible first | exact HB.out | apply below_alloc | apply pw_below_drewN | apply below_drew1 | refine below_set ?_ GE564.out | refine below_set ?_ GE565.out) | exact HB.out)) hb); have n3_ := Aside0.mk (hbox); have n4_ := Aside0.mk ((by rw [hg]; exact (below_size (by repeat (first | (with_reducible first | exact HB.out | apply below_alloc | apply pw_below_drewN | apply below_drew1 | refine below_set ?_ GE564.out | refine below_set ?_ GE565.out) | exact HB.out))) : w.heap.size ≤ gb568)); have n5_ := Aside0.mk ((by rw [hg]; exact (below_size (by repeat (first | (with_reducible first | exact HB.out | apply below_alloc | apply pw_below_drewN | apply below_drew1 | refine below_set ?_ GE564.out | refine below_set ?_ GE565.out) | exact HB.out))) : w.heap.size ≤ gb568)); have n6_ := Aside0.mk ((by rw [hg]; exact Nat.ne_of_lt (blk_lt (g := gb564) (o := .cells #[.int .i64 t566, .int .i64 t567] 23 (0, 0)) (by (with_reducible repeat (first | refine blk_drewN ?_ _ | refine blk_drew ?_ | refine blk_alloc ?_ _)); refine blk_put (cs := #[.int .i64 t566, .int .i64 a0_1]) ?_ 1 _ rfl; (with_reducible repeat (first | refine blk_drewN ?_ _ | refine blk_drew ?_ | refine blk_alloc ?_ _)); refine blk_put (cs := #[.int .i64 a0_0, .int .i64 a0_1]) ?_ 0 _ rfl; (with_reducible repeat (first | refine blk_drewN ?_ _ | refine blk_drew ?_ | refine blk_alloc ?_ _)); exact BK564.out)) : gb564 ≠ gb568)); have n7_ := Aside0.mk ((by rw [hg]; exact Nat.ne_of_gt (blk_lt (g := gb564) (o := .cells #[.int .i64 t566, .int .i64 t567] 23 (0, 0)) (by (with_reducible repeat (first | refine blk_drewN ?_ _ | refine blk_drew ?_ | refine blk_alloc ?_ _)); refine blk_put (cs := #[.int .i64 t566, .int .i64 a0_1]) ?_ 1 _ rfl; (with_reducible repeat (first | refine blk_drewN ?_ _ | refine blk_drew ?_ | refine blk_alloc ?_ _)); refine blk_put (cs := #[.int .i64 a0_0, .int .i64 a0_1]) ?_ 0 _ rfl; (with_reducible repeat (first | refine blk_drewN ?_ _ | refine blk_drew ?_ | refine blk_alloc ?_ _)); exact BK564.out)) : gb568 ≠ gb564)); have n8_ := Aside0.mk ((by rw [hg]; exact Nat.ne_of_lt (blk_lt (g := gb565) (o := .cells #[.int .i64 0, .int .i64 0] 23 (0, 0)) (by (with_reducible repeat (first | refine blk_drewN ?_ _ | refine blk_drew ?_ | refine blk_alloc ?_ _)); refine blk_far ?_ NB565_564.out _; (with_reducible repeat (first | refine blk_drewN ?_ _ | refine blk_drew ?_ | refine blk_alloc ?_ _)); refine blk_far ?_ NB565_564.out _; (with_reducible repeat (first | refine blk_drewN ?_ _ | refine blk_drew ?_ | refine blk_alloc ?_ _)); exact BK565.out)) : gb565 ≠ gb568)); have n9_ := Aside0.mk ((by rw [hg]; exact Nat.ne_of_gt (blk_lt (g := gb565) (o := .cells #[.int .i64 0, .int .i64 0] 23 (0, 0)) (by (with_reducible repeat (first | refine blk_drewN ?_ _ | refine blk_drew ?_ | refine blk_alloc ?_ _)); refine blk_far ?_ NB565_564.out _; (with_reducible repeat (first | refine blk_drewN ?_ _ | refine blk_drew ?_ | refine blk_alloc ?_ _)); refine blk_far ?_ NB565_564.out _; (with_reducible repeat (first | refine blk_drewN ?_ _ | refine blk_drew ?_ | refine blk_alloc ?_ _)); exact BK565.out)) : gb568 ≠ gb565)); clear BK564; clear BK565; clear HB; have BK564 := n0_; have BK565 := n1_; have HB := n2_; have BK568 := n3_; have GW568 := n4_; have GE568 := n5_; have NB564_568 := n6_; have NB568_564 := n7_; have NB565_568 := n8_; have NB568_565 := n9_; clear n0_ n1_ n2_ n3_ n4_ n5_ n6_ n7_ n8_ n9_; clear hb hbox hg; have hnb50 := NB568_564.out; have hnc50 := NB564_568.out; have hnb51 := NB568_565.out; have hnc51 := NB565_568.out; have hcz52_0 : w49.cell? ⟨gb568, 0, none⟩ = some (.int .i64 0) := (blk_cell BK568.out 0).trans rfl; have hcz52_1 : w49.cell? ⟨gb568, 1, none⟩ = some (.int .i64 0) := (blk_cell BK568.out 1).trans rfl; have hfz52_0 := blk_frozen BK568.out 0; have hfz52_1 := blk_frozen BK568.out 1; have hcz53_0 : w49.cell? ⟨gb564, 0, none⟩ = some (.int .i64 t566) := (blk_cell BK564.out 0).trans rfl; have hcz53_1 : w49.cell? ⟨gb564, 1, none⟩ = some (.int .i64 t567) := (blk_cell BK564.out 1).trans rfl; have hfz53_0 := blk_frozen BK564.out 0; have hfz53_1 := blk_frozen BK564.out 1))
      (try simp only [Act.put, List.setIfInBounds_toArray, List.set_cons_zero, List.set_cons_succ])
      go_cut [37] (fun v37 wc => ∃ (kq : Nat) (x37_41 : Bool), v37 = .bool x37_41 ∧ Aside0 (whittleref1_Pow.j0 kq a1 x37_41 t566 t567 1 1 = some (r1, r2, r3)) ∧ Aside0 (kq ≤ k) ∧ Aside0 (wc.heap[gb564]? = some (.cells #[.int .i64 t566, .int .i64 t567] 23 (0, 0))) ∧ Aside0 (wc.heap[gb565]? = some (.cells #[.int .i64 0, .int .i64 0] 23 (0, 0))) ∧ Aside0 (wc.heap[gb568]? = some (.cells #[.int .i64 1, .int .i64 1] 23 (0, 0))) ∧ Aside0 (Below w.heap.size w wc))
      case first =>
        have H := HC42.out
        clear HC42
        by_cases c54 : t567 = 1
        · rw [if_pos c54] at H
          have c54b0 : (t567 == 1) = true := beq_iff_eq.mpr c54
          have c54b1 : (t567 != 1) = false := bne_eq_false_iff_eq.mpr c54
          clear c54
          (first | rw [c54b0] | (simp only [i64_w, i32_w]; rw [c54b0]) | skip)
          by_cases c55 : t566 = 1
          · rw [if_pos c55] at H
            have c55b0 : (t566 == 1) = true := beq_iff_eq.mpr c55
            have c55b1 : (t566 != 1) = false := bne_eq_false_iff_eq.mpr c55
            clear c55
            have H' := Aside0.mk H
            clear H
            have hnb56 := NB564_565.out
            have hnc56 := NB565_564.out
            have hnb57 := NB564_568.out
            have hnc57 := NB568_564.out
            have hcz58_0 : w49.cell? ⟨gb564, 0, none⟩ = some (.int .i64 t566) := (blk_cell BK564.out 0).trans rfl
            have hcz58_1 : w49.cell? ⟨gb564, 1, none⟩ = some (.int .i64 t567) := (blk_cell BK564.out 1).trans rfl
            have hfz58_0 := blk_frozen BK564.out 0
            have hfz58_1 := blk_frozen BK564.out 1
            go_wp2
            go_meet
            case rel => exact ⟨_, (true), (by first | rfl | (simp; done) | (simp [*]; done) | (simp [bne_nil]; done)), H', ⟨by first | omega | exact Nat.le_refl _⟩, ⟨by (with_reducible repeat (first | refine blk_drewN ?_ _ | refine blk_drew ?_ | refine blk_alloc ?_ _)); refine blk_far ?_ NB564_568.out _; (with_reducible repeat (first | refine blk_drewN ?_ _ | refine blk_drew ?_ | refine blk_alloc ?_ _)); refine blk_far ?_ NB564_568.out _; (with_reducible repeat (first | refine blk_drewN ?_ _ | refine blk_drew ?_ | refine blk_alloc ?_ _)); exact BK564.out⟩, ⟨by (with_reducible repeat (first | refine blk_drewN ?_ _ | refine blk_drew ?_ | refine blk_alloc ?_ _)); refine blk_far ?_ NB565_568.out _; (with_reducible repeat (first | refine blk_drewN ?_ _ | refine blk_drew ?_ | refine blk_alloc ?_ _)); refine blk_far ?_ NB565_568.out _; (with_reducible repeat (first | refine blk_drewN ?_ _ | refine blk_drew ?_ | refine blk_alloc ?_ _)); exact BK565.out⟩, ⟨by (with_reducible repeat (first | refine blk_drewN ?_ _ | refine blk_drew ?_ | refine blk_alloc ?_ _)); refine blk_put (cs := #[.int .i64 1, .int .i64 0]) ?_ 1 _ rfl; (with_reducible repeat (first | refine blk_drewN ?_ _ | refine blk_drew ?_ | refine blk_alloc ?_ _)); refine blk_put (cs := #[.int .i64 0, .int .i64 0]) ?_ 0 _ rfl; (with_reducible repeat (first | refine blk_drewN ?_ _ | refine blk_drew ?_ | refine blk_alloc ?_ _)); exact BK568.out⟩, ⟨by repeat (first | (with_reducible first | exact HB.out | apply below_alloc | apply pw_below_drewN | apply below_drew1 | refine below_set ?_ GE564.out | refine below_set ?_ GE565.out | refine below_set ?_ GE568.out) | exact HB.out)⟩⟩
          · rw [if_neg c55] at H
            have c55b0 : (t566 == 1) = false := beq_eq_false_iff_ne.mpr c55
            have c55b1 : (t566 != 1) = true := bne_iff_ne.mpr c55
            have H' := Aside0.mk H
            clear H
            have hnb59 := NB564_565.out
            have hnc59 := NB565_564.out
            have hnb60 := NB564_568.out
            have hnc60 := NB568_564.out
            have hcz61_0 : w49.cell? ⟨gb564, 0, none⟩ = some (.int .i64 t566) := (blk_cell BK564.out 0).trans rfl
            have hcz61_1 : w49.cell? ⟨gb564, 1, none⟩ = some (.int .i64 t567) := (blk_cell BK564.out 1).trans rfl
            have hfz61_0 := blk_frozen BK564.out 0
            have hfz61_1 := blk_frozen BK564.out 1
            go_wp2
            go_meet
            case rel => exact ⟨_, ((t566 == (-1))), (by first | rfl | (simp; done) | (simp [*]; done) | (simp [bne_nil]; done)), H', ⟨by first | omega | exact Nat.le_refl _⟩, ⟨by (with_reducible repeat (first | refine blk_drewN ?_ _ | refine blk_drew ?_ | refine blk_alloc ?_ _)); refine blk_far ?_ NB564_568.out _; (with_reducible repeat (first | refine blk_drewN ?_ _ | refine blk_drew ?_ | refine blk_alloc ?_ _)); refine blk_far ?_ NB564_568.out _; (with_reducible repeat (first | refine blk_drewN ?_ _ | refine blk_drew ?_ | refine blk_alloc ?_ _)); exact BK564.out⟩, ⟨by (with_reducible repeat (first | refine blk_drewN ?_ _ | refine blk_drew ?_ | refine blk_alloc ?_ _)); refine blk_far ?_ NB565_568.out _; (with_reducible repeat (first | refine blk_drewN ?_ _ | refine blk_drew ?_ | refine blk_alloc ?_ _)); refine blk_far ?_ NB565_568.out _; (with_reducible repeat (first | refine blk_drewN ?_ _ | refine blk_drew ?_ | refine blk_alloc ?_ _)); exact BK565.out⟩, ⟨by (with_reducible repeat (first | refine blk_drewN ?_ _ | refine blk_drew ?_ | refine blk_alloc ?_ _)); refine blk_put (cs := #[.int .i64 1, .int .i64 0]) ?_ 1 _ rfl; (with_reducible repeat (first | refine blk_drewN ?_ _ | refine blk_drew ?_ | refine blk_alloc ?_ _)); refine blk_put (cs := #[.int .i64 0, .int .i64 0]) ?_ 0 _ rfl; (with_reducible repeat (first | refine blk_drewN ?_ _ | refine blk_drew ?_ | refine blk_alloc ?_ _)); exact BK568.out⟩, ⟨by repeat (first | (with_reducible first | exact HB.out | apply below_alloc | apply pw_below_drewN | apply below_drew1 | refine below_set ?_ GE564.out | refine below_set ?_ GE565.out | refine below_set ?_ GE568.out) | exact HB.out)⟩⟩
        · rw [if_neg c54] at H
          have c54b0 : (t567 == 1) = false := beq_eq_false_iff_ne.mpr c54
          have c54b1 : (t567 != 1) = true := bne_iff_ne.mpr c54
          (first | rw [c54b0] | (simp only [i64_w, i32_w]; rw [c54b0]) | skip)
          have H' := Aside0.mk H
          clear H
          have hnb62 := NB564_565.out
          have hnc62 := NB565_564.out
          have hnb63 := NB564_568.out
          have hnc63 := NB568_564.out
          have hcz64_0 : w49.cell? ⟨gb564, 0, none⟩ = some (.int .i64 t566) := (blk_cell BK564.out 0).trans rfl
          have hcz64_1 : w49.cell? ⟨gb564, 1, none⟩ = some (.int .i64 t567) := (blk_cell BK564.out 1).trans rfl
          have hfz64_0 := blk_frozen BK564.out 0
          have hfz64_1 := blk_frozen BK564.out 1
          go_wp2
          go_meet
          case rel => exact ⟨_, (false), (by first | rfl | (simp; done) | (simp [*]; done) | (simp [bne_nil]; done)), H', ⟨by first | omega | exact Nat.le_refl _⟩, ⟨by (with_reducible repeat (first | refine blk_drewN ?_ _ | refine blk_drew ?_ | refine blk_alloc ?_ _)); refine blk_far ?_ NB564_568.out _; (with_reducible repeat (first | refine blk_drewN ?_ _ | refine blk_drew ?_ | refine blk_alloc ?_ _)); refine blk_far ?_ NB564_568.out _; (with_reducible repeat (first | refine blk_drewN ?_ _ | refine blk_drew ?_ | refine blk_alloc ?_ _)); exact BK564.out⟩, ⟨by (with_reducible repeat (first | refine blk_drewN ?_ _ | refine blk_drew ?_ | refine blk_alloc ?_ _)); refine blk_far ?_ NB565_568.out _; (with_reducible repeat (first | refine blk_drewN ?_ _ | refine blk_drew ?_ | refine blk_alloc ?_ _)); refine blk_far ?_ NB565_568.out _; (with_reducible repeat (first | refine blk_drewN ?_ _ | refine blk_drew ?_ | refine blk_alloc ?_ _)); exact BK565.out⟩, ⟨by (with_reducible repeat (first | refine blk_drewN ?_ _ | refine blk_drew ?_ | refine blk_alloc ?_ _)); refine blk_put (cs := #[.int .i64 1, .int .i64 0]) ?_ 1 _ rfl; (with_reducible repeat (first | refine blk_drewN ?_ _ | refine blk_drew ?_ | refine blk_alloc ?_ _)); refine blk_put (cs := #[.int .i64 0, .int .i64 0]) ?_ 0 _ rfl; (with_reducible repeat (first | refine blk_drewN ?_ _ | refine blk_drew ?_ | refine blk_alloc ?_ _)); exact BK568.out⟩, ⟨by repeat (first | (with_reducible first | exact HB.out | apply below_alloc | apply pw_below_drewN | apply below_drew1 | refine below_set ?_ GE564.out | refine below_set ?_ GE565.out | refine below_set ?_ GE568.out) | exact HB.out)⟩⟩
      case rest =>
        clear HC42
        try clear c1
        try clear c2
        try clear p2
        try clear c3
        try clear c4
        try clear c4b0
        try clear c4b1
        try clear c5
        try clear c6
        try clear c7
        try clear c12
        try clear c13
        try clear c16
        try clear c16b0
        try clear c16b1
        try clear c17
        try clear c17b0
        try clear c20
        try clear c25
        try clear c26
        try clear c32
        try clear c37
        try clear c38
        try clear c44
        try clear c45
        try clear c50
        try clear c51
        try clear c54
        try clear c54b0
        try clear c54b1
        try clear c55
        try clear c55b0
        try clear c55b1
        try clear c56
        try clear c57
        try clear c59
        try clear c60
        try clear c62
        try clear c63
        try clear c64
        try clear hcz10_0
        try clear hcz10_1
        try clear hcz14_0
        try clear hcz14_1
        try clear hcz15_0
        try clear hcz15_1
        try clear hcz21_0
        try clear hcz21_1
        try clear hcz23_0
        try clear hcz23_1
        try clear hcz27_0
        try clear hcz27_1
        try clear hcz28_0
        try clear hcz28_1
        try clear hcz29_0
        try clear hcz29_1
        try clear hcz33_0
        try clear hcz33_1
        try clear hcz35_0
        try clear hcz35_1
        try clear hcz39_0
        try clear hcz39_1
        try clear hcz40_0
        try clear hcz40_1
        try clear hcz41_0
        try clear hcz41_1
        try clear hcz46_0
        try clear hcz46_1
        try clear hcz48_0
        try clear hcz48_1
        try clear hcz52_0
        try clear hcz52_1
        try clear hcz53_0
        try clear hcz53_1
        try clear hcz58_0
        try clear hcz58_1
        try clear hcz61_0
        try clear hcz61_1
        try clear hcz64_0
        try clear hcz64_1
        try clear hcz8_0
        try clear hcz8_1
        try clear hfz10_0
        try clear hfz10_1
        try clear hfz14_0
        try clear hfz14_1
        try clear hfz15_0
        try clear hfz15_1
        try clear hfz21_0
        try clear hfz21_1
        try clear hfz23_0
        try clear hfz23_1
        try clear hfz27_0
        try clear hfz27_1
        try clear hfz28_0
        try clear hfz28_1
        try clear hfz29_0
        try clear hfz29_1
        try clear hfz33_0
        try clear hfz33_1
        try clear hfz35_0
        try clear hfz35_1
        try clear hfz39_0
        try clear hfz39_1
        try clear hfz40_0
        try clear hfz40_1
        try clear hfz41_0
        try clear hfz41_1
        try clear hfz46_0
        try clear hfz46_1
        try clear hfz48_0
        try clear hfz48_1
        try clear hfz52_0
        try clear hfz52_1
        try clear hfz53_0
        try clear hfz53_1
        try clear hfz58_0
        try clear hfz58_1
        try clear hfz61_0
        try clear hfz61_1
        try clear hfz64_0
        try clear hfz64_1
        try clear hfz8_0
        try clear hfz8_1
        obtain ⟨kq, x37_41, rfl, HA, HJ41, BK564, BK565, BK568, HB⟩ := hcut
        cases kq with
        | zero => exact absurd HA.out (by simp [whittleref1_Pow.j0])
        | succ kj41 =>
          have H := HA.out
          clear HA
          simp only [whittleref1_Pow.j0] at H
          by_cases c65 : x37_41 = true
          · subst c65
            have H1 : (if t566 = (-1) then (if (Int.tmod a1 2) = 0 then (some (1, 1, true)) else (some (t566, t567, true))) else (some (1, 1, true))) = some (r1, r2, r3) := by rw [if_pos rfl] at H; exact H
            clear H
            have H := H1
            clear H1
            by_cases c66 : t566 = (-1)
            · rw [if_pos c66] at H
              have c66b0 : (t566 == (-1)) = true := beq_iff_eq.mpr c66
              have c66b1 : (t566 != (-1)) = false := bne_eq_false_iff_eq.mpr c66
              clear c66
              by_cases c67 : (Int.tmod a1 2) = 0
              · rw [if_pos c67] at H
                have c67b0 : ((Int.tmod a1 2) == 0) = true := beq_iff_eq.mpr c67
                have c67b1 : ((Int.tmod a1 2) != 0) = false := bne_eq_false_iff_eq.mpr c67
                clear c67
                simp only [Option.some.injEq, Prod.mk.injEq] at H
                obtain ⟨rfl, rfl, rfl⟩ := H
                have hnb68 := NB564_565.out
                have hnc68 := NB565_564.out
                have hnb69 := NB564_568.out
                have hnc69 := NB568_564.out
                have hcz70_0 : wc.cell? ⟨gb564, 0, none⟩ = some (.int .i64 t566) := (blk_cell BK564.out 0).trans rfl
                have hcz70_1 : wc.cell? ⟨gb564, 1, none⟩ = some (.int .i64 t567) := (blk_cell BK564.out 1).trans rfl
                have hfz70_0 := blk_frozen BK564.out 0
                have hfz70_1 := blk_frozen BK564.out 1
                have hnb71 := NB568_565.out
                have hnc71 := NB565_568.out
                have hcz72_0 : wc.cell? ⟨gb568, 0, none⟩ = some (.int .i64 1) := (blk_cell BK568.out 0).trans rfl
                have hcz72_1 : wc.cell? ⟨gb568, 1, none⟩ = some (.int .i64 1) := (blk_cell BK568.out 1).trans rfl
                have hfz72_0 := blk_frozen BK568.out 0
                have hfz72_1 := blk_frozen BK568.out 1
                have hcz73_0 : wc.cell? ⟨gb565, 0, none⟩ = some (.int .i64 0) := (blk_cell BK565.out 0).trans rfl
                have hcz73_1 : wc.cell? ⟨gb565, 1, none⟩ = some (.int .i64 0) := (blk_cell BK565.out 1).trans rfl
                have hfz73_0 := blk_frozen BK565.out 0
                have hfz73_1 := blk_frozen BK565.out 1
                go_wp2
                refine bodyPost_ret (results_ct rfl _ _ gb565 23 #[.int .i64 1, .int .i64 1] (0, 0) _ rfl (by (with_reducible repeat (first | refine blk_drewN ?_ _ | refine blk_drew ?_ | refine blk_alloc ?_ _)); refine blk_put (cs := #[.int .i64 1, .int .i64 0]) ?_ 1 _ rfl; (with_reducible repeat (first | refine blk_drewN ?_ _ | refine blk_drew ?_ | refine blk_alloc ?_ _)); refine blk_put (cs := #[.int .i64 0, .int .i64 0]) ?_ 0 _ rfl; (with_reducible repeat (first | refine blk_drewN ?_ _ | refine blk_drew ?_ | refine blk_alloc ?_ _)); exact BK565.out) Tryd.underlying23 rfl (by kernel_rfl)) rfl ?_
                exact ⟨by first | rfl | (simp [errW_none, errW_some] <;> rfl) | (simp [*, errW_none, errW_some] <;> rfl), by repeat (first | (with_reducible first | exact HB.out | apply below_alloc | apply pw_below_drewN | apply below_drew1 | refine below_set ?_ GE564.out | refine below_set ?_ GE565.out | refine below_set ?_ GE568.out) | exact HB.out)⟩
              · rw [if_neg c67] at H
                have c67b0 : ((Int.tmod a1 2) == 0) = false := beq_eq_false_iff_ne.mpr c67
                have c67b1 : ((Int.tmod a1 2) != 0) = true := bne_iff_ne.mpr c67
                simp only [Option.some.injEq, Prod.mk.injEq] at H
                obtain ⟨rfl, rfl, rfl⟩ := H
                have hnb74 := NB564_565.out
                have hnc74 := NB565_564.out
                have hnb75 := NB564_568.out
                have hnc75 := NB568_564.out
                have hcz76_0 : wc.cell? ⟨gb564, 0, none⟩ = some (.int .i64 t566) := (blk_cell BK564.out 0).trans rfl
                have hcz76_1 : wc.cell? ⟨gb564, 1, none⟩ = some (.int .i64 t567) := (blk_cell BK564.out 1).trans rfl
                have hfz76_0 := blk_frozen BK564.out 0
                have hfz76_1 := blk_frozen BK564.out 1
                have hnb77 := NB565_568.out
                have hnc77 := NB568_565.out
                have hcz78_0 : wc.cell? ⟨gb565, 0, none⟩ = some (.int .i64 0) := (blk_cell BK565.out 0).trans rfl
                have hcz78_1 : wc.cell? ⟨gb565, 1, none⟩ = some (.int .i64 0) := (blk_cell BK565.out 1).trans rfl
                have hfz78_0 := blk_frozen BK565.out 0
                have hfz78_1 := blk_frozen BK565.out 1
                go_wp2
                refine bodyPost_ret (results_ct rfl _ _ gb565 23 #[.int .i64 t566, .int .i64 t567] (0, 0) _ rfl (by (with_reducible repeat (first | refine blk_drewN ?_ _ | refine blk_drew ?_ | refine blk_alloc ?_ _)); refine blk_put (cs := #[.int .i64 t566, .int .i64 0]) ?_ 1 _ rfl; (with_reducible repeat (first | refine blk_drewN ?_ _ | refine blk_drew ?_ | refine blk_alloc ?_ _)); refine blk_put (cs := #[.int .i64 0, .int .i64 0]) ?_ 0 _ rfl; (with_reducible repeat (first | refine blk_drewN ?_ _ | refine blk_drew ?_ | refine blk_alloc ?_ _)); exact BK565.out) Tryd.underlying23 rfl (by kernel_rfl)) rfl ?_
                exact ⟨by first | rfl | (simp [errW_none, errW_some] <;> rfl) | (simp [*, errW_none, errW_some] <;> rfl), by repeat (first | (with_reducible first | exact HB.out | apply below_alloc | apply pw_below_drewN | apply below_drew1 | refine below_set ?_ GE564.out | refine below_set ?_ GE565.out | refine below_set ?_ GE568.out) | exact HB.out)⟩
            · rw [if_neg c66] at H
              have c66b0 : (t566 == (-1)) = false := beq_eq_false_iff_ne.mpr c66
              have c66b1 : (t566 != (-1)) = true := bne_iff_ne.mpr c66
              simp only [Option.some.injEq, Prod.mk.injEq] at H
              obtain ⟨rfl, rfl, rfl⟩ := H
              have hnb79 := NB564_565.out
              have hnc79 := NB565_564.out
              have hnb80 := NB564_568.out
              have hnc80 := NB568_564.out
              have hcz81_0 : wc.cell? ⟨gb564, 0, none⟩ = some (.int .i64 t566) := (blk_cell BK564.out 0).trans rfl
              have hcz81_1 : wc.cell? ⟨gb564, 1, none⟩ = some (.int .i64 t567) := (blk_cell BK564.out 1).trans rfl
              have hfz81_0 := blk_frozen BK564.out 0
              have hfz81_1 := blk_frozen BK564.out 1
              have hnb82 := NB568_565.out
              have hnc82 := NB565_568.out
              have hcz83_0 : wc.cell? ⟨gb568, 0, none⟩ = some (.int .i64 1) := (blk_cell BK568.out 0).trans rfl
              have hcz83_1 : wc.cell? ⟨gb568, 1, none⟩ = some (.int .i64 1) := (blk_cell BK568.out 1).trans rfl
              have hfz83_0 := blk_frozen BK568.out 0
              have hfz83_1 := blk_frozen BK568.out 1
              have hcz84_0 : wc.cell? ⟨gb565, 0, none⟩ = some (.int .i64 0) := (blk_cell BK565.out 0).trans rfl
              have hcz84_1 : wc.cell? ⟨gb565, 1, none⟩ = some (.int .i64 0) := (blk_cell BK565.out 1).trans rfl
              have hfz84_0 := blk_frozen BK565.out 0
              have hfz84_1 := blk_frozen BK565.out 1
              go_wp2
              refine bodyPost_ret (results_ct rfl _ _ gb565 23 #[.int .i64 1, .int .i64 1] (0, 0) _ rfl (by (with_reducible repeat (first | refine blk_drewN ?_ _ | refine blk_drew ?_ | refine blk_alloc ?_ _)); refine blk_put (cs := #[.int .i64 1, .int .i64 0]) ?_ 1 _ rfl; (with_reducible repeat (first | refine blk_drewN ?_ _ | refine blk_drew ?_ | refine blk_alloc ?_ _)); refine blk_put (cs := #[.int .i64 0, .int .i64 0]) ?_ 0 _ rfl; (with_reducible repeat (first | refine blk_drewN ?_ _ | refine blk_drew ?_ | refine blk_alloc ?_ _)); exact BK565.out) Tryd.underlying23 rfl (by kernel_rfl)) rfl ?_
              exact ⟨by first | rfl | (simp [errW_none, errW_some] <;> rfl) | (simp [*, errW_none, errW_some] <;> rfl), by repeat (first | (with_reducible first | exact HB.out | apply below_alloc | apply pw_below_drewN | apply below_drew1 | refine below_set ?_ GE564.out | refine below_set ?_ GE565.out | refine below_set ?_ GE568.out) | exact HB.out)⟩
          · replace c65 := Bool.eq_false_iff.mpr c65
            subst c65
            have H1 : ((whittleref1_far.f t566).bind fun t569 => (if a1 < 0 then ((whittleref1_far.f t566).bind fun t570 => (whittleref1_Pow.j1 kj41 a1 1 1 (IntKind.u64.wrap (t567)) t570 t566 t567)) else (whittleref1_Pow.j1 kj41 a1 1 1 t569 (IntKind.u64.wrap (t567)) t566 t567))) = some (r1, r2, r3) := by rw [if_neg (show ¬ (false = true) by decide)] at H; exact H
            clear H
            have H := H1
            clear H1
            replace H := Option.bind_eq_some_iff.mp H
            obtain ⟨t569, A850, H⟩ := H
            replace H : (if a1 < 0 then ((whittleref1_far.f t566).bind fun t570 => (whittleref1_Pow.j1 kj41 a1 1 1 (IntKind.u64.wrap (t567)) t570 t566 t567)) else (whittleref1_Pow.j1 kj41 a1 1 1 t569 (IntKind.u64.wrap (t567)) t566 t567)) = some (r1, r2, r3) := H
            have A85 := Aside0.mk A850
            clear A850
            have HC86 := Aside0.mk H
            clear H
            have hnb87 := NB564_565.out
            have hnc87 := NB565_564.out
            have hnb88 := NB564_568.out
            have hnc88 := NB568_564.out
            have hcz89_0 : wc.cell? ⟨gb564, 0, none⟩ = some (.int .i64 t566) := (blk_cell BK564.out 0).trans rfl
            have hcz89_1 : wc.cell? ⟨gb564, 1, none⟩ = some (.int .i64 t567) := (blk_cell BK564.out 1).trans rfl
            have hfz89_0 := blk_frozen BK564.out 0
            have hfz89_1 := blk_frozen BK564.out 1
            go_upto_if 55 with (first | ((with_reducible refine gate_callee (f := 61) rfl ?_); refine goesL_ (some 50) rfl rfl Tryd.func61 (by kernel_rfl) rfl #[.int .i64 t566] rfl (by (try simp only [List.map_toArray, List.map_cons, List.map_nil]); first | done | rfl | (simp only [List.length_drop, List.length_take]; rfl)) ?_; (with_reducible refine (whittleref1_far.calls t566 t569 _ A85.out).mono ?_); rintro e w' ⟨rfl, ⟨nd, rfl⟩⟩; refine ⟨_, rfl, ?_⟩))
            (try simp only [Act.put, List.setIfInBounds_toArray, List.set_cons_zero, List.set_cons_succ])
            go_cut [9, 10] (fun v9 v10 wc => ∃ (kq : Nat) (x9_85 : Int) (x10_85 : Int), v9 = .int .u64 x9_85 ∧ v10 = .int .u64 x10_85 ∧ Aside0 (whittleref1_Pow.j1 kq a1 1 1 x9_85 x10_85 t566 t567 = some (r1, r2, r3)) ∧ Aside0 (kq ≤ kj41) ∧ Aside0 (wc.heap[gb564]? = some (.cells #[.int .i64 t566, .int .i64 t567] 23 (0, 0))) ∧ Aside0 (wc.heap[gb565]? = some (.cells #[.int .i64 0, .int .i64 0] 23 (0, 0))) ∧ Aside0 (wc.heap[gb568]? = some (.cells #[.int .i64 1, .int .i64 1] 23 (0, 0))) ∧ Aside0 (Below w.heap.size w wc))
            case first =>
              have H := HC86.out
              clear HC86
              by_cases c90 : a1 < 0
              · rw [if_pos c90] at H
                have c90b0 : decide (a1 < 0) = true := decide_eq_true c90
                clear c90
                (first | rw [c90b0] | (simp only [i64_w, i32_w]; rw [c90b0]) | skip)
                replace H := Option.bind_eq_some_iff.mp H
                obtain ⟨t570, A910, H⟩ := H
                replace H : (whittleref1_Pow.j1 kj41 a1 1 1 (IntKind.u64.wrap (t567)) t570 t566 t567) = some (r1, r2, r3) := H
                have A91 := Aside0.mk A910
                clear A910
                have H' := Aside0.mk H
                clear H
                have hnb92 := NB564_565.out
                have hnc92 := NB565_564.out
                have hnb93 := NB564_568.out
                have hnc93 := NB568_564.out
                have hcz94_0 : wc.cell? ⟨gb564, 0, none⟩ = some (.int .i64 t566) := (blk_cell BK564.out 0).trans rfl
                have hcz94_1 : wc.cell? ⟨gb564, 1, none⟩ = some (.int .i64 t567) := (blk_cell BK564.out 1).trans rfl
                have hfz94_0 := blk_frozen BK564.out 0
                have hfz94_1 := blk_frozen BK564.out 1
                go_wp2_with (first | ((with_reducible refine gate_callee (f := 61) rfl ?_); refine goesL_ (some 61) rfl rfl Tryd.func61 (by kernel_rfl) rfl #[.int .i64 t566] rfl (by (try simp only [List.map_toArray, List.map_cons, List.map_nil]); first | done | rfl | (simp only [List.length_drop, List.length_take]; rfl)) ?_; (with_reducible refine (whittleref1_far.calls t566 t570 _ A91.out).mono ?_); rintro e w' ⟨rfl, ⟨nd, rfl⟩⟩; refine ⟨_, rfl, ?_⟩))
                go_meet
                case rel => exact ⟨_, (IntKind.u64.wrap (t567)), (t570), (by first | rfl | (simp; done) | (simp [*]; done) | (simp [bne_nil]; done)), (by first | rfl | (simp; done) | (simp [*]; done) | (simp [bne_nil]; done)), H', ⟨by have := HJ41.out; first | omega | exact Nat.le_refl _⟩, ⟨by (with_reducible repeat (first | refine blk_drewN ?_ _ | refine blk_drew ?_ | refine blk_alloc ?_ _)); exact BK564.out⟩, ⟨by (with_reducible repeat (first | refine blk_drewN ?_ _ | refine blk_drew ?_ | refine blk_alloc ?_ _)); exact BK565.out⟩, ⟨by (with_reducible repeat (first | refine blk_drewN ?_ _ | refine blk_drew ?_ | refine blk_alloc ?_ _)); exact BK568.out⟩, ⟨by repeat (first | (with_reducible first | exact HB.out | apply below_alloc | apply pw_below_drewN | apply below_drew1 | refine below_set ?_ GE564.out | refine below_set ?_ GE565.out | refine below_set ?_ GE568.out) | exact HB.out)⟩⟩
              · rw [if_neg c90] at H
                have c90b0 : decide (a1 < 0) = false := decide_eq_false c90
                clear c90
                (first | rw [c90b0] | (simp only [i64_w, i32_w]; rw [c90b0]) | skip)
                have H' := Aside0.mk H
                clear H
                go_wp2
                go_meet
                case rel => exact ⟨_, (t569), (IntKind.u64.wrap (t567)), (by first | rfl | (simp; done) | (simp [*]; done) | (simp [bne_nil]; done)), (by first | rfl | (simp; done) | (simp [*]; done) | (simp [bne_nil]; done)), H', ⟨by have := HJ41.out; first | omega | exact Nat.le_refl _⟩, ⟨by (with_reducible repeat (first | refine blk_drewN ?_ _ | refine blk_drew ?_ | refine blk_alloc ?_ _)); exact BK564.out⟩, ⟨by (with_reducible repeat (first | refine blk_drewN ?_ _ | refine blk_drew ?_ | refine blk_alloc ?_ _)); exact BK565.out⟩, ⟨by (with_reducible repeat (first | refine blk_drewN ?_ _ | refine blk_drew ?_ | refine blk_alloc ?_ _)); exact BK568.out⟩, ⟨by repeat (first | (with_reducible first | exact HB.out | apply below_alloc | apply pw_below_drewN | apply below_drew1 | refine below_set ?_ GE564.out | refine below_set ?_ GE565.out | refine below_set ?_ GE568.out) | exact HB.out)⟩⟩
            case rest =>
              clear HC86
              try clear c1
              try clear c2
              try clear p2
              try clear c3
              try clear c4
              try clear c4b0
              try clear c4b1
              try clear c5
              try clear c6
              try clear c7
              try clear c8
              try clear c9
              try clear c12
              try clear c13
              try clear c16
              try clear c16b0
              try clear c16b1
              try clear c17
              try clear c17b0
              try clear c20
              try clear c25
              try clear c26
              try clear c32
              try clear c37
              try clear c38
              try clear c44
              try clear c45
              try clear c50
              try clear c51
              try clear c54
              try clear c54b0
              try clear c54b1
              try clear c55
              try clear c55b0
              try clear c55b1
              try clear c56
              try clear c57
              try clear c59
              try clear c60
              try clear c61
              try clear c62
              try clear c63
              try clear c64
              try clear c65
              try clear c66
              try clear c66b0
              try clear c66b1
              try clear c67
              try clear c67b0
              try clear c67b1
              try clear c68
              try clear c69
              try clear c71
              try clear c74
              try clear c75
              try clear c77
              try clear c79
              try clear c80
              try clear c82
              try clear c87
              try clear c88
              try clear c90
              try clear c90b0
              try clear c92
              try clear c93
              try clear hcz10_0
              try clear hcz10_1
              try clear hcz14_0
              try clear hcz14_1
              try clear hcz15_0
              try clear hcz15_1
              try clear hcz21_0
              try clear hcz21_1
              try clear hcz23_0
              try clear hcz23_1
              try clear hcz27_0
              try clear hcz27_1
              try clear hcz28_0
              try clear hcz28_1
              try clear hcz29_0
              try clear hcz29_1
              try clear hcz33_0
              try clear hcz33_1
              try clear hcz35_0
              try clear hcz35_1
              try clear hcz39_0
              try clear hcz39_1
              try clear hcz40_0
              try clear hcz40_1
              try clear hcz41_0
              try clear hcz41_1
              try clear hcz46_0
              try clear hcz46_1
              try clear hcz48_0
              try clear hcz48_1
              try clear hcz52_0
              try clear hcz52_1
              try clear hcz53_0
              try clear hcz53_1
              try clear hcz58_0
              try clear hcz58_1
              try clear hcz61_0
              try clear hcz61_1
              try clear hcz64_0
              try clear hcz64_1
              try clear hcz70_0
              try clear hcz70_1
              try clear hcz72_0
              try clear hcz72_1
              try clear hcz73_0
              try clear hcz73_1
              try clear hcz76_0
              try clear hcz76_1
              try clear hcz78_0
              try clear hcz78_1
              try clear hcz81_0
              try clear hcz81_1
              try clear hcz83_0
              try clear hcz83_1
              try clear hcz84_0
              try clear hcz84_1
              try clear hcz89_0
              try clear hcz89_1
              try clear hcz8_0
              try clear hcz8_1
              try clear hcz94_0
              try clear hcz94_1
              try clear hfz10_0
              try clear hfz10_1
              try clear hfz14_0
              try clear hfz14_1
              try clear hfz15_0
              try clear hfz15_1
              try clear hfz21_0
              try clear hfz21_1
              try clear hfz23_0
              try clear hfz23_1
              try clear hfz27_0
              try clear hfz27_1
              try clear hfz28_0
              try clear hfz28_1
              try clear hfz29_0
              try clear hfz29_1
              try clear hfz33_0
              try clear hfz33_1
              try clear hfz35_0
              try clear hfz35_1
              try clear hfz39_0
              try clear hfz39_1
              try clear hfz40_0
              try clear hfz40_1
              try clear hfz41_0
              try clear hfz41_1
              try clear hfz46_0
              try clear hfz46_1
              try clear hfz48_0
              try clear hfz48_1
              try clear hfz52_0
              try clear hfz52_1
              try clear hfz53_0
              try clear hfz53_1
              try clear hfz58_0
              try clear hfz58_1
              try clear hfz61_0
              try clear hfz61_1
              try clear hfz64_0
              try clear hfz64_1
              try clear hfz70_0
              try clear hfz70_1
              try clear hfz72_0
              try clear hfz72_1
              try clear hfz73_0
              try clear hfz73_1
              try clear hfz76_0
              try clear hfz76_1
              try clear hfz78_0
              try clear hfz78_1
              try clear hfz81_0
              try clear hfz81_1
              try clear hfz83_0
              try clear hfz83_1
              try clear hfz84_0
              try clear hfz84_1
              try clear hfz89_0
              try clear hfz89_1
              try clear hfz8_0
              try clear hfz8_1
              try clear hfz94_0
              try clear hfz94_1
              try clear p2
              obtain ⟨kq, x9_85, x10_85, rfl, rfl, HA, HJ85, BK564, BK565, BK568, HB⟩ := hcut
              cases kq with
              | zero => exact absurd HA.out (by simp [whittleref1_Pow.j1])
              | succ kj85 =>
                have H := HA.out
                clear HA
                simp only [whittleref1_Pow.j1] at H
                have H' := Aside0.mk H
                clear H
                go_wp2
                go_loopg [7, 8, 11] kj85 (fun kq v7 v8 v11 w' => ∃ (x7_3 : Int) (x8_3 : Int) (x11_3 : Int) (x566000_3 : Int) (x566001_3 : Int), v7 = .int .u64 x7_3 ∧ v8 = .int .u64 x8_3 ∧ v11 = .int .u64 x11_3 ∧ Aside0 (whittleref1_Pow.l0 kq a1 x7_3 x8_3 x9_85 x10_85 x11_3 t566 t567 = some (r1, r2, r3)) ∧ Aside0 (kq ≤ kj85) ∧ Aside0 (w'.heap[gb564]? = some (.cells #[.int .i64 t566, .int .i64 t567] 23 (0, 0))) ∧ Aside0 (w'.heap[gb565]? = some (.cells #[.int .i64 x566000_3, .int .i64 x566001_3] 23 (0, 0))) ∧ Aside0 (w'.heap[gb568]? = some (.cells #[.int .i64 1, .int .i64 1] 23 (0, 0))) ∧ Aside0 (Below w.heap.size w w'))
                case atStart => exact ⟨(1), (1), (0), (0), (0), (by first | rfl | (simp; done) | (simp [*]; done) | (simp [bne_nil]; done)), (by first | rfl | (simp; done) | (simp [*]; done) | (simp [bne_nil]; done)), (by first | rfl | (simp; done) | (simp [*]; done) | (simp [bne_nil]; done)), H', ⟨Nat.le_refl _⟩, ⟨by (with_reducible repeat (first | refine blk_drewN ?_ _ | refine blk_drew ?_ | refine blk_alloc ?_ _)); exact BK564.out⟩, ⟨by (with_reducible repeat (first | refine blk_drewN ?_ _ | refine blk_drew ?_ | refine blk_alloc ?_ _)); exact BK565.out⟩, ⟨by (with_reducible repeat (first | refine blk_drewN ?_ _ | refine blk_drew ?_ | refine blk_alloc ?_ _)); exact BK568.out⟩, ⟨by repeat (first | (with_reducible first | exact HB.out | apply below_alloc | apply pw_below_drewN | apply below_drew1 | refine below_set ?_ GE564.out | refine below_set ?_ GE565.out | refine below_set ?_ GE568.out) | exact HB.out)⟩⟩
                case round =>
                  clear H'
                  try clear c1
                  try clear c2
                  try clear p2
                  try clear c3
                  try clear c4
                  try clear c4b0
                  try clear c4b1
                  try clear c5
                  try clear c6
                  try clear c7
                  try clear c8
                  try clear c9
                  try clear c12
                  try clear c13
                  try clear c16
                  try clear c16b0
                  try clear c16b1
                  try clear c17
                  try clear c17b0
                  try clear c20
                  try clear c25
                  try clear c26
                  try clear c32
                  try clear c37
                  try clear c38
                  try clear c44
                  try clear c45
                  try clear c50
                  try clear c51
                  try clear c54
                  try clear c54b0
                  try clear c54b1
                  try clear c55
                  try clear c55b0
                  try clear c55b1
                  try clear c56
                  try clear c57
                  try clear c59
                  try clear c60
                  try clear c61
                  try clear c62
                  try clear c63
                  try clear c64
                  try clear c65
                  try clear c66
                  try clear c66b0
                  try clear c66b1
                  try clear c67
                  try clear c67b0
                  try clear c67b1
                  try clear c68
                  try clear c69
                  try clear c71
                  try clear c74
                  try clear c75
                  try clear c77
                  try clear c79
                  try clear c80
                  try clear c82
                  try clear c87
                  try clear c88
                  try clear c90
                  try clear c90b0
                  try clear c92
                  try clear c93
                  try clear hcz10_0
                  try clear hcz10_1
                  try clear hcz14_0
                  try clear hcz14_1
                  try clear hcz15_0
                  try clear hcz15_1
                  try clear hcz21_0
                  try clear hcz21_1
                  try clear hcz23_0
                  try clear hcz23_1
                  try clear hcz27_0
                  try clear hcz27_1
                  try clear hcz28_0
                  try clear hcz28_1
                  try clear hcz29_0
                  try clear hcz29_1
                  try clear hcz33_0
                  try clear hcz33_1
                  try clear hcz35_0
                  try clear hcz35_1
                  try clear hcz39_0
                  try clear hcz39_1
                  try clear hcz40_0
                  try clear hcz40_1
                  try clear hcz41_0
                  try clear hcz41_1
                  try clear hcz46_0
                  try clear hcz46_1
                  try clear hcz48_0
                  try clear hcz48_1
                  try clear hcz52_0
                  try clear hcz52_1
                  try clear hcz53_0
                  try clear hcz53_1
                  try clear hcz58_0
                  try clear hcz58_1
                  try clear hcz61_0
                  try clear hcz61_1
                  try clear hcz64_0
                  try clear hcz64_1
                  try clear hcz70_0
                  try clear hcz70_1
                  try clear hcz72_0
                  try clear hcz72_1
                  try clear hcz73_0
                  try clear hcz73_1
                  try clear hcz76_0
                  try clear hcz76_1
                  try clear hcz78_0
                  try clear hcz78_1
                  try clear hcz81_0
                  try clear hcz81_1
                  try clear hcz83_0
                  try clear hcz83_1
                  try clear hcz84_0
                  try clear hcz84_1
                  try clear hcz89_0
                  try clear hcz89_1
                  try clear hcz8_0
                  try clear hcz8_1
                  try clear hcz94_0
                  try clear hcz94_1
                  try clear hfz10_0
                  try clear hfz10_1
                  try clear hfz14_0
                  try clear hfz14_1
                  try clear hfz15_0
                  try clear hfz15_1
                  try clear hfz21_0
                  try clear hfz21_1
                  try clear hfz23_0
                  try clear hfz23_1
                  try clear hfz27_0
                  try clear hfz27_1
                  try clear hfz28_0
                  try clear hfz28_1
                  try clear hfz29_0
                  try clear hfz29_1
                  try clear hfz33_0
                  try clear hfz33_1
                  try clear hfz35_0
                  try clear hfz35_1
                  try clear hfz39_0
                  try clear hfz39_1
                  try clear hfz40_0
                  try clear hfz40_1
                  try clear hfz41_0
                  try clear hfz41_1
                  try clear hfz46_0
                  try clear hfz46_1
                  try clear hfz48_0
                  try clear hfz48_1
                  try clear hfz52_0
                  try clear hfz52_1
                  try clear hfz53_0
                  try clear hfz53_1
                  try clear hfz58_0
                  try clear hfz58_1
                  try clear hfz61_0
                  try clear hfz61_1
                  try clear hfz64_0
                  try clear hfz64_1
                  try clear hfz70_0
                  try clear hfz70_1
                  try clear hfz72_0
                  try clear hfz72_1
                  try clear hfz73_0
                  try clear hfz73_1
                  try clear hfz76_0
                  try clear hfz76_1
                  try clear hfz78_0
                  try clear hfz78_1
                  try clear hfz81_0
                  try clear hfz81_1
                  try clear hfz83_0
                  try clear hfz83_1
                  try clear hfz84_0
                  try clear hfz84_1
                  try clear hfz89_0
                  try clear hfz89_1
                  try clear hfz8_0
                  try clear hfz8_1
                  try clear hfz94_0
                  try clear hfz94_1
                  try clear p2
                  obtain ⟨x7_3, x8_3, x11_3, x566000_3, x566001_3, rfl, rfl, rfl, HA, HK3, BK564, BK565, BK568, HB⟩ := hrel
                  cases gk with
                  | zero => exact absurd HA.out (by simp [whittleref1_Pow.l0])
                  | succ k3 =>
                    have H := HA.out
                    clear HA
                    simp only [whittleref1_Pow.l0] at H
                    replace H := Option.bind_eq_some_iff.mp H
                    obtain ⟨t571, A950, H⟩ := H
                    replace H : (if x11_3 < t571 then (if x9_85 = 0 then (none) else (if x7_3 > (IntKind.u64.wrap (Int.tdiv (1000000000000 : Int) x9_85)) then (some (0, 0, false)) else (if x10_85 = 0 then (none) else (if x8_3 > (IntKind.u64.wrap (Int.tdiv (1000000 : Int) x10_85)) then (some (0, 0, false)) else (whittleref1_Pow.l0 k3 a1 (IntKind.u64.wrap (x7_3 * x9_85)) (IntKind.u64.wrap (x8_3 * x10_85)) x9_85 x10_85 (IntKind.u64.wrap (x11_3 + 1)) t566 t567))))) else (if t566 < 0 then ((whittleref1_made.f k3 ((Int.tmod a1 2) != 0) x7_3 x8_3).bind fun bt572 => (some (bt572.1, bt572.2.1, bt572.2.2))) else ((whittleref1_made.f k3 false x7_3 x8_3).bind fun bt575 => (some (bt575.1, bt575.2.1, bt575.2.2))))) = some (r1, r2, r3) := H
                    have A95 := Aside0.mk A950
                    clear A950
                    by_cases c96 : x11_3 < t571
                    · rw [if_pos c96] at H
                      have c96b0 : decide (x11_3 < t571) = true := decide_eq_true c96
                      clear c96
                      by_cases c97 : x9_85 = 0
                      · rw [if_pos c97] at H
                        exact absurd H (by simp)
                      · rw [if_neg c97] at H
                        have c97b0 : (x9_85 == 0) = false := beq_eq_false_iff_ne.mpr c97
                        have c97b1 : (x9_85 != 0) = true := bne_iff_ne.mpr c97
                        by_cases c98 : x7_3 > (IntKind.u64.wrap (Int.tdiv (1000000000000 : Int) x9_85))
                        · rw [if_pos c98] at H
                          have c98b0 : decide ((IntKind.u64.wrap (Int.tdiv (1000000000000 : Int) x9_85)) < x7_3) = true := decide_eq_true c98
                          clear c98
                          simp only [Option.some.injEq, Prod.mk.injEq] at H
                          obtain ⟨rfl, rfl, rfl⟩ := H
                          go_wp2_with (first | ((with_reducible refine gate_callee (f := 61) rfl ?_); refine goesL_ (some 64) rfl rfl Tryd.func61 (by kernel_rfl) rfl #[.int .i64 a1] rfl (by (try simp only [List.map_toArray, List.map_cons, List.map_nil]); first | done | rfl | (simp only [List.length_drop, List.length_take]; rfl)) ?_; (with_reducible refine (whittleref1_far.calls a1 t571 _ A95.out).mono ?_); rintro e w' ⟨rfl, ⟨nd, rfl⟩⟩; refine ⟨_, rfl, ?_⟩; (try (rw [drewN_self wr]; generalize hq_ : World.drewN wr _ = wr; have n0_ : Aside0 (wr.heap[gb564]? = some (.cells #[.int .i64 t566, .int .i64 t567] 23 (0, 0))) := ⟨by rw [← hq_]; exact (by (with_reducible repeat (first | refine blk_drewN ?_ _ | refine blk_drew ?_ | refine blk_alloc ?_ _)); exact BK564.out)⟩; have n1_ : Aside0 (wr.heap[gb565]? = some (.cells #[.int .i64 x566000_3, .int .i64 x566001_3] 23 (0, 0))) := ⟨by rw [← hq_]; exact (by (with_reducible repeat (first | refine blk_drewN ?_ _ | refine blk_drew ?_ | refine blk_alloc ?_ _)); exact BK565.out)⟩; have n2_ : Aside0 (wr.heap[gb568]? = some (.cells #[.int .i64 1, .int .i64 1] 23 (0, 0))) := ⟨by rw [← hq_]; exact (by (with_reducible repeat (first | refine blk_drewN ?_ _ | refine blk_drew ?_ | refine blk_alloc ?_ _)); exact BK568.out)⟩; have n3_ : Aside0 (Below w.heap.size w wr) := ⟨by rw [← hq_]; exact (by repeat (first | (with_reducible first | exact HB.out | apply below_alloc | apply pw_below_drewN | apply below_drew1 | refine below_set ?_ GE564.out | refine below_set ?_ GE565.out | refine below_set ?_ GE568.out) | exact HB.out))⟩; clear BK564 BK565 BK568 HB hq_; have BK564 := n0_; have BK565 := n1_; have BK568 := n2_; have HB := n3_; clear n0_ n1_ n2_ n3_)); (try (have hcz99_0 : wr.cell? ⟨gb564, 0, none⟩ = some (.int .i64 t566) := (blk_cell BK564.out 0).trans rfl)); (try (have hfz99_0 := blk_frozen BK564.out 0)); (try (have hcz99_1 : wr.cell? ⟨gb564, 1, none⟩ = some (.int .i64 t567) := (blk_cell BK564.out 1).trans rfl)); (try (have hfz99_1 := blk_frozen BK564.out 1)); (try (have hcz100_0 : wr.cell? ⟨gb565, 0, none⟩ = some (.int .i64 x566000_3) := (blk_cell BK565.out 0).trans rfl)); (try (have hfz100_0 := blk_frozen BK565.out 0)); (try (have hcz100_1 : wr.cell? ⟨gb565, 1, none⟩ = some (.int .i64 x566001_3) := (blk_cell BK565.out 1).trans rfl)); (try (have hfz100_1 := blk_frozen BK565.out 1)); (try (have hcz101_0 : wr.cell? ⟨gb568, 0, none⟩ = some (.int .i64 1) := (blk_cell BK568.out 0).trans rfl)); (try (have hfz101_0 := blk_frozen BK568.out 0)); (try (have hcz101_1 : wr.cell? ⟨gb568, 1, none⟩ = some (.int .i64 1) := (blk_cell BK568.out 1).trans rfl)); (try (have hfz101_1 := blk_frozen BK568.out 1)); have hnb102 := NB565_564.out; have hnc102 := NB564_565.out; have hnb103 := NB565_568.out; have hnc103 := NB568_565.out; have hcz104_0 : wr.cell? ⟨gb565, 0, none⟩ = some (.int .i64 x566000_3) := (blk_cell BK565.out 0).trans rfl; have hcz104_1 : wr.cell? ⟨gb565, 1, none⟩ = some (.int .i64 x566001_3) := (blk_cell BK565.out 1).trans rfl; have hfz104_0 := blk_frozen BK565.out 0; have hfz104_1 := blk_frozen BK565.out 1))
                          refine bodyPost_ret (results_ct rfl _ _ gb565 23 #[.int .i64 0, .int .i64 0] (0, 0) _ rfl (by (with_reducible repeat (first | refine blk_drewN ?_ _ | refine blk_drew ?_ | refine blk_alloc ?_ _)); refine blk_put (cs := #[.int .i64 0, .int .i64 x566001_3]) ?_ 1 _ rfl; (with_reducible repeat (first | refine blk_drewN ?_ _ | refine blk_drew ?_ | refine blk_alloc ?_ _)); refine blk_put (cs := #[.int .i64 x566000_3, .int .i64 x566001_3]) ?_ 0 _ rfl; (with_reducible repeat (first | refine blk_drewN ?_ _ | refine blk_drew ?_ | refine blk_alloc ?_ _)); exact BK565.out) Tryd.underlying23 rfl (by kernel_rfl)) rfl ?_
                          exact ⟨by first | rfl | (simp [errW_none, errW_some] <;> rfl) | (simp [*, errW_none, errW_some] <;> rfl), by repeat (first | (with_reducible first | exact HB.out | apply below_alloc | apply pw_below_drewN | apply below_drew1 | refine below_set ?_ GE564.out | refine below_set ?_ GE565.out | refine below_set ?_ GE568.out) | exact HB.out)⟩
                        · rw [if_neg c98] at H
                          have c98b0 : decide ((IntKind.u64.wrap (Int.tdiv (1000000000000 : Int) x9_85)) < x7_3) = false := decide_eq_false c98
                          clear c98
                          by_cases c105 : x10_85 = 0
                          · rw [if_pos c105] at H
                            exact absurd H (by simp)
                          · rw [if_neg c105] at H
                            have c105b0 : (x10_85 == 0) = false := beq_eq_false_iff_ne.mpr c105
                            have c105b1 : (x10_85 != 0) = true := bne_iff_ne.mpr c105
                            by_cases c106 : x8_3 > (IntKind.u64.wrap (Int.tdiv (1000000 : Int) x10_85))
                            · rw [if_pos c106] at H
                              have c106b0 : decide ((IntKind.u64.wrap (Int.tdiv (1000000 : Int) x10_85)) < x8_3) = true := decide_eq_true c106
                              clear c106
                              simp only [Option.some.injEq, Prod.mk.injEq] at H
                              obtain ⟨rfl, rfl, rfl⟩ := H
                              go_wp2_with (first | ((with_reducible refine gate_callee (f := 61) rfl ?_); refine goesL_ (some 64) rfl rfl Tryd.func61 (by kernel_rfl) rfl #[.int .i64 a1] rfl (by (try simp only [List.map_toArray, List.map_cons, List.map_nil]); first | done | rfl | (simp only [List.length_drop, List.length_take]; rfl)) ?_; (with_reducible refine (whittleref1_far.calls a1 t571 _ A95.out).mono ?_); rintro e w' ⟨rfl, ⟨nd, rfl⟩⟩; refine ⟨_, rfl, ?_⟩; (try (rw [drewN_self wr]; generalize hq_ : World.drewN wr _ = wr; have n0_ : Aside0 (wr.heap[gb564]? = some (.cells #[.int .i64 t566, .int .i64 t567] 23 (0, 0))) := ⟨by rw [← hq_]; exact (by (with_reducible repeat (first | refine blk_drewN ?_ _ | refine blk_drew ?_ | refine blk_alloc ?_ _)); exact BK564.out)⟩; have n1_ : Aside0 (wr.heap[gb565]? = some (.cells #[.int .i64 x566000_3, .int .i64 x566001_3] 23 (0, 0))) := ⟨by rw [← hq_]; exact (by (with_reducible repeat (first | refine blk_drewN ?_ _ | refine blk_drew ?_ | refine blk_alloc ?_ _)); exact BK565.out)⟩; have n2_ : Aside0 (wr.heap[gb568]? = some (.cells #[.int .i64 1, .int .i64 1] 23 (0, 0))) := ⟨by rw [← hq_]; exact (by (with_reducible repeat (first | refine blk_drewN ?_ _ | refine blk_drew ?_ | refine blk_alloc ?_ _)); exact BK568.out)⟩; have n3_ : Aside0 (Below w.heap.size w wr) := ⟨by rw [← hq_]; exact (by repeat (first | (with_reducible first | exact HB.out | apply below_alloc | apply pw_below_drewN | apply below_drew1 | refine below_set ?_ GE564.out | refine below_set ?_ GE565.out | refine below_set ?_ GE568.out) | exact HB.out))⟩; clear BK564 BK565 BK568 HB hq_; have BK564 := n0_; have BK565 := n1_; have BK568 := n2_; have HB := n3_; clear n0_ n1_ n2_ n3_)); (try (have hcz107_0 : wr.cell? ⟨gb564, 0, none⟩ = some (.int .i64 t566) := (blk_cell BK564.out 0).trans rfl)); (try (have hfz107_0 := blk_frozen BK564.out 0)); (try (have hcz107_1 : wr.cell? ⟨gb564, 1, none⟩ = some (.int .i64 t567) := (blk_cell BK564.out 1).trans rfl)); (try (have hfz107_1 := blk_frozen BK564.out 1)); (try (have hcz108_0 : wr.cell? ⟨gb565, 0, none⟩ = some (.int .i64 x566000_3) := (blk_cell BK565.out 0).trans rfl)); (try (have hfz108_0 := blk_frozen BK565.out 0)); (try (have hcz108_1 : wr.cell? ⟨gb565, 1, none⟩ = some (.int .i64 x566001_3) := (blk_cell BK565.out 1).trans rfl)); (try (have hfz108_1 := blk_frozen BK565.out 1)); (try (have hcz109_0 : wr.cell? ⟨gb568, 0, none⟩ = some (.int .i64 1) := (blk_cell BK568.out 0).trans rfl)); (try (have hfz109_0 := blk_frozen BK568.out 0)); (try (have hcz109_1 : wr.cell? ⟨gb568, 1, none⟩ = some (.int .i64 1) := (blk_cell BK568.out 1).trans rfl)); (try (have hfz109_1 := blk_frozen BK568.out 1)); have hnb110 := NB565_564.out; have hnc110 := NB564_565.out; have hnb111 := NB565_568.out; have hnc111 := NB568_565.out; have hcz112_0 : wr.cell? ⟨gb565, 0, none⟩ = some (.int .i64 x566000_3) := (blk_cell BK565.out 0).trans rfl; have hcz112_1 : wr.cell? ⟨gb565, 1, none⟩ = some (.int .i64 x566001_3) := (blk_cell BK565.out 1).trans rfl; have hfz112_0 := blk_frozen BK565.out 0; have hfz112_1 := blk_frozen BK565.out 1))
                              refine bodyPost_ret (results_ct rfl _ _ gb565 23 #[.int .i64 0, .int .i64 0] (0, 0) _ rfl (by (with_reducible repeat (first | refine blk_drewN ?_ _ | refine blk_drew ?_ | refine blk_alloc ?_ _)); refine blk_put (cs := #[.int .i64 0, .int .i64 x566001_3]) ?_ 1 _ rfl; (with_reducible repeat (first | refine blk_drewN ?_ _ | refine blk_drew ?_ | refine blk_alloc ?_ _)); refine blk_put (cs := #[.int .i64 x566000_3, .int .i64 x566001_3]) ?_ 0 _ rfl; (with_reducible repeat (first | refine blk_drewN ?_ _ | refine blk_drew ?_ | refine blk_alloc ?_ _)); exact BK565.out) Tryd.underlying23 rfl (by kernel_rfl)) rfl ?_
                              exact ⟨by first | rfl | (simp [errW_none, errW_some] <;> rfl) | (simp [*, errW_none, errW_some] <;> rfl), by repeat (first | (with_reducible first | exact HB.out | apply below_alloc | apply pw_below_drewN | apply below_drew1 | refine below_set ?_ GE564.out | refine below_set ?_ GE565.out | refine below_set ?_ GE568.out) | exact HB.out)⟩
                            · rw [if_neg c106] at H
                              have c106b0 : decide ((IntKind.u64.wrap (Int.tdiv (1000000 : Int) x10_85)) < x8_3) = false := decide_eq_false c106
                              clear c106
                              have H' := Aside0.mk H
                              clear H
                              go_wp2_with (first | ((with_reducible refine gate_callee (f := 61) rfl ?_); refine goesL_ (some 64) rfl rfl Tryd.func61 (by kernel_rfl) rfl #[.int .i64 a1] rfl (by (try simp only [List.map_toArray, List.map_cons, List.map_nil]); first | done | rfl | (simp only [List.length_drop, List.length_take]; rfl)) ?_; (with_reducible refine (whittleref1_far.calls a1 t571 _ A95.out).mono ?_); rintro e w' ⟨rfl, ⟨nd, rfl⟩⟩; refine ⟨_, rfl, ?_⟩))
                              go_roundg k3
                              case measure => have := HJ41.out; have := HJ85.out; have := HK3.out; omega
                              case rel => exact ⟨(IntKind.u64.wrap (x7_3 * x9_85)), (IntKind.u64.wrap (x8_3 * x10_85)), (IntKind.u64.wrap (x11_3 + 1)), (x566000_3), (x566001_3), (by first | rfl | (simp; done) | (simp [*]; done) | (simp [bne_nil]; done)), (by first | rfl | (simp; done) | (simp [*]; done) | (simp [bne_nil]; done)), (by first | rfl | (simp; done) | (simp [*]; done) | (simp [bne_nil]; done)), H', ⟨by have := HJ41.out; have := HJ85.out; have := HK3.out; omega⟩, ⟨by (with_reducible repeat (first | refine blk_drewN ?_ _ | refine blk_drew ?_ | refine blk_alloc ?_ _)); exact BK564.out⟩, ⟨by (with_reducible repeat (first | refine blk_drewN ?_ _ | refine blk_drew ?_ | refine blk_alloc ?_ _)); exact BK565.out⟩, ⟨by (with_reducible repeat (first | refine blk_drewN ?_ _ | refine blk_drew ?_ | refine blk_alloc ?_ _)); exact BK568.out⟩, ⟨by repeat (first | (with_reducible first | exact HB.out | apply below_alloc | apply pw_below_drewN | apply below_drew1 | refine below_set ?_ GE564.out | refine below_set ?_ GE565.out | refine below_set ?_ GE568.out) | exact HB.out)⟩⟩
                    · rw [if_neg c96] at H
                      have c96b0 : decide (x11_3 < t571) = false := decide_eq_false c96
                      clear c96
                      by_cases c113 : t566 < 0
                      · rw [if_pos c113] at H
                        have c113b0 : decide (t566 < 0) = true := decide_eq_true c113
                        clear c113
                        replace H := Option.bind_eq_some_iff.mp H
                        obtain ⟨⟨t572, t573, t574⟩, A1140, H⟩ := H
                        replace H : (some (t572, t573, t574)) = some (r1, r2, r3) := H
                        have A114 := Aside0.mk A1140
                        clear A1140
                        simp only [Option.some.injEq, Prod.mk.injEq] at H
                        obtain ⟨rfl, rfl, rfl⟩ := H
                        go_wp2_with (first | ((with_reducible refine gate_callee (f := 61) rfl ?_); refine goesL_ (some 64) rfl rfl Tryd.func61 (by kernel_rfl) rfl #[.int .i64 a1] rfl (by (try simp only [List.map_toArray, List.map_cons, List.map_nil]); first | done | rfl | (simp only [List.length_drop, List.length_take]; rfl)) ?_; (with_reducible refine (whittleref1_far.calls a1 t571 _ A95.out).mono ?_); rintro e w' ⟨rfl, ⟨nd, rfl⟩⟩; refine ⟨_, rfl, ?_⟩; (try (rw [drewN_self wr]; generalize hq_ : World.drewN wr _ = wr; have n0_ : Aside0 (wr.heap[gb564]? = some (.cells #[.int .i64 t566, .int .i64 t567] 23 (0, 0))) := ⟨by rw [← hq_]; exact (by (with_reducible repeat (first | refine blk_drewN ?_ _ | refine blk_drew ?_ | refine blk_alloc ?_ _)); exact BK564.out)⟩; have n1_ : Aside0 (wr.heap[gb565]? = some (.cells #[.int .i64 x566000_3, .int .i64 x566001_3] 23 (0, 0))) := ⟨by rw [← hq_]; exact (by (with_reducible repeat (first | refine blk_drewN ?_ _ | refine blk_drew ?_ | refine blk_alloc ?_ _)); exact BK565.out)⟩; have n2_ : Aside0 (wr.heap[gb568]? = some (.cells #[.int .i64 1, .int .i64 1] 23 (0, 0))) := ⟨by rw [← hq_]; exact (by (with_reducible repeat (first | refine blk_drewN ?_ _ | refine blk_drew ?_ | refine blk_alloc ?_ _)); exact BK568.out)⟩; have n3_ : Aside0 (Below w.heap.size w wr) := ⟨by rw [← hq_]; exact (by repeat (first | (with_reducible first | exact HB.out | apply below_alloc | apply pw_below_drewN | apply below_drew1 | refine below_set ?_ GE564.out | refine below_set ?_ GE565.out | refine below_set ?_ GE568.out) | exact HB.out))⟩; clear BK564 BK565 BK568 HB hq_; have BK564 := n0_; have BK565 := n1_; have BK568 := n2_; have HB := n3_; clear n0_ n1_ n2_ n3_)); (try (have hcz115_0 : wr.cell? ⟨gb564, 0, none⟩ = some (.int .i64 t566) := (blk_cell BK564.out 0).trans rfl)); (try (have hfz115_0 := blk_frozen BK564.out 0)); (try (have hcz115_1 : wr.cell? ⟨gb564, 1, none⟩ = some (.int .i64 t567) := (blk_cell BK564.out 1).trans rfl)); (try (have hfz115_1 := blk_frozen BK564.out 1)); (try (have hcz116_0 : wr.cell? ⟨gb565, 0, none⟩ = some (.int .i64 x566000_3) := (blk_cell BK565.out 0).trans rfl)); (try (have hfz116_0 := blk_frozen BK565.out 0)); (try (have hcz116_1 : wr.cell? ⟨gb565, 1, none⟩ = some (.int .i64 x566001_3) := (blk_cell BK565.out 1).trans rfl)); (try (have hfz116_1 := blk_frozen BK565.out 1)); (try (have hcz117_0 : wr.cell? ⟨gb568, 0, none⟩ = some (.int .i64 1) := (blk_cell BK568.out 0).trans rfl)); (try (have hfz117_0 := blk_frozen BK568.out 0)); (try (have hcz117_1 : wr.cell? ⟨gb568, 1, none⟩ = some (.int .i64 1) := (blk_cell BK568.out 1).trans rfl)); (try (have hfz117_1 := blk_frozen BK568.out 1)); have hnb118 := NB564_565.out; have hnc118 := NB565_564.out; have hnb119 := NB564_568.out; have hnc119 := NB568_564.out; have hcz120_0 : wr.cell? ⟨gb564, 0, none⟩ = some (.int .i64 t566) := (blk_cell BK564.out 0).trans rfl; have hcz120_1 : wr.cell? ⟨gb564, 1, none⟩ = some (.int .i64 t567) := (blk_cell BK564.out 1).trans rfl; have hfz120_0 := blk_frozen BK564.out 0; have hfz120_1 := blk_frozen BK564.out 1) | ((with_reducible refine gate_callee (f := 60) rfl ?_); refine goesL_ (some 95) rfl rfl Tryd.func60 (by kernel_rfl) rfl #[.bool ((Int.tmod a1 2) != 0), .int .u64 x7_3, .int .u64 x8_3] rfl (by (try simp only [List.map_toArray, List.map_cons, List.map_nil]); first | done | rfl | (simp only [List.length_drop, List.length_take]; rfl)) ?_; (with_reducible refine (whittleref1_made.calls k3 ((Int.tmod a1 2) != 0) x7_3 x8_3 t572 t573 t574 _ A114.out).mono ?_); rintro e w121 ⟨rfl, hb⟩; refine ⟨_, rfl, ?_⟩; have n0_ := Aside0.mk (blk_below (g := gb564) (o := .cells #[.int .i64 t566, .int .i64 t567] 23 (0, 0)) (by (with_reducible repeat (first | refine blk_drewN ?_ _ | refine blk_drew ?_ | refine blk_alloc ?_ _)); exact BK564.out) hb); have n1_ := Aside0.mk (blk_below (g := gb565) (o := .cells #[.int .i64 x566000_3, .int .i64 x566001_3] 23 (0, 0)) (by (with_reducible repeat (first | refine blk_drewN ?_ _ | refine blk_drew ?_ | refine blk_alloc ?_ _)); exact BK565.out) hb); have n2_ := Aside0.mk (blk_below (g := gb568) (o := .cells #[.int .i64 1, .int .i64 1] 23 (0, 0)) (by (with_reducible repeat (first | refine blk_drewN ?_ _ | refine blk_drew ?_ | refine blk_alloc ?_ _)); exact BK568.out) hb); have n3_ := Aside0.mk (below_step (by repeat (first | (with_reducible first | exact HB.out | apply below_alloc | apply pw_below_drewN | apply below_drew1 | refine below_set ?_ GE564.out | refine below_set ?_ GE565.out | refine below_set ?_ GE568.out) | exact HB.out)) hb); clear BK564; clear BK565; clear BK568; clear HB; have BK564 := n0_; have BK565 := n1_; have BK568 := n2_; have HB := n3_; clear n0_ n1_ n2_ n3_; (try clear hb); (try clear hb2); (try clear hk); (try clear hi); have hnb122 := NB565_568.out; have hnc122 := NB568_565.out; have hcz123_0 : w121.cell? ⟨gb565, 0, none⟩ = some (.int .i64 x566000_3) := (blk_cell BK565.out 0).trans rfl; have hcz123_1 : w121.cell? ⟨gb565, 1, none⟩ = some (.int .i64 x566001_3) := (blk_cell BK565.out 1).trans rfl; have hfz123_0 := blk_frozen BK565.out 0; have hfz123_1 := blk_frozen BK565.out 1))
                        refine bodyPost_ret (results_ct rfl _ _ gb565 23 #[.int .i64 t572, .int .i64 t573] (0, 0) _ rfl (by (with_reducible repeat (first | refine blk_drewN ?_ _ | refine blk_drew ?_ | refine blk_alloc ?_ _)); refine blk_put (cs := #[.int .i64 t572, .int .i64 x566001_3]) ?_ 1 _ rfl; (with_reducible repeat (first | refine blk_drewN ?_ _ | refine blk_drew ?_ | refine blk_alloc ?_ _)); refine blk_put (cs := #[.int .i64 x566000_3, .int .i64 x566001_3]) ?_ 0 _ rfl; (with_reducible repeat (first | refine blk_drewN ?_ _ | refine blk_drew ?_ | refine blk_alloc ?_ _)); exact BK565.out) Tryd.underlying23 rfl (by kernel_rfl)) rfl ?_
                        exact ⟨by first | rfl | (simp [errW_none, errW_some] <;> rfl) | (simp [*, errW_none, errW_some] <;> rfl), by repeat (first | (with_reducible first | exact HB.out | apply below_alloc | apply pw_below_drewN | apply below_drew1 | refine below_set ?_ GE564.out | refine below_set ?_ GE565.out | refine below_set ?_ GE568.out) | exact HB.out)⟩
                      · rw [if_neg c113] at H
                        have c113b0 : decide (t566 < 0) = false := decide_eq_false c113
                        clear c113
                        replace H := Option.bind_eq_some_iff.mp H
                        obtain ⟨⟨t575, t576, t577⟩, A1240, H⟩ := H
                        replace H : (some (t575, t576, t577)) = some (r1, r2, r3) := H
                        have A124 := Aside0.mk A1240
                        clear A1240
                        simp only [Option.some.injEq, Prod.mk.injEq] at H
                        obtain ⟨rfl, rfl, rfl⟩ := H
                        go_wp2_with (first | ((with_reducible refine gate_callee (f := 61) rfl ?_); refine goesL_ (some 64) rfl rfl Tryd.func61 (by kernel_rfl) rfl #[.int .i64 a1] rfl (by (try simp only [List.map_toArray, List.map_cons, List.map_nil]); first | done | rfl | (simp only [List.length_drop, List.length_take]; rfl)) ?_; (with_reducible refine (whittleref1_far.calls a1 t571 _ A95.out).mono ?_); rintro e w' ⟨rfl, ⟨nd, rfl⟩⟩; refine ⟨_, rfl, ?_⟩; (try (rw [drewN_self wr]; generalize hq_ : World.drewN wr _ = wr; have n0_ : Aside0 (wr.heap[gb564]? = some (.cells #[.int .i64 t566, .int .i64 t567] 23 (0, 0))) := ⟨by rw [← hq_]; exact (by (with_reducible repeat (first | refine blk_drewN ?_ _ | refine blk_drew ?_ | refine blk_alloc ?_ _)); exact BK564.out)⟩; have n1_ : Aside0 (wr.heap[gb565]? = some (.cells #[.int .i64 x566000_3, .int .i64 x566001_3] 23 (0, 0))) := ⟨by rw [← hq_]; exact (by (with_reducible repeat (first | refine blk_drewN ?_ _ | refine blk_drew ?_ | refine blk_alloc ?_ _)); exact BK565.out)⟩; have n2_ : Aside0 (wr.heap[gb568]? = some (.cells #[.int .i64 1, .int .i64 1] 23 (0, 0))) := ⟨by rw [← hq_]; exact (by (with_reducible repeat (first | refine blk_drewN ?_ _ | refine blk_drew ?_ | refine blk_alloc ?_ _)); exact BK568.out)⟩; have n3_ : Aside0 (Below w.heap.size w wr) := ⟨by rw [← hq_]; exact (by repeat (first | (with_reducible first | exact HB.out | apply below_alloc | apply pw_below_drewN | apply below_drew1 | refine below_set ?_ GE564.out | refine below_set ?_ GE565.out | refine below_set ?_ GE568.out) | exact HB.out))⟩; clear BK564 BK565 BK568 HB hq_; have BK564 := n0_; have BK565 := n1_; have BK568 := n2_; have HB := n3_; clear n0_ n1_ n2_ n3_)); (try (have hcz125_0 : wr.cell? ⟨gb564, 0, none⟩ = some (.int .i64 t566) := (blk_cell BK564.out 0).trans rfl)); (try (have hfz125_0 := blk_frozen BK564.out 0)); (try (have hcz125_1 : wr.cell? ⟨gb564, 1, none⟩ = some (.int .i64 t567) := (blk_cell BK564.out 1).trans rfl)); (try (have hfz125_1 := blk_frozen BK564.out 1)); (try (have hcz126_0 : wr.cell? ⟨gb565, 0, none⟩ = some (.int .i64 x566000_3) := (blk_cell BK565.out 0).trans rfl)); (try (have hfz126_0 := blk_frozen BK565.out 0)); (try (have hcz126_1 : wr.cell? ⟨gb565, 1, none⟩ = some (.int .i64 x566001_3) := (blk_cell BK565.out 1).trans rfl)); (try (have hfz126_1 := blk_frozen BK565.out 1)); (try (have hcz127_0 : wr.cell? ⟨gb568, 0, none⟩ = some (.int .i64 1) := (blk_cell BK568.out 0).trans rfl)); (try (have hfz127_0 := blk_frozen BK568.out 0)); (try (have hcz127_1 : wr.cell? ⟨gb568, 1, none⟩ = some (.int .i64 1) := (blk_cell BK568.out 1).trans rfl)); (try (have hfz127_1 := blk_frozen BK568.out 1)); have hnb128 := NB564_565.out; have hnc128 := NB565_564.out; have hnb129 := NB564_568.out; have hnc129 := NB568_564.out; have hcz130_0 : wr.cell? ⟨gb564, 0, none⟩ = some (.int .i64 t566) := (blk_cell BK564.out 0).trans rfl; have hcz130_1 : wr.cell? ⟨gb564, 1, none⟩ = some (.int .i64 t567) := (blk_cell BK564.out 1).trans rfl; have hfz130_0 := blk_frozen BK564.out 0; have hfz130_1 := blk_frozen BK564.out 1) | ((with_reducible refine gate_callee (f := 60) rfl ?_); refine goesL_ (some 95) rfl rfl Tryd.func60 (by kernel_rfl) rfl #[.bool false, .int .u64 x7_3, .int .u64 x8_3] rfl (by (try simp only [List.map_toArray, List.map_cons, List.map_nil]); first | done | rfl | (simp only [List.length_drop, List.length_take]; rfl)) ?_; (with_reducible refine (whittleref1_made.calls k3 false x7_3 x8_3 t575 t576 t577 _ A124.out).mono ?_); rintro e w131 ⟨rfl, hb⟩; refine ⟨_, rfl, ?_⟩; have n0_ := Aside0.mk (blk_below (g := gb564) (o := .cells #[.int .i64 t566, .int .i64 t567] 23 (0, 0)) (by (with_reducible repeat (first | refine blk_drewN ?_ _ | refine blk_drew ?_ | refine blk_alloc ?_ _)); exact BK564.out) hb); have n1_ := Aside0.mk (blk_below (g := gb565) (o := .cells #[.int .i64 x566000_3, .int .i64 x566001_3] 23 (0, 0)) (by (with_reducible repeat (first | refine blk_drewN ?_ _ | refine blk_drew ?_ | refine blk_alloc ?_ _)); exact BK565.out) hb); have n2_ := Aside0.mk (blk_below (g := gb568) (o := .cells #[.int .i64 1, .int .i64 1] 23 (0, 0)) (by (with_reducible repeat (first | refine blk_drewN ?_ _ | refine blk_drew ?_ | refine blk_alloc ?_ _)); exact BK568.out) hb); have n3_ := Aside0.mk (below_step (by repeat (first | (with_reducible first | exact HB.out | apply below_alloc | apply pw_below_drewN | apply below_drew1 | refine below_set ?_ GE564.out | refine below_set ?_ GE565.out | refine below_set ?_ GE568.out) | exact HB.out)) hb); clear BK564; clear BK565; clear BK568; clear HB; have BK564 := n0_; have BK565 := n1_; have BK568 := n2_; have HB := n3_; clear n0_ n1_ n2_ n3_; (try clear hb); (try clear hb2); (try clear hk); (try clear hi); have hnb132 := NB565_568.out; have hnc132 := NB568_565.out; have hcz133_0 : w131.cell? ⟨gb565, 0, none⟩ = some (.int .i64 x566000_3) := (blk_cell BK565.out 0).trans rfl; have hcz133_1 : w131.cell? ⟨gb565, 1, none⟩ = some (.int .i64 x566001_3) := (blk_cell BK565.out 1).trans rfl; have hfz133_0 := blk_frozen BK565.out 0; have hfz133_1 := blk_frozen BK565.out 1))
                        refine bodyPost_ret (results_ct rfl _ _ gb565 23 #[.int .i64 t575, .int .i64 t576] (0, 0) _ rfl (by (with_reducible repeat (first | refine blk_drewN ?_ _ | refine blk_drew ?_ | refine blk_alloc ?_ _)); refine blk_put (cs := #[.int .i64 t575, .int .i64 x566001_3]) ?_ 1 _ rfl; (with_reducible repeat (first | refine blk_drewN ?_ _ | refine blk_drew ?_ | refine blk_alloc ?_ _)); refine blk_put (cs := #[.int .i64 x566000_3, .int .i64 x566001_3]) ?_ 0 _ rfl; (with_reducible repeat (first | refine blk_drewN ?_ _ | refine blk_drew ?_ | refine blk_alloc ?_ _)); exact BK565.out) Tryd.underlying23 rfl (by kernel_rfl)) rfl ?_
                        exact ⟨by first | rfl | (simp [errW_none, errW_some] <;> rfl) | (simp [*, errW_none, errW_some] <;> rfl), by repeat (first | (with_reducible first | exact HB.out | apply below_alloc | apply pw_below_drewN | apply below_drew1 | refine below_set ?_ GE564.out | refine below_set ?_ GE565.out | refine below_set ?_ GE568.out) | exact HB.out)⟩

end Go.Proofs.YtlcjfabbnclalaaDoor.F
