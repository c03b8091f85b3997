-- Laid by program (wip/tools/gen.sh of this repo) out of the translation; Lean checks it.
import Derived.Test.YtlcjfabbnclalaaDoorF0
import Derived.Test.YtlcjfabbnclalaaDoorB0
import Derived.Test.YtlcjfabbnclalaaDoorF2
import Derived.Test.YtlcjfabbnclalaaDoorF5
namespace Go.Proofs.YtlcjfabbnclalaaDoor.F
open Go.RowKit Go.Proofs.YtlcjfabbnclalaaDoorW.PrintWords Go.Proofs.YtlcjfabbnclalaaDoorW.PrintLast Go.Proofs.YtlcjfabbnclalaaDoorW.PrintMore
attribute [local go_sem] max2_int min2_int max_two min_two max_three min_three max_four min_four   -- for this text's walks alone
set_option linter.unusedVariables false
set_option linter.unusedSimpArgs false

/-! ### num_Round: function 45 -/
def num_Round.j0 : Nat → Int → Bool → Int → Int → Option (Int × Int × Bool)
 | 0, _, _, _, _ => none
 | k + 1, x1, x16, x589000, x589001 => if x16 = true then (some (0, 0, false)) else ((num_taken.f k x589000 x589001).bind fun bt590 => ((num_power.f k (mx x1 0)).bind fun t592 => ((num_power.f k (mx (wrap64 (-x1)) 0)).bind fun t593 => ((num_size.f bt590.1).bind fun t594 => (if (wrap64 (2 * (wrap64 (bt590.2 * t593)))) = 0 then (none) else (if bt590.1 < 0 then ((num_Make.f k (wrap64 (-(wrap64 ((wrap64 (Int.tdiv (wrap64 ((wrap64 (2 * (wrap64 ((wrap64 (t594)) * t592)))) + (wrap64 (bt590.2 * t593)))) (wrap64 (2 * (wrap64 (bt590.2 * t593)))))) * t593)))) t592).bind fun bt595 => (some (bt595.1, bt595.2.1, bt595.2.2))) else ((num_Make.f k (wrap64 ((wrap64 (Int.tdiv (wrap64 ((wrap64 (2 * (wrap64 ((wrap64 (t594)) * t592)))) + (wrap64 (bt590.2 * t593)))) (wrap64 (2 * (wrap64 (bt590.2 * t593)))))) * t593)) t592).bind fun bt598 => (some (bt598.1, bt598.2.1, bt598.2.2)))))))))
def num_Round.f (k : Nat) (a0_0 : Int) (a0_1 : Int) (a1 : Int) : Option (Int × Int × Bool) := if a1 < (-12) then (num_Round.j0 k a1 true a0_0 a0_1) else (num_Round.j0 k a1 (decide (a1 > 6)) a0_0 a0_1)
theorem num_Round.mono_l : ∀ k, (∀ y0 y1 y2 y3, LeO (num_Round.j0 k y0 y1 y2 y3) (num_Round.j0 (k + 1) y0 y1 y2 y3))
 | 0 => fun _ _ _ _ r h => by simp [num_Round.j0] at h
 | k + 1 => by
  have ih0 := num_Round.mono_l k
  ·intro y0 y1 y2 y3
   unfold num_Round.j0
   repeat' first
   | (with_reducible exact ih0 _ _ _ _)
   | (with_reducible exact num_Make.mono _ _ _)
   | (with_reducible exact num_power.mono _ _)
   | (with_reducible exact num_taken.mono _ _ _)
   | (with_reducible exact LeO.refl _)
   | (with_reducible exact LeO.none _)
   | (with_reducible refine LeO.ite ?_ ?_)
   | (with_reducible refine LeO.bind ?_ (fun _ => ?_))
   | exact ih0 _ _ _ _
   | exact num_Make.mono _ _ _
   | exact num_power.mono _ _
   | exact num_taken.mono _ _ _
   | exact LeO.none _
   | refine LeO.ite ?_ ?_
   | refine LeO.bind ?_ (fun _ => ?_)
theorem num_Round.mono : ∀ a0 a1 a2 k, LeO (num_Round.f k a0 a1 a2) (num_Round.f (k + 1) a0 a1 a2) := by
 intro a0 a1 a2 k
 have ih0 := num_Round.mono_l k
 unfold num_Round.f
 repeat' first
   | (with_reducible exact ih0 _ _ _ _)
   | (with_reducible exact num_Make.mono _ _ _)
   | (with_reducible exact num_power.mono _ _)
   | (with_reducible exact num_taken.mono _ _ _)
   | (with_reducible exact LeO.refl _)
   | (with_reducible exact LeO.none _)
   | (with_reducible refine LeO.ite ?_ ?_)
   | (with_reducible refine LeO.bind ?_ (fun _ => ?_))
   | exact ih0 _ _ _ _
   | exact num_Make.mono _ _ _
   | exact num_power.mono _ _
   | exact num_taken.mono _ _ _
   | exact LeO.none _
   | refine LeO.ite ?_ ?_
   | refine LeO.bind ?_ (fun _ => ?_)
set_option maxHeartbeats 8000000 in
set_option maxRecDepth 100000 in
theorem num_Round.calls (k : Nat) (a0_0 : Int) (a0_1 : Int) (a1 : Int) (r1 : Int) (r2 : Int) (r3 : Bool) (w : World) (h : num_Round.f k a0_0 a0_1 a1 = some (r1, r2, r3)) :
  Calls Tryd.prog 45 #[.agg #[.int .i64 a0_0, .int .i64 a0_1], .int .i64 a1] w fun e w' => e = .returned (.tuple #[.agg #[.int .i64 r1, .int .i64 r2], .bool r3]) ∧ Below w.heap.size w w' := by
 have hu23 := Tryd.underlying23
 have HB := Aside0.mk (Below.refl w.heap.size w)
 have H : (if a1 < (-12) then (num_Round.j0 k a1 true a0_0 a0_1) else (num_Round.j0 k a1 (decide (a1 > 6)) a0_0 a0_1)) = some (r1, r2, r3) := h
 clear h
 have HC3 := Aside0.mk H
 clear H
 go_enter Tryd.func45, Tryd.ntmps45
 go_upto_region 1 with (first | ((with_reducible refine gate_dst (N := 2) rfl ?_); refine box_event ?hg (N := 2) ?hd (cs := #[.int .i64 a0_0, .int .i64 a0_1]) (t := 23) ?hr ?_; (case hd => rfl); (case hg => rfl); (case hr => first | (go_simp; done) | (go_simp; rfl)); intro gb588 hg w4 hbox hb; have n0_ := Aside0.mk (Boxes.new (b := w.heap.size) (L := []) trivial hg hbox hb (below_size (by repeat (first | (with_reducible first | exact HB.out | apply below_alloc | apply pw_below_drewN | apply below_drew1 | refine below_set ?_ (Aside0.out (by assumption))) | exact HB.out)))); have n1_ := Aside0.mk (below_step (by repeat (first | (with_reducible first | exact HB.out | apply below_alloc | apply pw_below_drewN | apply below_drew1 | refine below_set ?_ (Aside0.out (by assumption))) | exact HB.out)) hb); have n2_ := Aside0.mk ((by rw [hg]; exact (below_size (by repeat (first | (with_reducible first | exact HB.out | apply below_alloc | apply pw_below_drewN | apply below_drew1 | refine below_set ?_ (Aside0.out (by assumption))) | exact HB.out))) : w.heap.size ≤ gb588)); clear HB; have BX := n0_; have HB := n1_; have GE588 := n2_; clear n0_ n1_ n2_; clear hb hbox hg) | ((with_reducible refine gate_dst (N := 4) rfl ?_); refine box_event ?hg (N := 4) ?hd (cs := #[.int .i64 0, .int .i64 0]) (t := 23) ?hr ?_; (case hd => rfl); (case hg => rfl); (case hr => first | (go_simp; done) | (go_simp; rfl)); intro gb589 hg w5 hbox hb; have n0_ := Aside0.mk (Boxes.new (by (with_reducible repeat (first | apply boxes_drewN | apply boxes_drew | apply boxes_alloc)); exact BX.out) hg hbox hb (below_size (by repeat (first | (with_reducible first | exact HB.out | apply below_alloc | apply pw_below_drewN | apply below_drew1 | refine below_set ?_ (Aside0.out (by assumption))) | exact HB.out)))); have n1_ := Aside0.mk (below_step (by repeat (first | (with_reducible first | exact HB.out | apply below_alloc | apply pw_below_drewN | apply below_drew1 | refine below_set ?_ (Aside0.out (by assumption))) | exact HB.out)) hb); have n2_ := Aside0.mk ((by rw [hg]; exact (below_size (by repeat (first | (with_reducible first | exact HB.out | apply below_alloc | apply pw_below_drewN | apply below_drew1 | refine below_set ?_ (Aside0.out (by assumption))) | exact HB.out))) : w.heap.size ≤ gb589)); clear BX HB; have BX := n0_; have HB := n1_; have GE589 := n2_; clear n0_ n1_ n2_; clear hb hbox hg))
 repeat (go_quiet (first | ((with_reducible refine gate_dst (N := 2) rfl ?_); refine box_event ?hg (N := 2) ?hd (cs := #[.int .i64 a0_0, .int .i64 a0_1]) (t := 23) ?hr ?_; (case hd => rfl); (case hg => rfl); (case hr => first | (go_simp; done) | (go_simp; rfl)); intro gb588 hg w4 hbox hb; have n0_ := Aside0.mk (Boxes.new (b := w.heap.size) (L := []) trivial hg hbox hb (below_size (by repeat (first | (with_reducible first | exact HB.out | apply below_alloc | apply pw_below_drewN | apply below_drew1 | refine below_set ?_ (Aside0.out (by assumption))) | exact HB.out)))); have n1_ := Aside0.mk (below_step (by repeat (first | (with_reducible first | exact HB.out | apply below_alloc | apply pw_below_drewN | apply below_drew1 | refine below_set ?_ (Aside0.out (by assumption))) | exact HB.out)) hb); have n2_ := Aside0.mk ((by rw [hg]; exact (below_size (by repeat (first | (with_reducible first | exact HB.out | apply below_alloc | apply pw_below_drewN | apply below_drew1 | refine below_set ?_ (Aside0.out (by assumption))) | exact HB.out))) : w.heap.size ≤ gb588)); clear HB; have BX := n0_; have HB := n1_; have GE588 := n2_; clear n0_ n1_ n2_; clear hb hbox hg) | ((with_reducible refine gate_dst (N := 4) rfl ?_); refine box_event ?hg (N := 4) ?hd (cs := #[.int .i64 0, .int .i64 0]) (t := 23) ?hr ?_; (case hd => rfl); (case hg => rfl); (case hr => first | (go_simp; done) | (go_simp; rfl)); intro gb589 hg w5 hbox hb; have n0_ := Aside0.mk (Boxes.new (by (with_reducible repeat (first | apply boxes_drewN | apply boxes_drew | apply boxes_alloc)); exact BX.out) hg hbox hb (below_size (by repeat (first | (with_reducible first | exact HB.out | apply below_alloc | apply pw_below_drewN | apply below_drew1 | refine below_set ?_ (Aside0.out (by assumption))) | exact HB.out)))); have n1_ := Aside0.mk (below_step (by repeat (first | (with_reducible first | exact HB.out | apply below_alloc | apply pw_below_drewN | apply below_drew1 | refine below_set ?_ (Aside0.out (by assumption))) | exact HB.out)) hb); have n2_ := Aside0.mk ((by rw [hg]; exact (below_size (by repeat (first | (with_reducible first | exact HB.out | apply below_alloc | apply pw_below_drewN | apply below_drew1 | refine below_set ?_ (Aside0.out (by assumption))) | exact HB.out))) : w.heap.size ≤ gb589)); clear BX HB; have BX := n0_; have HB := n1_; have GE589 := n2_; clear n0_ n1_ n2_; clear hb hbox hg)); go_upto_region 1 with (first | ((with_reducible refine gate_dst (N := 2) rfl ?_); refine box_event ?hg (N := 2) ?hd (cs := #[.int .i64 a0_0, .int .i64 a0_1]) (t := 23) ?hr ?_; (case hd => rfl); (case hg => rfl); (case hr => first | (go_simp; done) | (go_simp; rfl)); intro gb588 hg w4 hbox hb; have n0_ := Aside0.mk (Boxes.new (b := w.heap.size) (L := []) trivial hg hbox hb (below_size (by repeat (first | (with_reducible first | exact HB.out | apply below_alloc | apply pw_below_drewN | apply below_drew1 | refine below_set ?_ (Aside0.out (by assumption))) | exact HB.out)))); have n1_ := Aside0.mk (below_step (by repeat (first | (with_reducible first | exact HB.out | apply below_alloc | apply pw_below_drewN | apply below_drew1 | refine below_set ?_ (Aside0.out (by assumption))) | exact HB.out)) hb); have n2_ := Aside0.mk ((by rw [hg]; exact (below_size (by repeat (first | (with_reducible first | exact HB.out | apply below_alloc | apply pw_below_drewN | apply below_drew1 | refine below_set ?_ (Aside0.out (by assumption))) | exact HB.out))) : w.heap.size ≤ gb588)); clear HB; have BX := n0_; have HB := n1_; have GE588 := n2_; clear n0_ n1_ n2_; clear hb hbox hg) | ((with_reducible refine gate_dst (N := 4) rfl ?_); refine box_event ?hg (N := 4) ?hd (cs := #[.int .i64 0, .int .i64 0]) (t := 23) ?hr ?_; (case hd => rfl); (case hg => rfl); (case hr => first | (go_simp; done) | (go_simp; rfl)); intro gb589 hg w5 hbox hb; have n0_ := Aside0.mk (Boxes.new (by (with_reducible repeat (first | apply boxes_drewN | apply boxes_drew | apply boxes_alloc)); exact BX.out) hg hbox hb (below_size (by repeat (first | (with_reducible first | exact HB.out | apply below_alloc | apply pw_below_drewN | apply below_drew1 | refine below_set ?_ (Aside0.out (by assumption))) | exact HB.out)))); have n1_ := Aside0.mk (below_step (by repeat (first | (with_reducible first | exact HB.out | apply below_alloc | apply pw_below_drewN | apply below_drew1 | refine below_set ?_ (Aside0.out (by assumption))) | exact HB.out)) hb); have n2_ := Aside0.mk ((by rw [hg]; exact (below_size (by repeat (first | (with_reducible first | exact HB.out | apply below_alloc | apply pw_below_drewN | apply below_drew1 | refine below_set ?_ (Aside0.out (by assumption))) | exact HB.out))) : w.heap.size ≤ gb589)); clear BX HB; have BX := n0_; have HB := n1_; have GE589 := n2_; clear n0_ n1_ n2_; clear hb hbox hg)))
 (try simp only [Act.put, List.setIfInBounds_toArray, List.set_cons_zero, List.set_cons_succ])
 go_cut [16] (fun v16 wc => ∃ (kq : Nat) (x16_2 : Bool), v16 = .bool x16_2 ∧ Aside0 (num_Round.j0 kq a1 x16_2 a0_0 a0_1 = some (r1, r2, r3)) ∧ Aside0 (kq ≤ k) ∧ Aside0 (Boxes w.heap.size wc [(gb589, 23, #[.int .i64 0, .int .i64 0]), (gb588, 23, #[.int .i64 a0_0, .int .i64 a0_1])]) ∧ Aside0 (Below w.heap.size w wc))
 case first =>
  have H := HC3.out
  clear HC3
  by_cases c6 : a1 < (-12)
  ·rw [if_pos c6] at H
   have c6b0 : decide (a1 < (-12)) = true := decide_eq_true c6
   clear c6
   (first | rw [c6b0] | (simp only [i64_w, i32_w]; rw [c6b0]) | skip)
   have H' := Aside0.mk H
   clear H
   go_wp2
   repeat (go_quiet (fail); try go_wp2)
   go_meet
   case rel => exact ⟨_, (true), (by first | rfl | (simp; done) | (simp [*]; done) | (simp [bne_nil]; done)), H', ⟨by first | omega | exact Nat.le_refl _⟩, ⟨by (with_reducible repeat (first | apply boxes_drewN | apply boxes_drew | apply boxes_alloc)); exact BX.out⟩, ⟨by repeat (first | (with_reducible first | exact HB.out | apply below_alloc | apply pw_below_drewN | apply below_drew1 | refine below_set ?_ (Aside0.out (by assumption))) | exact HB.out)⟩⟩
  ·rw [if_neg c6] at H
   have c6b0 : decide (a1 < (-12)) = false := decide_eq_false c6
   clear c6
   (first | rw [c6b0] | (simp only [i64_w, i32_w]; rw [c6b0]) | skip)
   have H' := Aside0.mk H
   clear H
   go_wp2
   repeat (go_quiet (fail); try go_wp2)
   go_meet
   case rel => exact ⟨_, (decide (a1 > 6)), (by first | rfl | (simp; done) | (simp [*]; done) | (simp [bne_nil]; done)), H', ⟨by first | omega | exact Nat.le_refl _⟩, ⟨by (with_reducible repeat (first | apply boxes_drewN | apply boxes_drew | apply boxes_alloc)); exact BX.out⟩, ⟨by repeat (first | (with_reducible first | exact HB.out | apply below_alloc | apply pw_below_drewN | apply below_drew1 | refine below_set ?_ (Aside0.out (by assumption))) | exact HB.out)⟩⟩
 case rest =>
  clear HC3
  try clear p2
  try clear c4
  try clear c6
  try clear c6b0
  obtain ⟨kq, x16_2, rfl, HA, HJ2, BX, HB⟩ := hcut
  cases kq with
  | zero => exact absurd HA.out (by simp [num_Round.j0])
  | succ kj2 =>
   have H := HA.out
   clear HA
   simp only [num_Round.j0] at H
   by_cases c7 : x16_2 = true
   ·subst c7
    have H1 : (some (0, 0, false)) = some (r1, r2, r3) := by rw [if_pos rfl] at H; exact H
    clear H
    have H := H1
    clear H1
    simp only [Option.some.injEq, Prod.mk.injEq] at H
    obtain ⟨rfl, rfl, rfl⟩ := H
    obtain ⟨⟨hnb8, hnc8⟩, -⟩ := BX.out.apart 0 rfl
    have hcz9_0 : wc.cell? ⟨gb589, 0, none⟩ = some (.int .i64 0) := (blk_cell (BX.out.get 0 rfl) 0).trans rfl
    have hcz9_1 : wc.cell? ⟨gb589, 1, none⟩ = some (.int .i64 0) := (blk_cell (BX.out.get 0 rfl) 1).trans rfl
    have hfz9_0 := blk_frozen (BX.out.get 0 rfl) 0
    have hfz9_1 := blk_frozen (BX.out.get 0 rfl) 1
    go_wp2
    repeat (go_quiet (fail); try go_wp2)
    refine bodyPost_ret (results_ct rfl _ _ gb589 23 #[.int .i64 0, .int .i64 0] (0, 0) _ rfl (by (with_reducible repeat (first | refine blk_drewN ?_ _ | refine blk_drew ?_ | refine blk_alloc ?_ _)); refine blk_put (cs := #[.int .i64 0, .int .i64 0]) ?_ 1 _ rfl; (with_reducible repeat (first | refine blk_drewN ?_ _ | refine blk_drew ?_ | refine blk_alloc ?_ _)); refine blk_put (cs := #[.int .i64 0, .int .i64 0]) ?_ 0 _ rfl; (with_reducible repeat (first | refine blk_drewN ?_ _ | refine blk_drew ?_ | refine blk_alloc ?_ _)); exact (BX.out.get 0 rfl)) Tryd.underlying23 rfl (by kernel_rfl)) rfl ?_
    exact ⟨by first | rfl | (simp [errW_none, errW_some] <;> rfl) | (simp [*, errW_none, errW_some] <;> rfl), by repeat (first | (with_reducible first | exact HB.out | apply below_alloc | apply pw_below_drewN | apply below_drew1 | refine below_set ?_ (Aside0.out (by assumption))) | exact HB.out)⟩
   ·replace c7 := Bool.eq_false_iff.mpr c7
    subst c7
    have H1 : ((num_taken.f kj2 a0_0 a0_1).bind fun bt590 => ((num_power.f kj2 (mx a1 0)).bind fun t592 => ((num_power.f kj2 (mx (wrap64 (-a1)) 0)).bind fun t593 => ((num_size.f bt590.1).bind fun t594 => (if (wrap64 (2 * (wrap64 (bt590.2 * t593)))) = 0 then (none) else (if bt590.1 < 0 then ((num_Make.f kj2 (wrap64 (-(wrap64 ((wrap64 (Int.tdiv (wrap64 ((wrap64 (2 * (wrap64 ((wrap64 (t594)) * t592)))) + (wrap64 (bt590.2 * t593)))) (wrap64 (2 * (wrap64 (bt590.2 * t593)))))) * t593)))) t592).bind fun bt595 => (some (bt595.1, bt595.2.1, bt595.2.2))) else ((num_Make.f kj2 (wrap64 ((wrap64 (Int.tdiv (wrap64 ((wrap64 (2 * (wrap64 ((wrap64 (t594)) * t592)))) + (wrap64 (bt590.2 * t593)))) (wrap64 (2 * (wrap64 (bt590.2 * t593)))))) * t593)) t592).bind fun bt598 => (some (bt598.1, bt598.2.1, bt598.2.2))))))))) = some (r1, r2, r3) := by rw [if_neg (show ¬ (false = true) by decide)] at H; exact H
    clear H
    have H := H1
    clear H1
    replace H := Option.bind_eq_some_iff.mp H
    obtain ⟨⟨t590, t591⟩, A100, H⟩ := H
    replace H : ((num_power.f kj2 (mx a1 0)).bind fun t592 => ((num_power.f kj2 (mx (wrap64 (-a1)) 0)).bind fun t593 => ((num_size.f t590).bind fun t594 => (if (wrap64 (2 * (wrap64 (t591 * t593)))) = 0 then (none) else (if t590 < 0 then ((num_Make.f kj2 (wrap64 (-(wrap64 ((wrap64 (Int.tdiv (wrap64 ((wrap64 (2 * (wrap64 ((wrap64 (t594)) * t592)))) + (wrap64 (t591 * t593)))) (wrap64 (2 * (wrap64 (t591 * t593)))))) * t593)))) t592).bind fun bt595 => (some (bt595.1, bt595.2.1, bt595.2.2))) else ((num_Make.f kj2 (wrap64 ((wrap64 (Int.tdiv (wrap64 ((wrap64 (2 * (wrap64 ((wrap64 (t594)) * t592)))) + (wrap64 (t591 * t593)))) (wrap64 (2 * (wrap64 (t591 * t593)))))) * t593)) t592).bind fun bt598 => (some (bt598.1, bt598.2.1, bt598.2.2)))))))) = some (r1, r2, r3) := H
    have A10 := Aside0.mk A100
    clear A100
    obtain ⟨ji11, hji11⟩ : ∃ j_ : Int, (mx a1 0) = j_ := ⟨_, rfl⟩
    replace H : ((num_power.f kj2 (ji11)).bind fun t592 => ((num_power.f kj2 (mx (wrap64 (-a1)) 0)).bind fun t593 => ((num_size.f t590).bind fun t594 => (if (wrap64 (2 * (wrap64 (t591 * t593)))) = 0 then (none) else (if t590 < 0 then ((num_Make.f kj2 (wrap64 (-(wrap64 ((wrap64 (Int.tdiv (wrap64 ((wrap64 (2 * (wrap64 ((wrap64 (t594)) * t592)))) + (wrap64 (t591 * t593)))) (wrap64 (2 * (wrap64 (t591 * t593)))))) * t593)))) t592).bind fun bt595 => (some (bt595.1, bt595.2.1, bt595.2.2))) else ((num_Make.f kj2 (wrap64 ((wrap64 (Int.tdiv (wrap64 ((wrap64 (2 * (wrap64 ((wrap64 (t594)) * t592)))) + (wrap64 (t591 * t593)))) (wrap64 (2 * (wrap64 (t591 * t593)))))) * t593)) t592).bind fun bt598 => (some (bt598.1, bt598.2.1, bt598.2.2)))))))) = some (r1, r2, r3) := by first | (rw [hji11] at H; exact H) | (simp only [hji11] at H ⊢; exact H)
    (try rw [hji11] at A10)
    have hji11_ : (if a1 < 0 then 0 else a1) = ji11 := hji11
    replace H := Option.bind_eq_some_iff.mp H
    obtain ⟨t592, A120, H⟩ := H
    replace H : ((num_power.f kj2 (mx (wrap64 (-a1)) 0)).bind fun t593 => ((num_size.f t590).bind fun t594 => (if (wrap64 (2 * (wrap64 (t591 * t593)))) = 0 then (none) else (if t590 < 0 then ((num_Make.f kj2 (wrap64 (-(wrap64 ((wrap64 (Int.tdiv (wrap64 ((wrap64 (2 * (wrap64 ((wrap64 (t594)) * t592)))) + (wrap64 (t591 * t593)))) (wrap64 (2 * (wrap64 (t591 * t593)))))) * t593)))) t592).bind fun bt595 => (some (bt595.1, bt595.2.1, bt595.2.2))) else ((num_Make.f kj2 (wrap64 ((wrap64 (Int.tdiv (wrap64 ((wrap64 (2 * (wrap64 ((wrap64 (t594)) * t592)))) + (wrap64 (t591 * t593)))) (wrap64 (2 * (wrap64 (t591 * t593)))))) * t593)) t592).bind fun bt598 => (some (bt598.1, bt598.2.1, bt598.2.2))))))) = some (r1, r2, r3) := H
    have A12 := Aside0.mk A120
    clear A120
    obtain ⟨ji13, hji13⟩ : ∃ j_ : Int, (mx (wrap64 (-a1)) 0) = j_ := ⟨_, rfl⟩
    replace H : ((num_power.f kj2 (ji13)).bind fun t593 => ((num_size.f t590).bind fun t594 => (if (wrap64 (2 * (wrap64 (t591 * t593)))) = 0 then (none) else (if t590 < 0 then ((num_Make.f kj2 (wrap64 (-(wrap64 ((wrap64 (Int.tdiv (wrap64 ((wrap64 (2 * (wrap64 ((wrap64 (t594)) * t592)))) + (wrap64 (t591 * t593)))) (wrap64 (2 * (wrap64 (t591 * t593)))))) * t593)))) t592).bind fun bt595 => (some (bt595.1, bt595.2.1, bt595.2.2))) else ((num_Make.f kj2 (wrap64 ((wrap64 (Int.tdiv (wrap64 ((wrap64 (2 * (wrap64 ((wrap64 (t594)) * t592)))) + (wrap64 (t591 * t593)))) (wrap64 (2 * (wrap64 (t591 * t593)))))) * t593)) t592).bind fun bt598 => (some (bt598.1, bt598.2.1, bt598.2.2))))))) = some (r1, r2, r3) := by first | (rw [hji13] at H; exact H) | (simp only [hji13] at H ⊢; exact H)
    (try rw [hji13] at A10)
    (try rw [hji13] at A12)
    have hji13_ : (if (wrap64 (-a1)) < 0 then 0 else (wrap64 (-a1))) = ji13 := hji13
    replace H := Option.bind_eq_some_iff.mp H
    obtain ⟨t593, A140, H⟩ := H
    have A14 := Aside0.mk A140
    clear A140
    replace H := Option.bind_eq_some_iff.mp H
    obtain ⟨t594, A150, H⟩ := H
    replace H : (if (wrap64 (2 * (wrap64 (t591 * t593)))) = 0 then (none) else (if t590 < 0 then ((num_Make.f kj2 (wrap64 (-(wrap64 ((wrap64 (Int.tdiv (wrap64 ((wrap64 (2 * (wrap64 ((wrap64 (t594)) * t592)))) + (wrap64 (t591 * t593)))) (wrap64 (2 * (wrap64 (t591 * t593)))))) * t593)))) t592).bind fun bt595 => (some (bt595.1, bt595.2.1, bt595.2.2))) else ((num_Make.f kj2 (wrap64 ((wrap64 (Int.tdiv (wrap64 ((wrap64 (2 * (wrap64 ((wrap64 (t594)) * t592)))) + (wrap64 (t591 * t593)))) (wrap64 (2 * (wrap64 (t591 * t593)))))) * t593)) t592).bind fun bt598 => (some (bt598.1, bt598.2.1, bt598.2.2))))) = some (r1, r2, r3) := H
    have A15 := Aside0.mk A150
    clear A150
    by_cases c16 : (wrap64 (2 * (wrap64 (t591 * t593)))) = 0
    ·rw [if_pos c16] at H
     exact absurd H (by simp)
    ·rw [if_neg c16] at H
     have c16b0 : ((wrap64 (2 * (wrap64 (t591 * t593)))) == 0) = false := beq_eq_false_iff_ne.mpr c16
     have c16b1 : ((wrap64 (2 * (wrap64 (t591 * t593)))) != 0) = true := bne_iff_ne.mpr c16
     by_cases c17 : t590 < 0
     ·rw [if_pos c17] at H
      have c17b0 : decide (t590 < 0) = true := decide_eq_true c17
      clear c17
      replace H := Option.bind_eq_some_iff.mp H
      obtain ⟨⟨t595, t596, t597⟩, A180, H⟩ := H
      replace H : (some (t595, t596, t597)) = some (r1, r2, r3) := H
      have A18 := Aside0.mk A180
      clear A180
      simp only [Option.some.injEq, Prod.mk.injEq] at H
      obtain ⟨rfl, rfl, rfl⟩ := H
      obtain ⟨⟨hnc19, hnb19⟩, -⟩ := BX.out.apart 0 rfl
      have hcz20_0 : wc.cell? ⟨gb588, 0, none⟩ = some (.int .i64 a0_0) := (blk_cell (BX.out.get 1 rfl) 0).trans rfl
      have hcz20_1 : wc.cell? ⟨gb588, 1, none⟩ = some (.int .i64 a0_1) := (blk_cell (BX.out.get 1 rfl) 1).trans rfl
      have hfz20_0 := blk_frozen (BX.out.get 1 rfl) 0
      have hfz20_1 := blk_frozen (BX.out.get 1 rfl) 1
      go_wp2_with (first | (go_at_call 63; (with_reducible refine (num_taken.calls kj2 a0_0 a0_1 t590 t591 _ A10.out).mono ?_); rintro e w21 ⟨rfl, hb⟩; have n0_ := Aside0.mk (Boxes.below (by (with_reducible repeat (first | apply boxes_drewN | apply boxes_drew | apply boxes_alloc)); exact BX.out) hb); have n1_ := Aside0.mk (below_step (by repeat (first | (with_reducible first | exact HB.out | apply below_alloc | apply pw_below_drewN | apply below_drew1 | refine below_set ?_ (Aside0.out (by assumption))) | exact HB.out)) hb); clear BX HB; have BX := n0_; have HB := n1_; clear n0_ n1_; (try clear hb); (try clear hb2); (try clear hk); (try clear hi); have hcz22_0 : w21.cell? ⟨gb588, 0, none⟩ = some (.int .i64 a0_0) := (blk_cell (BX.out.get 1 rfl) 0).trans rfl; have hcz22_1 : w21.cell? ⟨gb588, 1, none⟩ = some (.int .i64 a0_1) := (blk_cell (BX.out.get 1 rfl) 1).trans rfl; have hfz22_0 := blk_frozen (BX.out.get 1 rfl) 0; have hfz22_1 := blk_frozen (BX.out.get 1 rfl) 1) | (go_at_call 70; (with_reducible refine (num_power.calls kj2 ji11 t592 _ A12.out).mono ?_); rintro e w' ⟨rfl, ⟨nd, rfl⟩⟩; (try first | exact ⟨rfl, _, World.drewN_drewN _ _ _⟩ | exact ⟨rfl, _, Eq.trans (World.drewN_drewN _ _ _) (congrArg (World.drewN _) (Nat.add_assoc _ _ _))⟩)) | (go_at_call 70; (with_reducible refine (num_power.calls kj2 ji13 t593 _ A14.out).mono ?_); rintro e w' ⟨rfl, ⟨nd, rfl⟩⟩; (try first | exact ⟨rfl, _, World.drewN_drewN _ _ _⟩ | exact ⟨rfl, _, Eq.trans (World.drewN_drewN _ _ _) (congrArg (World.drewN _) (Nat.add_assoc _ _ _))⟩)) | (go_at_call 58; (with_reducible refine (num_size.calls t590 t594 _ A15.out).mono ?_); rintro e w' ⟨rfl, ⟨nd, rfl⟩⟩; (try first | exact ⟨rfl, _, World.drewN_drewN _ _ _⟩ | exact ⟨rfl, _, Eq.trans (World.drewN_drewN _ _ _) (congrArg (World.drewN _) (Nat.add_assoc _ _ _))⟩)) | (go_at_call 20; (with_reducible refine (num_Make.calls kj2 (wrap64 (-(wrap64 ((wrap64 (Int.tdiv (wrap64 ((wrap64 (2 * (wrap64 ((wrap64 (t594)) * t592)))) + (wrap64 (t591 * t593)))) (wrap64 (2 * (wrap64 (t591 * t593)))))) * t593)))) t592 t595 t596 t597 _ A18.out).mono ?_); rintro e w23 ⟨rfl, hb⟩; have n0_ : Aside0 (Boxes w.heap.size _ (_ :: (gb588, 23, #[.int .i64 t590, .int .i64 t591]) :: _)) := ⟨Boxes.below (by (with_reducible repeat (first | apply boxes_drewN | apply boxes_drew | apply boxes_alloc)); apply boxes_put 1; (with_reducible repeat (first | apply boxes_drewN | apply boxes_drew | apply boxes_alloc)); apply boxes_put 1; (with_reducible repeat (first | apply boxes_drewN | apply boxes_drew | apply boxes_alloc)); exact BX.out; any_goals rfl) hb⟩; have n1_ := Aside0.mk (below_step (by repeat (first | (with_reducible first | exact HB.out | apply below_alloc | apply pw_below_drewN | apply below_drew1 | refine below_set ?_ (Aside0.out (by assumption))) | exact HB.out)) hb); clear BX HB; have BX := n0_; have HB := n1_; clear n0_ n1_; (try clear hb); (try clear hb2); (try clear hk); (try clear hi); have hcz24_0 : w23.cell? ⟨gb589, 0, none⟩ = some (.int .i64 0) := (blk_cell (BX.out.get 0 rfl) 0).trans rfl; have hcz24_1 : w23.cell? ⟨gb589, 1, none⟩ = some (.int .i64 0) := (blk_cell (BX.out.get 0 rfl) 1).trans rfl; have hfz24_0 := blk_frozen (BX.out.get 0 rfl) 0; have hfz24_1 := blk_frozen (BX.out.get 0 rfl) 1))
      repeat (go_quiet (first | (go_at_call 63; (with_reducible refine (num_taken.calls kj2 a0_0 a0_1 t590 t591 _ A10.out).mono ?_); rintro e w21 ⟨rfl, hb⟩; have n0_ := Aside0.mk (Boxes.below (by (with_reducible repeat (first | apply boxes_drewN | apply boxes_drew | apply boxes_alloc)); exact BX.out) hb); have n1_ := Aside0.mk (below_step (by repeat (first | (with_reducible first | exact HB.out | apply below_alloc | apply pw_below_drewN | apply below_drew1 | refine below_set ?_ (Aside0.out (by assumption))) | exact HB.out)) hb); clear BX HB; have BX := n0_; have HB := n1_; clear n0_ n1_; (try clear hb); (try clear hb2); (try clear hk); (try clear hi); have hcz22_0 : w21.cell? ⟨gb588, 0, none⟩ = some (.int .i64 a0_0) := (blk_cell (BX.out.get 1 rfl) 0).trans rfl; have hcz22_1 : w21.cell? ⟨gb588, 1, none⟩ = some (.int .i64 a0_1) := (blk_cell (BX.out.get 1 rfl) 1).trans rfl; have hfz22_0 := blk_frozen (BX.out.get 1 rfl) 0; have hfz22_1 := blk_frozen (BX.out.get 1 rfl) 1) | (go_at_call 70; (with_reducible refine (num_power.calls kj2 ji11 t592 _ A12.out).mono ?_); rintro e w' ⟨rfl, ⟨nd, rfl⟩⟩; (try first | exact ⟨rfl, _, World.drewN_drewN _ _ _⟩ | exact ⟨rfl, _, Eq.trans (World.drewN_drewN _ _ _) (congrArg (World.drewN _) (Nat.add_assoc _ _ _))⟩)) | (go_at_call 70; (with_reducible refine (num_power.calls kj2 ji13 t593 _ A14.out).mono ?_); rintro e w' ⟨rfl, ⟨nd, rfl⟩⟩; (try first | exact ⟨rfl, _, World.drewN_drewN _ _ _⟩ | exact ⟨rfl, _, Eq.trans (World.drewN_drewN _ _ _) (congrArg (World.drewN _) (Nat.add_assoc _ _ _))⟩)) | (go_at_call 58; (with_reducible refine (num_size.calls t590 t594 _ A15.out).mono ?_); rintro e w' ⟨rfl, ⟨nd, rfl⟩⟩; (try first | exact ⟨rfl, _, World.drewN_drewN _ _ _⟩ | exact ⟨rfl, _, Eq.trans (World.drewN_drewN _ _ _) (congrArg (World.drewN _) (Nat.add_assoc _ _ _))⟩)) | (go_at_call 20; (with_reducible refine (num_Make.calls kj2 (wrap64 (-(wrap64 ((wrap64 (Int.tdiv (wrap64 ((wrap64 (2 * (wrap64 ((wrap64 (t594)) * t592)))) + (wrap64 (t591 * t593)))) (wrap64 (2 * (wrap64 (t591 * t593)))))) * t593)))) t592 t595 t596 t597 _ A18.out).mono ?_); rintro e w23 ⟨rfl, hb⟩; have n0_ : Aside0 (Boxes w.heap.size _ (_ :: (gb588, 23, #[.int .i64 t590, .int .i64 t591]) :: _)) := ⟨Boxes.below (by (with_reducible repeat (first | apply boxes_drewN | apply boxes_drew | apply boxes_alloc)); apply boxes_put 1; (with_reducible repeat (first | apply boxes_drewN | apply boxes_drew | apply boxes_alloc)); apply boxes_put 1; (with_reducible repeat (first | apply boxes_drewN | apply boxes_drew | apply boxes_alloc)); exact BX.out; any_goals rfl) hb⟩; have n1_ := Aside0.mk (below_step (by repeat (first | (with_reducible first | exact HB.out | apply below_alloc | apply pw_below_drewN | apply below_drew1 | refine below_set ?_ (Aside0.out (by assumption))) | exact HB.out)) hb); clear BX HB; have BX := n0_; have HB := n1_; clear n0_ n1_; (try clear hb); (try clear hb2); (try clear hk); (try clear hi); have hcz24_0 : w23.cell? ⟨gb589, 0, none⟩ = some (.int .i64 0) := (blk_cell (BX.out.get 0 rfl) 0).trans rfl; have hcz24_1 : w23.cell? ⟨gb589, 1, none⟩ = some (.int .i64 0) := (blk_cell (BX.out.get 0 rfl) 1).trans rfl; have hfz24_0 := blk_frozen (BX.out.get 0 rfl) 0; have hfz24_1 := blk_frozen (BX.out.get 0 rfl) 1)); try go_wp2_with (first | (go_at_call 63; (with_reducible refine (num_taken.calls kj2 a0_0 a0_1 t590 t591 _ A10.out).mono ?_); rintro e w21 ⟨rfl, hb⟩; have n0_ := Aside0.mk (Boxes.below (by (with_reducible repeat (first | apply boxes_drewN | apply boxes_drew | apply boxes_alloc)); exact BX.out) hb); have n1_ := Aside0.mk (below_step (by repeat (first | (with_reducible first | exact HB.out | apply below_alloc | apply pw_below_drewN | apply below_drew1 | refine below_set ?_ (Aside0.out (by assumption))) | exact HB.out)) hb); clear BX HB; have BX := n0_; have HB := n1_; clear n0_ n1_; (try clear hb); (try clear hb2); (try clear hk); (try clear hi); have hcz22_0 : w21.cell? ⟨gb588, 0, none⟩ = some (.int .i64 a0_0) := (blk_cell (BX.out.get 1 rfl) 0).trans rfl; have hcz22_1 : w21.cell? ⟨gb588, 1, none⟩ = some (.int .i64 a0_1) := (blk_cell (BX.out.get 1 rfl) 1).trans rfl; have hfz22_0 := blk_frozen (BX.out.get 1 rfl) 0; have hfz22_1 := blk_frozen (BX.out.get 1 rfl) 1) | (go_at_call 70; (with_reducible refine (num_power.calls kj2 ji11 t592 _ A12.out).mono ?_); rintro e w' ⟨rfl, ⟨nd, rfl⟩⟩; (try first | exact ⟨rfl, _, World.drewN_drewN _ _ _⟩ | exact ⟨rfl, _, Eq.trans (World.drewN_drewN _ _ _) (congrArg (World.drewN _) (Nat.add_assoc _ _ _))⟩)) | (go_at_call 70; (with_reducible refine (num_power.calls kj2 ji13 t593 _ A14.out).mono ?_); rintro e w' ⟨rfl, ⟨nd, rfl⟩⟩; (try first | exact ⟨rfl, _, World.drewN_drewN _ _ _⟩ | exact ⟨rfl, _, Eq.trans (World.drewN_drewN _ _ _) (congrArg (World.drewN _) (Nat.add_assoc _ _ _))⟩)) | (go_at_call 58; (with_reducible refine (num_size.calls t590 t594 _ A15.out).mono ?_); rintro e w' ⟨rfl, ⟨nd, rfl⟩⟩; (try first | exact ⟨rfl, _, World.drewN_drewN _ _ _⟩ | exact ⟨rfl, _, Eq.trans (World.drewN_drewN _ _ _) (congrArg (World.drewN _) (Nat.add_assoc _ _ _))⟩)) | (go_at_call 20; (with_reducible refine (num_Make.calls kj2 (wrap64 (-(wrap64 ((wrap64 (Int.tdiv (wrap64 ((wrap64 (2 * (wrap64 ((wrap64 (t594)) * t592)))) + (wrap64 (t591 * t593)))) (wrap64 (2 * (wrap64 (t591 * t593)))))) * t593)))) t592 t595 t596 t597 _ A18.out).mono ?_); rintro e w23 ⟨rfl, hb⟩; have n0_ : Aside0 (Boxes w.heap.size _ (_ :: (gb588, 23, #[.int .i64 t590, .int .i64 t591]) :: _)) := ⟨Boxes.below (by (with_reducible repeat (first | apply boxes_drewN | apply boxes_drew | apply boxes_alloc)); apply boxes_put 1; (with_reducible repeat (first | apply boxes_drewN | apply boxes_drew | apply boxes_alloc)); apply boxes_put 1; (with_reducible repeat (first | apply boxes_drewN | apply boxes_drew | apply boxes_alloc)); exact BX.out; any_goals rfl) hb⟩; have n1_ := Aside0.mk (below_step (by repeat (first | (with_reducible first | exact HB.out | apply below_alloc | apply pw_below_drewN | apply below_drew1 | refine below_set ?_ (Aside0.out (by assumption))) | exact HB.out)) hb); clear BX HB; have BX := n0_; have HB := n1_; clear n0_ n1_; (try clear hb); (try clear hb2); (try clear hk); (try clear hi); have hcz24_0 : w23.cell? ⟨gb589, 0, none⟩ = some (.int .i64 0) := (blk_cell (BX.out.get 0 rfl) 0).trans rfl; have hcz24_1 : w23.cell? ⟨gb589, 1, none⟩ = some (.int .i64 0) := (blk_cell (BX.out.get 0 rfl) 1).trans rfl; have hfz24_0 := blk_frozen (BX.out.get 0 rfl) 0; have hfz24_1 := blk_frozen (BX.out.get 0 rfl) 1)))
      refine bodyPost_ret (results_ct rfl _ _ gb589 23 #[.int .i64 t595, .int .i64 t596] (0, 0) _ rfl (by (with_reducible repeat (first | refine blk_drewN ?_ _ | refine blk_drew ?_ | refine blk_alloc ?_ _)); refine blk_put (cs := #[.int .i64 t595, .int .i64 0]) ?_ 1 _ rfl; (with_reducible repeat (first | refine blk_drewN ?_ _ | refine blk_drew ?_ | refine blk_alloc ?_ _)); refine blk_put (cs := #[.int .i64 0, .int .i64 0]) ?_ 0 _ rfl; (with_reducible repeat (first | refine blk_drewN ?_ _ | refine blk_drew ?_ | refine blk_alloc ?_ _)); exact (BX.out.get 0 rfl)) Tryd.underlying23 rfl (by kernel_rfl)) rfl ?_
      exact ⟨by first | rfl | (simp [errW_none, errW_some] <;> rfl) | (simp only [← hji11, ← hji13]; first | rfl | (simp [errW_none, errW_some] <;> rfl)) | (simp [*, errW_none, errW_some] <;> rfl), by repeat (first | (with_reducible first | exact HB.out | apply below_alloc | apply pw_below_drewN | apply below_drew1 | refine below_set ?_ (Aside0.out (by assumption))) | exact HB.out)⟩
     ·rw [if_neg c17] at H
      have c17b0 : decide (t590 < 0) = false := decide_eq_false c17
      clear c17
      replace H := Option.bind_eq_some_iff.mp H
      obtain ⟨⟨t598, t599, t600⟩, A250, H⟩ := H
      replace H : (some (t598, t599, t600)) = some (r1, r2, r3) := H
      have A25 := Aside0.mk A250
      clear A250
      simp only [Option.some.injEq, Prod.mk.injEq] at H
      obtain ⟨rfl, rfl, rfl⟩ := H
      obtain ⟨⟨hnc26, hnb26⟩, -⟩ := BX.out.apart 0 rfl
      have hcz27_0 : wc.cell? ⟨gb588, 0, none⟩ = some (.int .i64 a0_0) := (blk_cell (BX.out.get 1 rfl) 0).trans rfl
      have hcz27_1 : wc.cell? ⟨gb588, 1, none⟩ = some (.int .i64 a0_1) := (blk_cell (BX.out.get 1 rfl) 1).trans rfl
      have hfz27_0 := blk_frozen (BX.out.get 1 rfl) 0
      have hfz27_1 := blk_frozen (BX.out.get 1 rfl) 1
      go_wp2_with (first | (go_at_call 63; (with_reducible refine (num_taken.calls kj2 a0_0 a0_1 t590 t591 _ A10.out).mono ?_); rintro e w28 ⟨rfl, hb⟩; have n0_ := Aside0.mk (Boxes.below (by (with_reducible repeat (first | apply boxes_drewN | apply boxes_drew | apply boxes_alloc)); exact BX.out) hb); have n1_ := Aside0.mk (below_step (by repeat (first | (with_reducible first | exact HB.out | apply below_alloc | apply pw_below_drewN | apply below_drew1 | refine below_set ?_ (Aside0.out (by assumption))) | exact HB.out)) hb); clear BX HB; have BX := n0_; have HB := n1_; clear n0_ n1_; (try clear hb); (try clear hb2); (try clear hk); (try clear hi); have hcz29_0 : w28.cell? ⟨gb588, 0, none⟩ = some (.int .i64 a0_0) := (blk_cell (BX.out.get 1 rfl) 0).trans rfl; have hcz29_1 : w28.cell? ⟨gb588, 1, none⟩ = some (.int .i64 a0_1) := (blk_cell (BX.out.get 1 rfl) 1).trans rfl; have hfz29_0 := blk_frozen (BX.out.get 1 rfl) 0; have hfz29_1 := blk_frozen (BX.out.get 1 rfl) 1) | (go_at_call 70; (with_reducible refine (num_power.calls kj2 ji11 t592 _ A12.out).mono ?_); rintro e w' ⟨rfl, ⟨nd, rfl⟩⟩; (try first | exact ⟨rfl, _, World.drewN_drewN _ _ _⟩ | exact ⟨rfl, _, Eq.trans (World.drewN_drewN _ _ _) (congrArg (World.drewN _) (Nat.add_assoc _ _ _))⟩)) | (go_at_call 70; (with_reducible refine (num_power.calls kj2 ji13 t593 _ A14.out).mono ?_); rintro e w' ⟨rfl, ⟨nd, rfl⟩⟩; (try first | exact ⟨rfl, _, World.drewN_drewN _ _ _⟩ | exact ⟨rfl, _, Eq.trans (World.drewN_drewN _ _ _) (congrArg (World.drewN _) (Nat.add_assoc _ _ _))⟩)) | (go_at_call 58; (with_reducible refine (num_size.calls t590 t594 _ A15.out).mono ?_); rintro e w' ⟨rfl, ⟨nd, rfl⟩⟩; (try first | exact ⟨rfl, _, World.drewN_drewN _ _ _⟩ | exact ⟨rfl, _, Eq.trans (World.drewN_drewN _ _ _) (congrArg (World.drewN _) (Nat.add_assoc _ _ _))⟩)) | (go_at_call 20; (with_reducible refine (num_Make.calls kj2 (wrap64 ((wrap64 (Int.tdiv (wrap64 ((wrap64 (2 * (wrap64 ((wrap64 (t594)) * t592)))) + (wrap64 (t591 * t593)))) (wrap64 (2 * (wrap64 (t591 * t593)))))) * t593)) t592 t598 t599 t600 _ A25.out).mono ?_); rintro e w30 ⟨rfl, hb⟩; have n0_ : Aside0 (Boxes w.heap.size _ (_ :: (gb588, 23, #[.int .i64 t590, .int .i64 t591]) :: _)) := ⟨Boxes.below (by (with_reducible repeat (first | apply boxes_drewN | apply boxes_drew | apply boxes_alloc)); apply boxes_put 1; (with_reducible repeat (first | apply boxes_drewN | apply boxes_drew | apply boxes_alloc)); apply boxes_put 1; (with_reducible repeat (first | apply boxes_drewN | apply boxes_drew | apply boxes_alloc)); exact BX.out; any_goals rfl) hb⟩; have n1_ := Aside0.mk (below_step (by repeat (first | (with_reducible first | exact HB.out | apply below_alloc | apply pw_below_drewN | apply below_drew1 | refine below_set ?_ (Aside0.out (by assumption))) | exact HB.out)) hb); clear BX HB; have BX := n0_; have HB := n1_; clear n0_ n1_; (try clear hb); (try clear hb2); (try clear hk); (try clear hi); have hcz31_0 : w30.cell? ⟨gb589, 0, none⟩ = some (.int .i64 0) := (blk_cell (BX.out.get 0 rfl) 0).trans rfl; have hcz31_1 : w30.cell? ⟨gb589, 1, none⟩ = some (.int .i64 0) := (blk_cell (BX.out.get 0 rfl) 1).trans rfl; have hfz31_0 := blk_frozen (BX.out.get 0 rfl) 0; have hfz31_1 := blk_frozen (BX.out.get 0 rfl) 1))
      repeat (go_quiet (first | (go_at_call 63; (with_reducible refine (num_taken.calls kj2 a0_0 a0_1 t590 t591 _ A10.out).mono ?_); rintro e w28 ⟨rfl, hb⟩; have n0_ := Aside0.mk (Boxes.below (by (with_reducible repeat (first | apply boxes_drewN | apply boxes_drew | apply boxes_alloc)); exact BX.out) hb); have n1_ := Aside0.mk (below_step (by repeat (first | (with_reducible first | exact HB.out | apply below_alloc | apply pw_below_drewN | apply below_drew1 | refine below_set ?_ (Aside0.out (by assumption))) | exact HB.out)) hb); clear BX HB; have BX := n0_; have HB := n1_; clear n0_ n1_; (try clear hb); (try clear hb2); (try clear hk); (try clear hi); have hcz29_0 : w28.cell? ⟨gb588, 0, none⟩ = some (.int .i64 a0_0) := (blk_cell (BX.out.get 1 rfl) 0).trans rfl; have hcz29_1 : w28.cell? ⟨gb588, 1, none⟩ = some (.int .i64 a0_1) := (blk_cell (BX.out.get 1 rfl) 1).trans rfl; have hfz29_0 := blk_frozen (BX.out.get 1 rfl) 0; have hfz29_1 := blk_frozen (BX.out.get 1 rfl) 1) | (go_at_call 70; (with_reducible refine (num_power.calls kj2 ji11 t592 _ A12.out).mono ?_); rintro e w' ⟨rfl, ⟨nd, rfl⟩⟩; (try first | exact ⟨rfl, _, World.drewN_drewN _ _ _⟩ | exact ⟨rfl, _, Eq.trans (World.drewN_drewN _ _ _) (congrArg (World.drewN _) (Nat.add_assoc _ _ _))⟩)) | (go_at_call 70; (with_reducible refine (num_power.calls kj2 ji13 t593 _ A14.out).mono ?_); rintro e w' ⟨rfl, ⟨nd, rfl⟩⟩; (try first | exact ⟨rfl, _, World.drewN_drewN _ _ _⟩ | exact ⟨rfl, _, Eq.trans (World.drewN_drewN _ _ _) (congrArg (World.drewN _) (Nat.add_assoc _ _ _))⟩)) | (go_at_call 58; (with_reducible refine (num_size.calls t590 t594 _ A15.out).mono ?_); rintro e w' ⟨rfl, ⟨nd, rfl⟩⟩; (try first | exact ⟨rfl, _, World.drewN_drewN _ _ _⟩ | exact ⟨rfl, _, Eq.trans (World.drewN_drewN _ _ _) (congrArg (World.drewN _) (Nat.add_assoc _ _ _))⟩)) | (go_at_call 20; (with_reducible refine (num_Make.calls kj2 (wrap64 ((wrap64 (Int.tdiv (wrap64 ((wrap64 (2 * (wrap64 ((wrap64 (t594)) * t592)))) + (wrap64 (t591 * t593)))) (wrap64 (2 * (wrap64 (t591 * t593)))))) * t593)) t592 t598 t599 t600 _ A25.out).mono ?_); rintro e w30 ⟨rfl, hb⟩; have n0_ : Aside0 (Boxes w.heap.size _ (_ :: (gb588, 23, #[.int .i64 t590, .int .i64 t591]) :: _)) := ⟨Boxes.below (by (with_reducible repeat (first | apply boxes_drewN | apply boxes_drew | apply boxes_alloc)); apply boxes_put 1; (with_reducible repeat (first | apply boxes_drewN | apply boxes_drew | apply boxes_alloc)); apply boxes_put 1; (with_reducible repeat (first | apply boxes_drewN | apply boxes_drew | apply boxes_alloc)); exact BX.out; any_goals rfl) hb⟩; have n1_ := Aside0.mk (below_step (by repeat (first | (with_reducible first | exact HB.out | apply below_alloc | apply pw_below_drewN | apply below_drew1 | refine below_set ?_ (Aside0.out (by assumption))) | exact HB.out)) hb); clear BX HB; have BX := n0_; have HB := n1_; clear n0_ n1_; (try clear hb); (try clear hb2); (try clear hk); (try clear hi); have hcz31_0 : w30.cell? ⟨gb589, 0, none⟩ = some (.int .i64 0) := (blk_cell (BX.out.get 0 rfl) 0).trans rfl; have hcz31_1 : w30.cell? ⟨gb589, 1, none⟩ = some (.int .i64 0) := (blk_cell (BX.out.get 0 rfl) 1).trans rfl; have hfz31_0 := blk_frozen (BX.out.get 0 rfl) 0; have hfz31_1 := blk_frozen (BX.out.get 0 rfl) 1)); try go_wp2_with (first | (go_at_call 63; (with_reducible refine (num_taken.calls kj2 a0_0 a0_1 t590 t591 _ A10.out).mono ?_); rintro e w28 ⟨rfl, hb⟩; have n0_ := Aside0.mk (Boxes.below (by (with_reducible repeat (first | apply boxes_drewN | apply boxes_drew | apply boxes_alloc)); exact BX.out) hb); have n1_ := Aside0.mk (below_step (by repeat (first | (with_reducible first | exact HB.out | apply below_alloc | apply pw_below_drewN | apply below_drew1 | refine below_set ?_ (Aside0.out (by assumption))) | exact HB.out)) hb); clear BX HB; have BX := n0_; have HB := n1_; clear n0_ n1_; (try clear hb); (try clear hb2); (try clear hk); (try clear hi); have hcz29_0 : w28.cell? ⟨gb588, 0, none⟩ = some (.int .i64 a0_0) := (blk_cell (BX.out.get 1 rfl) 0).trans rfl; have hcz29_1 : w28.cell? ⟨gb588, 1, none⟩ = some (.int .i64 a0_1) := (blk_cell (BX.out.get 1 rfl) 1).trans rfl; have hfz29_0 := blk_frozen (BX.out.get 1 rfl) 0; have hfz29_1 := blk_frozen (BX.out.get 1 rfl) 1) | (go_at_call 70; (with_reducible refine (num_power.calls kj2 ji11 t592 _ A12.out).mono ?_); rintro e w' ⟨rfl, ⟨nd, rfl⟩⟩; (try first | exact ⟨rfl, _, World.drewN_drewN _ _ _⟩ | exact ⟨rfl, _, Eq.trans (World.drewN_drewN _ _ _) (congrArg (World.drewN _) (Nat.add_assoc _ _ _))⟩)) | (go_at_call 70; (with_reducible refine (num_power.calls kj2 ji13 t593 _ A14.out).mono ?_); rintro e w' ⟨rfl, ⟨nd, rfl⟩⟩; (try first | exact ⟨rfl, _, World.drewN_drewN _ _ _⟩ | exact ⟨rfl, _, Eq.trans (World.drewN_drewN _ _ _) (congrArg (World.drewN _) (Nat.add_assoc _ _ _))⟩)) | (go_at_call 58; (with_reducible refine (num_size.calls t590 t594 _ A15.out).mono ?_); rintro e w' ⟨rfl, ⟨nd, rfl⟩⟩; (try first | exact ⟨rfl, _, World.drewN_drewN _ _ _⟩ | exact ⟨rfl, _, Eq.trans (World.drewN_drewN _ _ _) (congrArg (World.drewN _) (Nat.add_assoc _ _ _))⟩)) | (go_at_call 20; (with_reducible refine (num_Make.calls kj2 (wrap64 ((wrap64 (Int.tdiv (wrap64 ((wrap64 (2 * (wrap64 ((wrap64 (t594)) * t592)))) + (wrap64 (t591 * t593)))) (wrap64 (2 * (wrap64 (t591 * t593)))))) * t593)) t592 t598 t599 t600 _ A25.out).mono ?_); rintro e w30 ⟨rfl, hb⟩; have n0_ : Aside0 (Boxes w.heap.size _ (_ :: (gb588, 23, #[.int .i64 t590, .int .i64 t591]) :: _)) := ⟨Boxes.below (by (with_reducible repeat (first | apply boxes_drewN | apply boxes_drew | apply boxes_alloc)); apply boxes_put 1; (with_reducible repeat (first | apply boxes_drewN | apply boxes_drew | apply boxes_alloc)); apply boxes_put 1; (with_reducible repeat (first | apply boxes_drewN | apply boxes_drew | apply boxes_alloc)); exact BX.out; any_goals rfl) hb⟩; have n1_ := Aside0.mk (below_step (by repeat (first | (with_reducible first | exact HB.out | apply below_alloc | apply pw_below_drewN | apply below_drew1 | refine below_set ?_ (Aside0.out (by assumption))) | exact HB.out)) hb); clear BX HB; have BX := n0_; have HB := n1_; clear n0_ n1_; (try clear hb); (try clear hb2); (try clear hk); (try clear hi); have hcz31_0 : w30.cell? ⟨gb589, 0, none⟩ = some (.int .i64 0) := (blk_cell (BX.out.get 0 rfl) 0).trans rfl; have hcz31_1 : w30.cell? ⟨gb589, 1, none⟩ = some (.int .i64 0) := (blk_cell (BX.out.get 0 rfl) 1).trans rfl; have hfz31_0 := blk_frozen (BX.out.get 0 rfl) 0; have hfz31_1 := blk_frozen (BX.out.get 0 rfl) 1)))
      refine bodyPost_ret (results_ct rfl _ _ gb589 23 #[.int .i64 t598, .int .i64 t599] (0, 0) _ rfl (by (with_reducible repeat (first | refine blk_drewN ?_ _ | refine blk_drew ?_ | refine blk_alloc ?_ _)); refine blk_put (cs := #[.int .i64 t598, .int .i64 0]) ?_ 1 _ rfl; (with_reducible repeat (first | refine blk_drewN ?_ _ | refine blk_drew ?_ | refine blk_alloc ?_ _)); refine blk_put (cs := #[.int .i64 0, .int .i64 0]) ?_ 0 _ rfl; (with_reducible repeat (first | refine blk_drewN ?_ _ | refine blk_drew ?_ | refine blk_alloc ?_ _)); exact (BX.out.get 0 rfl)) Tryd.underlying23 rfl (by kernel_rfl)) rfl ?_
      exact ⟨by first | rfl | (simp [errW_none, errW_some] <;> rfl) | (simp only [← hji11, ← hji13]; first | rfl | (simp [errW_none, errW_some] <;> rfl)) | (simp [*, errW_none, errW_some] <;> rfl), by repeat (first | (with_reducible first | exact HB.out | apply below_alloc | apply pw_below_drewN | apply below_drew1 | refine below_set ?_ (Aside0.out (by assumption))) | exact HB.out)⟩

/-! ### num_floor: function 74 -/
def num_floor.f (a0 : Int) (a1 : Int) : Option (Int) := if a1 = 0 then (none) else (if (Int.tmod a0 a1) = 0 then (some (wrap64 (Int.tdiv a0 a1))) else (if ((decide (a0 < 0)) != (decide (a1 < 0))) = true then (some (wrap64 ((wrap64 (Int.tdiv a0 a1)) - 1))) else (some (wrap64 (Int.tdiv a0 a1)))))
set_option maxHeartbeats 8000000 in
set_option maxRecDepth 100000 in
theorem num_floor.calls (a0 : Int) (a1 : Int) (r : Int) (w : World) (h : num_floor.f a0 a1 = some r) :
  Calls Tryd.prog 74 #[.int .i64 a0, .int .i64 a1] w fun e w' => e = .returned (.int .i64 r) ∧ Drawn0 w w' := by
 have H : (if a1 = 0 then (none) else (if (Int.tmod a0 a1) = 0 then (some (wrap64 (Int.tdiv a0 a1))) else (if ((decide (a0 < 0)) != (decide (a1 < 0))) = true then (some (wrap64 ((wrap64 (Int.tdiv a0 a1)) - 1))) else (some (wrap64 (Int.tdiv a0 a1)))))) = some r := h
 clear h
 by_cases c3 : a1 = 0
 ·rw [if_pos c3] at H
  exact absurd H (by simp)
 ·rw [if_neg c3] at H
  have c3b0 : (a1 == 0) = false := beq_eq_false_iff_ne.mpr c3
  have c3b1 : (a1 != 0) = true := bne_iff_ne.mpr c3
  by_cases c4 : (Int.tmod a0 a1) = 0
  ·rw [if_pos c4] at H
   have c4b0 : ((Int.tmod a0 a1) == 0) = true := beq_iff_eq.mpr c4
   have c4b1 : ((Int.tmod a0 a1) != 0) = false := bne_eq_false_iff_eq.mpr c4
   clear c4
   obtain rfl := Option.some.inj H
   go_enter Tryd.func74, Tryd.ntmps74
   go_wp2
   go_ret
   exact ⟨by first | rfl | (simp; done) | (simp [*]; done) | (simp [bne_nil]; done), by repeat (first | exact Drawn0.refl _ | apply Drawn0.step)⟩
  ·rw [if_neg c4] at H
   have c4b0 : ((Int.tmod a0 a1) == 0) = false := beq_eq_false_iff_ne.mpr c4
   have c4b1 : ((Int.tmod a0 a1) != 0) = true := bne_iff_ne.mpr c4
   by_cases c5 : ((decide (a0 < 0)) != (decide (a1 < 0))) = true
   ·rw [if_pos c5] at H
    have c5b0 : ((decide (a0 < 0)) != (decide (a1 < 0))) = true := c5
    (try (have c5b1 : decide ((decide (a0 < 0)) = (decide (a1 < 0))) = false := by simpa using c5))
    (try (have c5b2 : ((decide (a0 < 0)) == (decide (a1 < 0))) = false := by simpa using c5))
    (try (have c5b3 : ¬ ((decide (a0 < 0)) = (decide (a1 < 0))) := by simpa using c5))
    clear c5
    obtain rfl := Option.some.inj H
    go_enter Tryd.func74, Tryd.ntmps74
    go_wp2
    go_ret
    exact ⟨by first | rfl | (simp; done) | (simp [*]; done) | (simp [bne_nil]; done), by repeat (first | exact Drawn0.refl _ | apply Drawn0.step)⟩
   ·rw [if_neg c5] at H
    have c5b0 : ((decide (a0 < 0)) != (decide (a1 < 0))) = false := by simpa using c5
    (try (have c5b1 : decide ((decide (a0 < 0)) = (decide (a1 < 0))) = true := by simpa using c5))
    (try (have c5b2 : ((decide (a0 < 0)) == (decide (a1 < 0))) = true := by simpa using c5))
    clear c5
    obtain rfl := Option.some.inj H
    go_enter Tryd.func74, Tryd.ntmps74
    go_wp2
    go_ret
    exact ⟨by first | rfl | (simp; done) | (simp [*]; done) | (simp [bne_nil]; done), by repeat (first | exact Drawn0.refl _ | apply Drawn0.step)⟩

/-! ### num_Floor: function 47 -/
def num_Floor.f (k : Nat) (a0_0 : Int) (a0_1 : Int) : Option (Int × Int) := (num_taken.f k a0_0 a0_1).bind fun bt603 => ((num_floor.f bt603.1 bt603.2).bind fun t605 => (some (t605, 1)))
theorem num_Floor.mono : ∀ a0 a1 k, LeO (num_Floor.f k a0 a1) (num_Floor.f (k + 1) a0 a1) := by
 intro a0 a1 k
 unfold num_Floor.f
 repeat' first
   | (with_reducible exact num_taken.mono _ _ _)
   | (with_reducible exact LeO.refl _)
   | (with_reducible exact LeO.none _)
   | (with_reducible refine LeO.ite ?_ ?_)
   | (with_reducible refine LeO.bind ?_ (fun _ => ?_))
   | exact num_taken.mono _ _ _
   | exact LeO.none _
   | refine LeO.ite ?_ ?_
   | refine LeO.bind ?_ (fun _ => ?_)
set_option maxHeartbeats 8000000 in
set_option maxRecDepth 100000 in
theorem num_Floor.calls (k : Nat) (a0_0 : Int) (a0_1 : Int) (r1 : Int) (r2 : Int) (w : World) (h : num_Floor.f k a0_0 a0_1 = some (r1, r2)) :
  Calls Tryd.prog 47 #[.agg #[.int .i64 a0_0, .int .i64 a0_1]] w fun e w' => e = .returned (.agg #[.int .i64 r1, .int .i64 r2]) ∧ Below w.heap.size w w' := by
 have hu23 := Tryd.underlying23
 have HB := Aside0.mk (Below.refl w.heap.size w)
 have H : ((num_taken.f k a0_0 a0_1).bind fun bt603 => ((num_floor.f bt603.1 bt603.2).bind fun t605 => (some (t605, 1)))) = some (r1, r2) := h
 clear h
 replace H := Option.bind_eq_some_iff.mp H
 obtain ⟨⟨t603, t604⟩, A20, H⟩ := H
 have A2 := Aside0.mk A20
 clear A20
 replace H := Option.bind_eq_some_iff.mp H
 obtain ⟨t605, A30, H⟩ := H
 replace H : (some (t605, 1)) = some (r1, r2) := H
 have A3 := Aside0.mk A30
 clear A30
 simp only [Option.some.injEq, Prod.mk.injEq] at H
 obtain ⟨rfl, rfl⟩ := H
 go_enter Tryd.func47, Tryd.ntmps47
 go_wp2_with (first | ((with_reducible refine gate_dst (N := 1) rfl ?_); refine box_event ?hg (N := 1) ?hd (cs := #[.int .i64 a0_0, .int .i64 a0_1]) (t := 23) ?hr ?_; (case hd => rfl); (case hg => rfl); (case hr => first | (go_simp; done) | (go_simp; rfl)); intro gb601 hg w4 hbox hb; have n0_ := Aside0.mk (Boxes.new (b := w.heap.size) (L := []) trivial hg hbox hb (below_size (by repeat (first | (with_reducible first | exact HB.out | apply below_alloc | apply pw_below_drewN | apply below_drew1 | refine below_set ?_ (Aside0.out (by assumption))) | exact HB.out)))); have n1_ := Aside0.mk (below_step (by repeat (first | (with_reducible first | exact HB.out | apply below_alloc | apply pw_below_drewN | apply below_drew1 | refine below_set ?_ (Aside0.out (by assumption))) | exact HB.out)) hb); have n2_ := Aside0.mk ((by rw [hg]; exact (below_size (by repeat (first | (with_reducible first | exact HB.out | apply below_alloc | apply pw_below_drewN | apply below_drew1 | refine below_set ?_ (Aside0.out (by assumption))) | exact HB.out))) : w.heap.size ≤ gb601)); clear HB; have BX := n0_; have HB := n1_; have GE601 := n2_; clear n0_ n1_ n2_; clear hb hbox hg) | ((with_reducible refine gate_dst (N := 2) rfl ?_); refine box_event ?hg (N := 2) ?hd (cs := #[.int .i64 0, .int .i64 0]) (t := 23) ?hr ?_; (case hd => rfl); (case hg => rfl); (case hr => first | (go_simp; done) | (go_simp; rfl)); intro gb602 hg w5 hbox hb; have n0_ := Aside0.mk (Boxes.new (by (with_reducible repeat (first | apply boxes_drewN | apply boxes_drew | apply boxes_alloc)); exact BX.out) hg hbox hb (below_size (by repeat (first | (with_reducible first | exact HB.out | apply below_alloc | apply pw_below_drewN | apply below_drew1 | refine below_set ?_ (Aside0.out (by assumption))) | exact HB.out)))); have n1_ := Aside0.mk (below_step (by repeat (first | (with_reducible first | exact HB.out | apply below_alloc | apply pw_below_drewN | apply below_drew1 | refine below_set ?_ (Aside0.out (by assumption))) | exact HB.out)) hb); have n2_ := Aside0.mk ((by rw [hg]; exact (below_size (by repeat (first | (with_reducible first | exact HB.out | apply below_alloc | apply pw_below_drewN | apply below_drew1 | refine below_set ?_ (Aside0.out (by assumption))) | exact HB.out))) : w.heap.size ≤ gb602)); clear BX HB; have BX := n0_; have HB := n1_; have GE602 := n2_; clear n0_ n1_ n2_; clear hb hbox hg; obtain ⟨⟨hnc6, hnb6⟩, -⟩ := BX.out.apart 0 rfl; have hcz7_0 : w5.cell? ⟨gb601, 0, none⟩ = some (.int .i64 a0_0) := (blk_cell (BX.out.get 1 rfl) 0).trans rfl; have hcz7_1 : w5.cell? ⟨gb601, 1, none⟩ = some (.int .i64 a0_1) := (blk_cell (BX.out.get 1 rfl) 1).trans rfl; have hfz7_0 := blk_frozen (BX.out.get 1 rfl) 0; have hfz7_1 := blk_frozen (BX.out.get 1 rfl) 1) | ((with_reducible refine gate_callee (f := 63) rfl ?_); refine goesL_ (some 4) rfl rfl Tryd.func63 (by kernel_rfl) rfl #[.agg #[.int .i64 a0_0, .int .i64 a0_1]] rfl (by (try simp only [List.map_toArray, List.map_cons, List.map_nil]); first | done | rfl | (simp only [List.length_drop, List.length_take]; rfl)) ?_; (with_reducible refine (num_taken.calls k a0_0 a0_1 t603 t604 _ A2.out).mono ?_); rintro e w8 ⟨rfl, hb⟩; refine ⟨_, rfl, ?_⟩; have n0_ := Aside0.mk (Boxes.below (by (with_reducible repeat (first | apply boxes_drewN | apply boxes_drew | apply boxes_alloc)); exact BX.out) hb); have n1_ := Aside0.mk (below_step (by repeat (first | (with_reducible first | exact HB.out | apply below_alloc | apply pw_below_drewN | apply below_drew1 | refine below_set ?_ (Aside0.out (by assumption))) | exact HB.out)) hb); clear BX HB; have BX := n0_; have HB := n1_; clear n0_ n1_; (try clear hb); (try clear hb2); (try clear hk); (try clear hi); have hcz9_0 : w8.cell? ⟨gb601, 0, none⟩ = some (.int .i64 a0_0) := (blk_cell (BX.out.get 1 rfl) 0).trans rfl; have hcz9_1 : w8.cell? ⟨gb601, 1, none⟩ = some (.int .i64 a0_1) := (blk_cell (BX.out.get 1 rfl) 1).trans rfl; have hfz9_0 := blk_frozen (BX.out.get 1 rfl) 0; have hfz9_1 := blk_frozen (BX.out.get 1 rfl) 1) | ((with_reducible refine gate_callee (f := 74) rfl ?_); refine goesL_ (some 9) rfl rfl Tryd.func74 (by kernel_rfl) rfl #[.int .i64 t603, .int .i64 t604] rfl (by (try simp only [List.map_toArray, List.map_cons, List.map_nil]); first | done | rfl | (simp only [List.length_drop, List.length_take]; rfl)) ?_; (with_reducible refine (num_floor.calls t603 t604 t605 _ A3.out).mono ?_); rintro e w' ⟨rfl, ⟨nd, rfl⟩⟩; refine ⟨_, rfl, ?_⟩; have hcz10_0 : w8.cell? ⟨gb602, 0, none⟩ = some (.int .i64 0) := (blk_cell (BX.out.get 0 rfl) 0).trans rfl; have hcz10_1 : w8.cell? ⟨gb602, 1, none⟩ = some (.int .i64 0) := (blk_cell (BX.out.get 0 rfl) 1).trans rfl; have hfz10_0 := blk_frozen (BX.out.get 0 rfl) 0; have hfz10_1 := blk_frozen (BX.out.get 0 rfl) 1))
 refine bodyPost_ret (results_cell_row rfl _ _ gb602 23 #[.int .i64 t605, .int .i64 1] (0, 0) _ rfl (by (with_reducible repeat (first | refine blk_drewN ?_ _ | refine blk_drew ?_ | refine blk_alloc ?_ _)); refine blk_put (cs := #[.int .i64 t605, .int .i64 0]) ?_ 1 _ rfl; (with_reducible repeat (first | refine blk_drewN ?_ _ | refine blk_drew ?_ | refine blk_alloc ?_ _)); refine blk_put (cs := #[.int .i64 0, .int .i64 0]) ?_ 0 _ rfl; (with_reducible repeat (first | refine blk_drewN ?_ _ | refine blk_drew ?_ | refine blk_alloc ?_ _)); refine blk_far ?_ (BX.out.ne 0 1 rfl rfl (by decide)) _; (with_reducible repeat (first | refine blk_drewN ?_ _ | refine blk_drew ?_ | refine blk_alloc ?_ _)); refine blk_far ?_ (BX.out.ne 0 1 rfl rfl (by decide)) _; (with_reducible repeat (first | refine blk_drewN ?_ _ | refine blk_drew ?_ | refine blk_alloc ?_ _)); exact (BX.out.get 0 rfl)) Tryd.underlying23 rfl (by kernel_rfl)) rfl ?_
 exact ⟨by first | rfl | (simp [errW_none, errW_some] <;> rfl) | (simp [*, errW_none, errW_some] <;> rfl), by repeat (first | (with_reducible first | exact HB.out | apply below_alloc | apply pw_below_drewN | apply below_drew1 | refine below_set ?_ (Aside0.out (by assumption))) | exact HB.out)⟩

/-! ### whittlelaw1_one: function 48 -/
def whittlelaw1_one.f  : Option (Int × Int) := some (1, 1)
set_option maxHeartbeats 8000000 in
set_option maxRecDepth 100000 in
theorem whittlelaw1_one.calls  (r1 : Int) (r2 : Int) (w : World) (h : whittlelaw1_one.f  = some (r1, r2)) :
  Calls Tryd.prog 48 #[] w fun e w' => e = .returned (.agg #[.int .i64 r1, .int .i64 r2]) ∧ Below w.heap.size w w' := by
 have hu23 := Tryd.underlying23
 have HB := Aside0.mk (Below.refl w.heap.size w)
 have H : (some (1, 1)) = some (r1, r2) := h
 clear h
 simp only [Option.some.injEq, Prod.mk.injEq] at H
 obtain ⟨rfl, rfl⟩ := H
 go_enter Tryd.func48, Tryd.ntmps48
 go_wp2_with (first | ((with_reducible refine gate_dst (N := 0) rfl ?_); refine box_event ?hg (N := 0) ?hd (cs := #[.int .i64 0, .int .i64 0]) (t := 23) ?hr ?_; (case hd => rfl); (case hg => rfl); (case hr => first | (go_simp; done) | (go_simp; rfl)); intro gb606 hg w1 hbox hb; have n0_ := Aside0.mk (Boxes.new (b := w.heap.size) (L := []) trivial hg hbox hb (below_size (by repeat (first | (with_reducible first | exact HB.out | apply below_alloc | apply pw_below_drewN | apply below_drew1 | refine below_set ?_ (Aside0.out (by assumption))) | exact HB.out)))); have n1_ := Aside0.mk (below_step (by repeat (first | (with_reducible first | exact HB.out | apply below_alloc | apply pw_below_drewN | apply below_drew1 | refine below_set ?_ (Aside0.out (by assumption))) | exact HB.out)) hb); have n2_ := Aside0.mk ((by rw [hg]; exact (below_size (by repeat (first | (with_reducible first | exact HB.out | apply below_alloc | apply pw_below_drewN | apply below_drew1 | refine below_set ?_ (Aside0.out (by assumption))) | exact HB.out))) : w.heap.size ≤ gb606)); clear HB; have BX := n0_; have HB := n1_; have GE606 := n2_; clear n0_ n1_ n2_; clear hb hbox hg; have hcz2_0 : w1.cell? ⟨gb606, 0, none⟩ = some (.int .i64 0) := (blk_cell (BX.out.get 0 rfl) 0).trans rfl; have hcz2_1 : w1.cell? ⟨gb606, 1, none⟩ = some (.int .i64 0) := (blk_cell (BX.out.get 0 rfl) 1).trans rfl; have hfz2_0 := blk_frozen (BX.out.get 0 rfl) 0; have hfz2_1 := blk_frozen (BX.out.get 0 rfl) 1))
 refine bodyPost_ret (results_cell_row rfl _ _ gb606 23 #[.int .i64 1, .int .i64 1] (0, 0) _ rfl (by (with_reducible repeat (first | refine blk_drewN ?_ _ | refine blk_drew ?_ | refine blk_alloc ?_ _)); refine blk_put (cs := #[.int .i64 1, .int .i64 0]) ?_ 1 _ rfl; (with_reducible repeat (first | refine blk_drewN ?_ _ | refine blk_drew ?_ | refine blk_alloc ?_ _)); refine blk_put (cs := #[.int .i64 0, .int .i64 0]) ?_ 0 _ rfl; (with_reducible repeat (first | refine blk_drewN ?_ _ | refine blk_drew ?_ | refine blk_alloc ?_ _)); exact (BX.out.get 0 rfl)) Tryd.underlying23 rfl (by kernel_rfl)) rfl ?_
 exact ⟨by first | rfl | (simp [errW_none, errW_some] <;> rfl) | (simp [*, errW_none, errW_some] <;> rfl), by repeat (first | (with_reducible first | exact HB.out | apply below_alloc | apply pw_below_drewN | apply below_drew1 | refine below_set ?_ (Aside0.out (by assumption))) | exact HB.out)⟩

-- NOT PRINTED: function 14 (whittlelaw1_NumRounds)

end Go.Proofs.YtlcjfabbnclalaaDoor.F
