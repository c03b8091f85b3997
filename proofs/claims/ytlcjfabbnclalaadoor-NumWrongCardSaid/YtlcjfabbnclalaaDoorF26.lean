-- Laid by program (wip/tools/gen.sh of this repo) out of the translation; Lean checks it.
import Derived.Test.YtlcjfabbnclalaaDoorF0
import Derived.Test.YtlcjfabbnclalaaDoorB0
import Derived.Test.YtlcjfabbnclalaaDoorF2
namespace Go.Proofs.YtlcjfabbnclalaaDoor.F
open Go.RowKit Go.Proofs.YtlcjfabbnclalaaDoorW.PrintWords Go.Proofs.YtlcjfabbnclalaaDoorW.PrintLast Go.Proofs.YtlcjfabbnclalaaDoorW.PrintMore
attribute [local go_sem] max2_int min2_int max_two min_two max_three min_three max_four min_four   -- for this text's walks alone
set_option linter.unusedVariables false
set_option linter.unusedSimpArgs false

/-! ### num_Pow: function 43 -/
mutual
def num_Pow.j0 : Nat → Int → Bool → Bool → Int → Int → Option (Int × Int × Bool)
 | 0, _, _, _, _, _ => none
 | k + 1, x1, x6, x19, x558000, x558001 => if x19 = true then (some (1, 1, true)) else (if x558000 = 0 then (num_Pow.j1 k x1 x6 (decide (x1 < 0)) x558000 x558001) else (num_Pow.j1 k x1 x6 false x558000 x558001))
def num_Pow.j1 : Nat → Int → Bool → Bool → Int → Int → Option (Int × Int × Bool)
 | 0, _, _, _, _, _ => none
 | k + 1, x1, x6, x33, x558000, x558001 => if x33 = true then (some (0, 0, false)) else (if x558000 = 0 then (some (x558000, x558001, true)) else ((num_size.f x558000).bind fun t561 => ((num_size.f x1).bind fun t562 => (if x1 < 0 then (num_Pow.j2 k x6 (IntKind.u64.wrap (x558001)) t561 t562 x558000 x558001) else (num_Pow.j2 k x6 t561 (IntKind.u64.wrap (x558001)) t562 x558000 x558001)))))
def num_Pow.j2 : Nat → Bool → Int → Int → Int → Int → Int → Option (Int × Int × Bool)
 | 0, _, _, _, _, _, _ => none
 | k + 1, x6, x7, x8, x9, x558000, x558001 => num_Pow.l0 k x6 x7 x8 x9 1 1 0 x558000 x558001
def num_Pow.l0 : Nat → Bool → Int → Int → Int → Int → Int → Int → Int → Int → Option (Int × Int × Bool)
 | 0, _, _, _, _, _, _, _, _, _ => none
 | k + 1, x6, x7, x8, x9, x10, x11, x12, x558000, x558001 => if x12 < x9 then (num_Pow.j4 k x6 x7 x8 x9 x10 x11 x12 (decide ((IntKind.u64.wrap (x7 * x8)) > 1)) x558000 x558001) else (num_Pow.j4 k x6 x7 x8 x9 x10 x11 x12 false x558000 x558001)
def num_Pow.j4 : Nat → Bool → Int → Int → Int → Int → Int → Int → Bool → Int → Int → Option (Int × Int × Bool)
 | 0, _, _, _, _, _, _, _, _, _, _ => none
 | k + 1, x6, x7, x8, x9, x10, x11, x12, x67, x558000, x558001 => if x67 = true then (if x7 = 0 then (none) else (if x10 > (IntKind.u64.wrap (Int.tdiv (1000000000000 : Int) x7)) then (some (0, 0, false)) else (if x8 = 0 then (none) else (if x11 > (IntKind.u64.wrap (Int.tdiv (1000000 : Int) x8)) then (some (0, 0, false)) else (num_Pow.l0 k x6 x7 x8 x9 (IntKind.u64.wrap (x10 * x7)) (IntKind.u64.wrap (x11 * x8)) (IntKind.u64.wrap (x12 + 1)) x558000 x558001))))) else (if x558000 < 0 then (if x6 = true then (some (wrap64 (-(wrap64 (x10))), wrap64 (x11), true)) else (some (wrap64 (x10), wrap64 (x11), true))) else (some (wrap64 (x10), wrap64 (x11), true)))
end
def num_Pow.f (k : Nat) (a0_0 : Int) (a0_1 : Int) (a1 : Int) : Option (Int × Int × Bool) := (num_taken.f k a0_0 a0_1).bind fun bt559 => (if a1 = 0 then (num_Pow.j0 k a1 ((Int.tmod a1 2) != 0) true bt559.1 bt559.2) else (if bt559.1 = 1 then (num_Pow.j0 k a1 ((Int.tmod a1 2) != 0) (bt559.2 == 1) bt559.1 bt559.2) else (num_Pow.j0 k a1 ((Int.tmod a1 2) != 0) false bt559.1 bt559.2)))
theorem num_Pow.mono_l : ∀ k, (∀ y0 y1 y2 y3 y4, LeO (num_Pow.j0 k y0 y1 y2 y3 y4) (num_Pow.j0 (k + 1) y0 y1 y2 y3 y4)) ∧ (∀ y0 y1 y2 y3 y4, LeO (num_Pow.j1 k y0 y1 y2 y3 y4) (num_Pow.j1 (k + 1) y0 y1 y2 y3 y4)) ∧ (∀ y0 y1 y2 y3 y4 y5, LeO (num_Pow.j2 k y0 y1 y2 y3 y4 y5) (num_Pow.j2 (k + 1) y0 y1 y2 y3 y4 y5)) ∧ (∀ y0 y1 y2 y3 y4 y5 y6 y7 y8, LeO (num_Pow.l0 k y0 y1 y2 y3 y4 y5 y6 y7 y8) (num_Pow.l0 (k + 1) y0 y1 y2 y3 y4 y5 y6 y7 y8)) ∧ (∀ y0 y1 y2 y3 y4 y5 y6 y7 y8 y9, LeO (num_Pow.j4 k y0 y1 y2 y3 y4 y5 y6 y7 y8 y9) (num_Pow.j4 (k + 1) y0 y1 y2 y3 y4 y5 y6 y7 y8 y9))
 | 0 => ⟨fun _ _ _ _ _ r h => by simp [num_Pow.j0] at h, fun _ _ _ _ _ r h => by simp [num_Pow.j1] at h, fun _ _ _ _ _ _ r h => by simp [num_Pow.j2] at h, fun _ _ _ _ _ _ _ _ _ r h => by simp [num_Pow.l0] at h, fun _ _ _ _ _ _ _ _ _ _ r h => by simp [num_Pow.j4] at h⟩
 | k + 1 => by
  obtain ⟨ih0, ih1, ih2, ih3, ih4⟩ := num_Pow.mono_l k
  refine ⟨?_, ?_, ?_, ?_, ?_⟩
  ·intro y0 y1 y2 y3 y4
   unfold num_Pow.j0
   repeat' first
   | (with_reducible exact ih0 _ _ _ _ _)
   | (with_reducible exact ih1 _ _ _ _ _)
   | (with_reducible exact ih2 _ _ _ _ _ _)
   | (with_reducible exact ih3 _ _ _ _ _ _ _ _ _)
   | (with_reducible exact ih4 _ _ _ _ _ _ _ _ _ _)
   | (with_reducible exact num_taken.mono _ _ _)
   | (with_reducible exact LeO.refl _)
   | (with_reducible exact LeO.none _)
   | (with_reducible refine LeO.ite ?_ ?_)
   | (with_reducible refine LeO.bind ?_ (fun _ => ?_))
   | exact ih0 _ _ _ _ _
   | exact ih1 _ _ _ _ _
   | exact ih2 _ _ _ _ _ _
   | exact ih3 _ _ _ _ _ _ _ _ _
   | exact ih4 _ _ _ _ _ _ _ _ _ _
   | exact num_taken.mono _ _ _
   | exact LeO.none _
   | refine LeO.ite ?_ ?_
   | refine LeO.bind ?_ (fun _ => ?_)
  ·intro y0 y1 y2 y3 y4
   unfold num_Pow.j1
   repeat' first
   | (with_reducible exact ih0 _ _ _ _ _)
   | (with_reducible exact ih1 _ _ _ _ _)
   | (with_reducible exact ih2 _ _ _ _ _ _)
   | (with_reducible exact ih3 _ _ _ _ _ _ _ _ _)
   | (with_reducible exact ih4 _ _ _ _ _ _ _ _ _ _)
   | (with_reducible exact num_taken.mono _ _ _)
   | (with_reducible exact LeO.refl _)
   | (with_reducible exact LeO.none _)
   | (with_reducible refine LeO.ite ?_ ?_)
   | (with_reducible refine LeO.bind ?_ (fun _ => ?_))
   | exact ih0 _ _ _ _ _
   | exact ih1 _ _ _ _ _
   | exact ih2 _ _ _ _ _ _
   | exact ih3 _ _ _ _ _ _ _ _ _
   | exact ih4 _ _ _ _ _ _ _ _ _ _
   | exact num_taken.mono _ _ _
   | exact LeO.none _
   | refine LeO.ite ?_ ?_
   | refine LeO.bind ?_ (fun _ => ?_)
  ·intro y0 y1 y2 y3 y4 y5
   unfold num_Pow.j2
   repeat' first
   | (with_reducible exact ih0 _ _ _ _ _)
   | (with_reducible exact ih1 _ _ _ _ _)
   | (with_reducible exact ih2 _ _ _ _ _ _)
   | (with_reducible exact ih3 _ _ _ _ _ _ _ _ _)
   | (with_reducible exact ih4 _ _ _ _ _ _ _ _ _ _)
   | (with_reducible exact num_taken.mono _ _ _)
   | (with_reducible exact LeO.refl _)
   | (with_reducible exact LeO.none _)
   | (with_reducible refine LeO.ite ?_ ?_)
   | (with_reducible refine LeO.bind ?_ (fun _ => ?_))
   | exact ih0 _ _ _ _ _
   | exact ih1 _ _ _ _ _
   | exact ih2 _ _ _ _ _ _
   | exact ih3 _ _ _ _ _ _ _ _ _
   | exact ih4 _ _ _ _ _ _ _ _ _ _
   | exact num_taken.mono _ _ _
   | exact LeO.none _
   | refine LeO.ite ?_ ?_
   | refine LeO.bind ?_ (fun _ => ?_)
  ·intro y0 y1 y2 y3 y4 y5 y6 y7 y8
   unfold num_Pow.l0
   repeat' first
   | (with_reducible exact ih0 _ _ _ _ _)
   | (with_reducible exact ih1 _ _ _ _ _)
   | (with_reducible exact ih2 _ _ _ _ _ _)
   | (with_reducible exact ih3 _ _ _ _ _ _ _ _ _)
   | (with_reducible exact ih4 _ _ _ _ _ _ _ _ _ _)
   | (with_reducible exact num_taken.mono _ _ _)
   | (with_reducible exact LeO.refl _)
   | (with_reducible exact LeO.none _)
   | (with_reducible refine LeO.ite ?_ ?_)
   | (with_reducible refine LeO.bind ?_ (fun _ => ?_))
   | exact ih0 _ _ _ _ _
   | exact ih1 _ _ _ _ _
   | exact ih2 _ _ _ _ _ _
   | exact ih3 _ _ _ _ _ _ _ _ _
   | exact ih4 _ _ _ _ _ _ _ _ _ _
   | exact num_taken.mono _ _ _
   | exact LeO.none _
   | refine LeO.ite ?_ ?_
   | refine LeO.bind ?_ (fun _ => ?_)
  ·intro y0 y1 y2 y3 y4 y5 y6 y7 y8 y9
   unfold num_Pow.j4
   repeat' first
   | (with_reducible exact ih0 _ _ _ _ _)
   | (with_reducible exact ih1 _ _ _ _ _)
   | (with_reducible exact ih2 _ _ _ _ _ _)
   | (with_reducible exact ih3 _ _ _ _ _ _ _ _ _)
   | (with_reducible exact ih4 _ _ _ _ _ _ _ _ _ _)
   | (with_reducible exact num_taken.mono _ _ _)
   | (with_reducible exact LeO.refl _)
   | (with_reducible exact LeO.none _)
   | (with_reducible refine LeO.ite ?_ ?_)
   | (with_reducible refine LeO.bind ?_ (fun _ => ?_))
   | exact ih0 _ _ _ _ _
   | exact ih1 _ _ _ _ _
   | exact ih2 _ _ _ _ _ _
   | exact ih3 _ _ _ _ _ _ _ _ _
   | exact ih4 _ _ _ _ _ _ _ _ _ _
   | exact num_taken.mono _ _ _
   | exact LeO.none _
   | refine LeO.ite ?_ ?_
   | refine LeO.bind ?_ (fun _ => ?_)
theorem num_Pow.mono : ∀ a0 a1 a2 k, LeO (num_Pow.f k a0 a1 a2) (num_Pow.f (k + 1) a0 a1 a2) := by
 intro a0 a1 a2 k
 obtain ⟨ih0, ih1, ih2, ih3, ih4⟩ := num_Pow.mono_l k
 unfold num_Pow.f
 repeat' first
   | (with_reducible exact ih0 _ _ _ _ _)
   | (with_reducible exact ih1 _ _ _ _ _)
   | (with_reducible exact ih2 _ _ _ _ _ _)
   | (with_reducible exact ih3 _ _ _ _ _ _ _ _ _)
   | (with_reducible exact ih4 _ _ _ _ _ _ _ _ _ _)
   | (with_reducible exact num_taken.mono _ _ _)
   | (with_reducible exact LeO.refl _)
   | (with_reducible exact LeO.none _)
   | (with_reducible refine LeO.ite ?_ ?_)
   | (with_reducible refine LeO.bind ?_ (fun _ => ?_))
   | exact ih0 _ _ _ _ _
   | exact ih1 _ _ _ _ _
   | exact ih2 _ _ _ _ _ _
   | exact ih3 _ _ _ _ _ _ _ _ _
   | exact ih4 _ _ _ _ _ _ _ _ _ _
   | exact num_taken.mono _ _ _
   | exact LeO.none _
   | refine LeO.ite ?_ ?_
   | refine LeO.bind ?_ (fun _ => ?_)
set_option maxHeartbeats 8000000 in
set_option maxRecDepth 100000 in
theorem num_Pow.calls (k : Nat) (a0_0 : Int) (a0_1 : Int) (a1 : Int) (r1 : Int) (r2 : Int) (r3 : Bool) (w : World) (h : num_Pow.f k a0_0 a0_1 a1 = some (r1, r2, r3)) :
  Calls Tryd.prog 43 #[.agg #[.int .i64 a0_0, .int .i64 a0_1], .int .i64 a1] w fun e w' => e = .returned (.tuple #[.agg #[.int .i64 r1, .int .i64 r2], .bool r3]) ∧ Below w.heap.size w w' := by
 have hu23 := Tryd.underlying23
 have HB := Aside0.mk (Below.refl w.heap.size w)
 have H : ((num_taken.f k a0_0 a0_1).bind fun bt559 => (if a1 = 0 then (num_Pow.j0 k a1 ((Int.tmod a1 2) != 0) true bt559.1 bt559.2) else (if bt559.1 = 1 then (num_Pow.j0 k a1 ((Int.tmod a1 2) != 0) (bt559.2 == 1) bt559.1 bt559.2) else (num_Pow.j0 k a1 ((Int.tmod a1 2) != 0) false bt559.1 bt559.2)))) = some (r1, r2, r3) := h
 clear h
 replace H := Option.bind_eq_some_iff.mp H
 obtain ⟨⟨t559, t560⟩, A30, H⟩ := H
 replace H : (if a1 = 0 then (num_Pow.j0 k a1 ((Int.tmod a1 2) != 0) true t559 t560) else (if t559 = 1 then (num_Pow.j0 k a1 ((Int.tmod a1 2) != 0) (t560 == 1) t559 t560) else (num_Pow.j0 k a1 ((Int.tmod a1 2) != 0) false t559 t560))) = some (r1, r2, r3) := H
 have A3 := Aside0.mk A30
 clear A30
 have HC4 := Aside0.mk H
 clear H
 go_enter Tryd.func43, Tryd.ntmps43
 go_upto_region 3 with (first | ((with_reducible refine gate_dst (N := 2) rfl ?_); refine box_event ?hg (N := 2) ?hd (cs := #[.int .i64 a0_0, .int .i64 a0_1]) (t := 23) ?hr ?_; (case hd => rfl); (case hg => rfl); (case hr => first | (go_simp; done) | (go_simp; rfl)); intro gb557 hg w5 hbox hb; have n0_ := Aside0.mk (Boxes.new (b := w.heap.size) (L := []) trivial hg hbox hb (below_size (by repeat (first | (with_reducible first | exact HB.out | apply below_alloc | apply pw_below_drewN | apply below_drew1 | refine below_set ?_ (Aside0.out (by assumption))) | exact HB.out)))); have n1_ := Aside0.mk (below_step (by repeat (first | (with_reducible first | exact HB.out | apply below_alloc | apply pw_below_drewN | apply below_drew1 | refine below_set ?_ (Aside0.out (by assumption))) | exact HB.out)) hb); have n2_ := Aside0.mk ((by rw [hg]; exact (below_size (by repeat (first | (with_reducible first | exact HB.out | apply below_alloc | apply pw_below_drewN | apply below_drew1 | refine below_set ?_ (Aside0.out (by assumption))) | exact HB.out))) : w.heap.size ≤ gb557)); clear HB; have BX := n0_; have HB := n1_; have GE557 := n2_; clear n0_ n1_ n2_; clear hb hbox hg) | ((with_reducible refine gate_dst (N := 4) rfl ?_); refine box_event ?hg (N := 4) ?hd (cs := #[.int .i64 0, .int .i64 0]) (t := 23) ?hr ?_; (case hd => rfl); (case hg => rfl); (case hr => first | (go_simp; done) | (go_simp; rfl)); intro gb558 hg w6 hbox hb; have n0_ := Aside0.mk (Boxes.new (by (with_reducible repeat (first | apply boxes_drewN | apply boxes_drew | apply boxes_alloc)); exact BX.out) hg hbox hb (below_size (by repeat (first | (with_reducible first | exact HB.out | apply below_alloc | apply pw_below_drewN | apply below_drew1 | refine below_set ?_ (Aside0.out (by assumption))) | exact HB.out)))); have n1_ := Aside0.mk (below_step (by repeat (first | (with_reducible first | exact HB.out | apply below_alloc | apply pw_below_drewN | apply below_drew1 | refine below_set ?_ (Aside0.out (by assumption))) | exact HB.out)) hb); have n2_ := Aside0.mk ((by rw [hg]; exact (below_size (by repeat (first | (with_reducible first | exact HB.out | apply below_alloc | apply pw_below_drewN | apply below_drew1 | refine below_set ?_ (Aside0.out (by assumption))) | exact HB.out))) : w.heap.size ≤ gb558)); clear BX HB; have BX := n0_; have HB := n1_; have GE558 := n2_; clear n0_ n1_ n2_; clear hb hbox hg; obtain ⟨⟨hnc7, hnb7⟩, -⟩ := BX.out.apart 0 rfl; have hcz8_0 : w6.cell? ⟨gb557, 0, none⟩ = some (.int .i64 a0_0) := (blk_cell (BX.out.get 1 rfl) 0).trans rfl; have hcz8_1 : w6.cell? ⟨gb557, 1, none⟩ = some (.int .i64 a0_1) := (blk_cell (BX.out.get 1 rfl) 1).trans rfl; have hfz8_0 := blk_frozen (BX.out.get 1 rfl) 0; have hfz8_1 := blk_frozen (BX.out.get 1 rfl) 1) | (go_at_call 63; (with_reducible refine (num_taken.calls k a0_0 a0_1 t559 t560 _ A3.out).mono ?_); rintro e w9 ⟨rfl, hb⟩; have n0_ := Aside0.mk (Boxes.below (by (with_reducible repeat (first | apply boxes_drewN | apply boxes_drew | apply boxes_alloc)); exact BX.out) hb); have n1_ := Aside0.mk (below_step (by repeat (first | (with_reducible first | exact HB.out | apply below_alloc | apply pw_below_drewN | apply below_drew1 | refine below_set ?_ (Aside0.out (by assumption))) | exact HB.out)) hb); clear BX HB; have BX := n0_; have HB := n1_; clear n0_ n1_; (try clear hb); (try clear hb2); (try clear hk); (try clear hi); have hcz10_0 : w9.cell? ⟨gb557, 0, none⟩ = some (.int .i64 a0_0) := (blk_cell (BX.out.get 1 rfl) 0).trans rfl; have hcz10_1 : w9.cell? ⟨gb557, 1, none⟩ = some (.int .i64 a0_1) := (blk_cell (BX.out.get 1 rfl) 1).trans rfl; have hfz10_0 := blk_frozen (BX.out.get 1 rfl) 0; have hfz10_1 := blk_frozen (BX.out.get 1 rfl) 1))
 repeat (go_quiet (first | ((with_reducible refine gate_dst (N := 2) rfl ?_); refine box_event ?hg (N := 2) ?hd (cs := #[.int .i64 a0_0, .int .i64 a0_1]) (t := 23) ?hr ?_; (case hd => rfl); (case hg => rfl); (case hr => first | (go_simp; done) | (go_simp; rfl)); intro gb557 hg w5 hbox hb; have n0_ := Aside0.mk (Boxes.new (b := w.heap.size) (L := []) trivial hg hbox hb (below_size (by repeat (first | (with_reducible first | exact HB.out | apply below_alloc | apply pw_below_drewN | apply below_drew1 | refine below_set ?_ (Aside0.out (by assumption))) | exact HB.out)))); have n1_ := Aside0.mk (below_step (by repeat (first | (with_reducible first | exact HB.out | apply below_alloc | apply pw_below_drewN | apply below_drew1 | refine below_set ?_ (Aside0.out (by assumption))) | exact HB.out)) hb); have n2_ := Aside0.mk ((by rw [hg]; exact (below_size (by repeat (first | (with_reducible first | exact HB.out | apply below_alloc | apply pw_below_drewN | apply below_drew1 | refine below_set ?_ (Aside0.out (by assumption))) | exact HB.out))) : w.heap.size ≤ gb557)); clear HB; have BX := n0_; have HB := n1_; have GE557 := n2_; clear n0_ n1_ n2_; clear hb hbox hg) | ((with_reducible refine gate_dst (N := 4) rfl ?_); refine box_event ?hg (N := 4) ?hd (cs := #[.int .i64 0, .int .i64 0]) (t := 23) ?hr ?_; (case hd => rfl); (case hg => rfl); (case hr => first | (go_simp; done) | (go_simp; rfl)); intro gb558 hg w6 hbox hb; have n0_ := Aside0.mk (Boxes.new (by (with_reducible repeat (first | apply boxes_drewN | apply boxes_drew | apply boxes_alloc)); exact BX.out) hg hbox hb (below_size (by repeat (first | (with_reducible first | exact HB.out | apply below_alloc | apply pw_below_drewN | apply below_drew1 | refine below_set ?_ (Aside0.out (by assumption))) | exact HB.out)))); have n1_ := Aside0.mk (below_step (by repeat (first | (with_reducible first | exact HB.out | apply below_alloc | apply pw_below_drewN | apply below_drew1 | refine below_set ?_ (Aside0.out (by assumption))) | exact HB.out)) hb); have n2_ := Aside0.mk ((by rw [hg]; exact (below_size (by repeat (first | (with_reducible first | exact HB.out | apply below_alloc | apply pw_below_drewN | apply below_drew1 | refine below_set ?_ (Aside0.out (by assumption))) | exact HB.out))) : w.heap.size ≤ gb558)); clear BX HB; have BX := n0_; have HB := n1_; have GE558 := n2_; clear n0_ n1_ n2_; clear hb hbox hg; obtain ⟨⟨hnc7, hnb7⟩, -⟩ := BX.out.apart 0 rfl; have hcz8_0 : w6.cell? ⟨gb557, 0, none⟩ = some (.int .i64 a0_0) := (blk_cell (BX.out.get 1 rfl) 0).trans rfl; have hcz8_1 : w6.cell? ⟨gb557, 1, none⟩ = some (.int .i64 a0_1) := (blk_cell (BX.out.get 1 rfl) 1).trans rfl; have hfz8_0 := blk_frozen (BX.out.get 1 rfl) 0; have hfz8_1 := blk_frozen (BX.out.get 1 rfl) 1) | (go_at_call 63; (with_reducible refine (num_taken.calls k a0_0 a0_1 t559 t560 _ A3.out).mono ?_); rintro e w9 ⟨rfl, hb⟩; have n0_ := Aside0.mk (Boxes.below (by (with_reducible repeat (first | apply boxes_drewN | apply boxes_drew | apply boxes_alloc)); exact BX.out) hb); have n1_ := Aside0.mk (below_step (by repeat (first | (with_reducible first | exact HB.out | apply below_alloc | apply pw_below_drewN | apply below_drew1 | refine below_set ?_ (Aside0.out (by assumption))) | exact HB.out)) hb); clear BX HB; have BX := n0_; have HB := n1_; clear n0_ n1_; (try clear hb); (try clear hb2); (try clear hk); (try clear hi); have hcz10_0 : w9.cell? ⟨gb557, 0, none⟩ = some (.int .i64 a0_0) := (blk_cell (BX.out.get 1 rfl) 0).trans rfl; have hcz10_1 : w9.cell? ⟨gb557, 1, none⟩ = some (.int .i64 a0_1) := (blk_cell (BX.out.get 1 rfl) 1).trans rfl; have hfz10_0 := blk_frozen (BX.out.get 1 rfl) 0; have hfz10_1 := blk_frozen (BX.out.get 1 rfl) 1)); go_upto_region 3 with (first | ((with_reducible refine gate_dst (N := 2) rfl ?_); refine box_event ?hg (N := 2) ?hd (cs := #[.int .i64 a0_0, .int .i64 a0_1]) (t := 23) ?hr ?_; (case hd => rfl); (case hg => rfl); (case hr => first | (go_simp; done) | (go_simp; rfl)); intro gb557 hg w5 hbox hb; have n0_ := Aside0.mk (Boxes.new (b := w.heap.size) (L := []) trivial hg hbox hb (below_size (by repeat (first | (with_reducible first | exact HB.out | apply below_alloc | apply pw_below_drewN | apply below_drew1 | refine below_set ?_ (Aside0.out (by assumption))) | exact HB.out)))); have n1_ := Aside0.mk (below_step (by repeat (first | (with_reducible first | exact HB.out | apply below_alloc | apply pw_below_drewN | apply below_drew1 | refine below_set ?_ (Aside0.out (by assumption))) | exact HB.out)) hb); have n2_ := Aside0.mk ((by rw [hg]; exact (below_size (by repeat (first | (with_reducible first | exact HB.out | apply below_alloc | apply pw_below_drewN | apply below_drew1 | refine below_set ?_ (Aside0.out (by assumption))) | exact HB.out))) : w.heap.size ≤ gb557)); clear HB; have BX := n0_; have HB := n1_; have GE557 := n2_; clear n0_ n1_ n2_; clear hb hbox hg) | ((with_reducible refine gate_dst (N := 4) rfl ?_); refine box_event ?hg (N := 4) ?hd (cs := #[.int .i64 0, .int .i64 0]) (t := 23) ?hr ?_; (case hd => rfl); (case hg => rfl); (case hr => first | (go_simp; done) | (go_simp; rfl)); intro gb558 hg w6 hbox hb; have n0_ := Aside0.mk (Boxes.new (by (with_reducible repeat (first | apply boxes_drewN | apply boxes_drew | apply boxes_alloc)); exact BX.out) hg hbox hb (below_size (by repeat (first | (with_reducible first | exact HB.out | apply below_alloc | apply pw_below_drewN | apply below_drew1 | refine below_set ?_ (Aside0.out (by assumption))) | exact HB.out)))); have n1_ := Aside0.mk (below_step (by repeat (first | (with_reducible first | exact HB.out | apply below_alloc | apply pw_below_drewN | apply below_drew1 | refine below_set ?_ (Aside0.out (by assumption))) | exact HB.out)) hb); have n2_ := Aside0.mk ((by rw [hg]; exact (below_size (by repeat (first | (with_reducible first | exact HB.out | apply below_alloc | apply pw_below_drewN | apply below_drew1 | refine below_set ?_ (Aside0.out (by assumption))) | exact HB.out))) : w.heap.size ≤ gb558)); clear BX HB; have BX := n0_; have HB := n1_; have GE558 := n2_; clear n0_ n1_ n2_; clear hb hbox hg; obtain ⟨⟨hnc7, hnb7⟩, -⟩ := BX.out.apart 0 rfl; have hcz8_0 : w6.cell? ⟨gb557, 0, none⟩ = some (.int .i64 a0_0) := (blk_cell (BX.out.get 1 rfl) 0).trans rfl; have hcz8_1 : w6.cell? ⟨gb557, 1, none⟩ = some (.int .i64 a0_1) := (blk_cell (BX.out.get 1 rfl) 1).trans rfl; have hfz8_0 := blk_frozen (BX.out.get 1 rfl) 0; have hfz8_1 := blk_frozen (BX.out.get 1 rfl) 1) | (go_at_call 63; (with_reducible refine (num_taken.calls k a0_0 a0_1 t559 t560 _ A3.out).mono ?_); rintro e w9 ⟨rfl, hb⟩; have n0_ := Aside0.mk (Boxes.below (by (with_reducible repeat (first | apply boxes_drewN | apply boxes_drew | apply boxes_alloc)); exact BX.out) hb); have n1_ := Aside0.mk (below_step (by repeat (first | (with_reducible first | exact HB.out | apply below_alloc | apply pw_below_drewN | apply below_drew1 | refine below_set ?_ (Aside0.out (by assumption))) | exact HB.out)) hb); clear BX HB; have BX := n0_; have HB := n1_; clear n0_ n1_; (try clear hb); (try clear hb2); (try clear hk); (try clear hi); have hcz10_0 : w9.cell? ⟨gb557, 0, none⟩ = some (.int .i64 a0_0) := (blk_cell (BX.out.get 1 rfl) 0).trans rfl; have hcz10_1 : w9.cell? ⟨gb557, 1, none⟩ = some (.int .i64 a0_1) := (blk_cell (BX.out.get 1 rfl) 1).trans rfl; have hfz10_0 := blk_frozen (BX.out.get 1 rfl) 0; have hfz10_1 := blk_frozen (BX.out.get 1 rfl) 1)))
 (try simp only [Act.put, List.setIfInBounds_toArray, List.set_cons_zero, List.set_cons_succ])
 go_cut [19] (fun v19 wc => ∃ (kq : Nat) (x19_3 : Bool), v19 = .bool x19_3 ∧ Aside0 (num_Pow.j0 kq a1 ((Int.tmod a1 2) != 0) x19_3 t559 t560 = some (r1, r2, r3)) ∧ Aside0 (kq ≤ k) ∧ Aside0 (Boxes w.heap.size wc [(gb558, 23, #[.int .i64 0, .int .i64 0]), (gb557, 23, #[.int .i64 t559, .int .i64 t560])]) ∧ Aside0 (Below w.heap.size w wc))
 case first =>
  have H := HC4.out
  clear HC4
  by_cases c11 : a1 = 0
  ·rw [if_pos c11] at H
   have c11b0 : (a1 == 0) = true := beq_iff_eq.mpr c11
   have c11b1 : (a1 != 0) = false := bne_eq_false_iff_eq.mpr c11
   clear c11
   (first | rw [c11b0] | (simp only [i64_w, i32_w]; rw [c11b0]) | skip)
   have H' := Aside0.mk H
   clear H
   go_wp2
   repeat (go_quiet (fail); try go_wp2)
   go_meet
   case rel => exact ⟨_, (true), (by first | rfl | (simp; done) | (simp [*]; done) | (simp [bne_nil]; done)), H', ⟨by first | omega | exact Nat.le_refl _⟩, ⟨by (with_reducible repeat (first | apply boxes_drewN | apply boxes_drew | apply boxes_alloc)); apply boxes_put 1; (with_reducible repeat (first | apply boxes_drewN | apply boxes_drew | apply boxes_alloc)); apply boxes_put 1; (with_reducible repeat (first | apply boxes_drewN | apply boxes_drew | apply boxes_alloc)); exact BX.out; any_goals rfl⟩, ⟨by repeat (first | (with_reducible first | exact HB.out | apply below_alloc | apply pw_below_drewN | apply below_drew1 | refine below_set ?_ (Aside0.out (by assumption))) | exact HB.out)⟩⟩
  ·rw [if_neg c11] at H
   have c11b0 : (a1 == 0) = false := beq_eq_false_iff_ne.mpr c11
   have c11b1 : (a1 != 0) = true := bne_iff_ne.mpr c11
   (first | rw [c11b0] | (simp only [i64_w, i32_w]; rw [c11b0]) | skip)
   by_cases c12 : t559 = 1
   ·rw [if_pos c12] at H
    have c12b0 : (t559 == 1) = true := beq_iff_eq.mpr c12
    have c12b1 : (t559 != 1) = false := bne_eq_false_iff_eq.mpr c12
    clear c12
    have H' := Aside0.mk H
    clear H
    obtain ⟨⟨hnc13, hnb13⟩, -⟩ := BX.out.apart 0 rfl
    have hcz14_0 : w9.cell? ⟨gb557, 0, none⟩ = some (.int .i64 a0_0) := (blk_cell (BX.out.get 1 rfl) 0).trans rfl
    have hcz14_1 : w9.cell? ⟨gb557, 1, none⟩ = some (.int .i64 a0_1) := (blk_cell (BX.out.get 1 rfl) 1).trans rfl
    have hfz14_0 := blk_frozen (BX.out.get 1 rfl) 0
    have hfz14_1 := blk_frozen (BX.out.get 1 rfl) 1
    go_wp2
    repeat (go_quiet (fail); try go_wp2)
    go_meet
    case rel => exact ⟨_, ((t560 == 1)), (by first | rfl | (simp; done) | (simp [*]; done) | (simp [bne_nil]; done)), H', ⟨by first | omega | exact Nat.le_refl _⟩, ⟨by (with_reducible repeat (first | apply boxes_drewN | apply boxes_drew | apply boxes_alloc)); apply boxes_put 1; (with_reducible repeat (first | apply boxes_drewN | apply boxes_drew | apply boxes_alloc)); apply boxes_put 1; (with_reducible repeat (first | apply boxes_drewN | apply boxes_drew | apply boxes_alloc)); exact BX.out; any_goals rfl⟩, ⟨by repeat (first | (with_reducible first | exact HB.out | apply below_alloc | apply pw_below_drewN | apply below_drew1 | refine below_set ?_ (Aside0.out (by assumption))) | exact HB.out)⟩⟩
   ·rw [if_neg c12] at H
    have c12b0 : (t559 == 1) = false := beq_eq_false_iff_ne.mpr c12
    have c12b1 : (t559 != 1) = true := bne_iff_ne.mpr c12
    have H' := Aside0.mk H
    clear H
    obtain ⟨⟨hnc15, hnb15⟩, -⟩ := BX.out.apart 0 rfl
    have hcz16_0 : w9.cell? ⟨gb557, 0, none⟩ = some (.int .i64 a0_0) := (blk_cell (BX.out.get 1 rfl) 0).trans rfl
    have hcz16_1 : w9.cell? ⟨gb557, 1, none⟩ = some (.int .i64 a0_1) := (blk_cell (BX.out.get 1 rfl) 1).trans rfl
    have hfz16_0 := blk_frozen (BX.out.get 1 rfl) 0
    have hfz16_1 := blk_frozen (BX.out.get 1 rfl) 1
    go_wp2
    repeat (go_quiet (fail); try go_wp2)
    go_meet
    case rel => exact ⟨_, (false), (by first | rfl | (simp; done) | (simp [*]; done) | (simp [bne_nil]; done)), H', ⟨by first | omega | exact Nat.le_refl _⟩, ⟨by (with_reducible repeat (first | apply boxes_drewN | apply boxes_drew | apply boxes_alloc)); apply boxes_put 1; (with_reducible repeat (first | apply boxes_drewN | apply boxes_drew | apply boxes_alloc)); apply boxes_put 1; (with_reducible repeat (first | apply boxes_drewN | apply boxes_drew | apply boxes_alloc)); exact BX.out; any_goals rfl⟩, ⟨by repeat (first | (with_reducible first | exact HB.out | apply below_alloc | apply pw_below_drewN | apply below_drew1 | refine below_set ?_ (Aside0.out (by assumption))) | exact HB.out)⟩⟩
 case rest =>
  clear HC4
  try clear c1
  try clear p2
  try clear c4
  try clear c7
  try clear c11
  try clear c11b0
  try clear c11b1
  try clear c12
  try clear c12b0
  try clear c12b1
  try clear c13
  try clear c15
  try clear hcz10_0
  try clear hcz10_1
  try clear hcz14_0
  try clear hcz14_1
  try clear hcz16_0
  try clear hcz16_1
  try clear hcz8_0
  try clear hcz8_1
  try clear hfz10_0
  try clear hfz10_1
  try clear hfz14_0
  try clear hfz14_1
  try clear hfz16_0
  try clear hfz16_1
  try clear hfz8_0
  try clear hfz8_1
  obtain ⟨kq, x19_3, rfl, HA, HJ3, BX, HB⟩ := hcut
  cases kq with
  | zero => exact absurd HA.out (by simp [num_Pow.j0])
  | succ kj3 =>
   have H := HA.out
   clear HA
   simp only [num_Pow.j0] at H
   by_cases c17 : x19_3 = true
   ·subst c17
    have H1 : (some (1, 1, true)) = some (r1, r2, r3) := by rw [if_pos rfl] at H; exact H
    clear H
    have H := H1
    clear H1
    simp only [Option.some.injEq, Prod.mk.injEq] at H
    obtain ⟨rfl, rfl, rfl⟩ := H
    obtain ⟨⟨hnb18, hnc18⟩, -⟩ := BX.out.apart 0 rfl
    have hcz19_0 : wc.cell? ⟨gb558, 0, none⟩ = some (.int .i64 0) := (blk_cell (BX.out.get 0 rfl) 0).trans rfl
    have hcz19_1 : wc.cell? ⟨gb558, 1, none⟩ = some (.int .i64 0) := (blk_cell (BX.out.get 0 rfl) 1).trans rfl
    have hfz19_0 := blk_frozen (BX.out.get 0 rfl) 0
    have hfz19_1 := blk_frozen (BX.out.get 0 rfl) 1
    go_wp2
    repeat (go_quiet (fail); try go_wp2)
    refine bodyPost_ret (results_ct rfl _ _ gb558 23 #[.int .i64 1, .int .i64 1] (0, 0) _ rfl (by (with_reducible repeat (first | refine blk_drewN ?_ _ | refine blk_drew ?_ | refine blk_alloc ?_ _)); refine blk_put (cs := #[.int .i64 1, .int .i64 0]) ?_ 1 _ rfl; (with_reducible repeat (first | refine blk_drewN ?_ _ | refine blk_drew ?_ | refine blk_alloc ?_ _)); refine blk_put (cs := #[.int .i64 0, .int .i64 0]) ?_ 0 _ rfl; (with_reducible repeat (first | refine blk_drewN ?_ _ | refine blk_drew ?_ | refine blk_alloc ?_ _)); exact (BX.out.get 0 rfl)) Tryd.underlying23 rfl (by kernel_rfl)) rfl ?_
    exact ⟨by first | rfl | (simp [errW_none, errW_some] <;> rfl) | (simp [*, errW_none, errW_some] <;> rfl), by repeat (first | (with_reducible first | exact HB.out | apply below_alloc | apply pw_below_drewN | apply below_drew1 | refine below_set ?_ (Aside0.out (by assumption))) | exact HB.out)⟩
   ·replace c17 := Bool.eq_false_iff.mpr c17
    subst c17
    have H1 : (if t559 = 0 then (num_Pow.j1 kj3 a1 ((Int.tmod a1 2) != 0) (decide (a1 < 0)) t559 t560) else (num_Pow.j1 kj3 a1 ((Int.tmod a1 2) != 0) false t559 t560)) = some (r1, r2, r3) := by rw [if_neg (show ¬ (false = true) by decide)] at H; exact H
    clear H
    have H := H1
    clear H1
    have HC20 := Aside0.mk H
    clear H
    go_upto_region 5 with (fail)
    repeat (go_quiet (fail); go_upto_region 5 with (fail))
    go_cut [33] (fun v33 wc => ∃ (kq : Nat) (x33_19 : Bool), v33 = .bool x33_19 ∧ Aside0 (num_Pow.j1 kq a1 ((Int.tmod a1 2) != 0) x33_19 t559 t560 = some (r1, r2, r3)) ∧ Aside0 (kq ≤ kj3) ∧ Aside0 (Boxes w.heap.size wc [(gb558, 23, #[.int .i64 0, .int .i64 0]), (gb557, 23, #[.int .i64 t559, .int .i64 t560])]) ∧ Aside0 (Below w.heap.size w wc))
    case first =>
     have H := HC20.out
     clear HC20
     by_cases c21 : t559 = 0
     ·rw [if_pos c21] at H
      have c21b0 : (t559 == 0) = true := beq_iff_eq.mpr c21
      have c21b1 : (t559 != 0) = false := bne_eq_false_iff_eq.mpr c21
      clear c21
      (first | rw [c21b0] | (simp only [i64_w, i32_w]; rw [c21b0]) | skip)
      have H' := Aside0.mk H
      clear H
      obtain ⟨⟨hnc22, hnb22⟩, -⟩ := BX.out.apart 0 rfl
      have hcz23_0 : wc.cell? ⟨gb557, 0, none⟩ = some (.int .i64 t559) := (blk_cell (BX.out.get 1 rfl) 0).trans rfl
      have hcz23_1 : wc.cell? ⟨gb557, 1, none⟩ = some (.int .i64 t560) := (blk_cell (BX.out.get 1 rfl) 1).trans rfl
      have hfz23_0 := blk_frozen (BX.out.get 1 rfl) 0
      have hfz23_1 := blk_frozen (BX.out.get 1 rfl) 1
      go_wp2
      repeat (go_quiet (fail); try go_wp2)
      go_meet
      case rel => exact ⟨_, (decide (a1 < 0)), (by first | rfl | (simp; done) | (simp [*]; done) | (simp [bne_nil]; done)), H', ⟨by have := HJ3.out; first | omega | exact Nat.le_refl _⟩, ⟨by (with_reducible repeat (first | apply boxes_drewN | apply boxes_drew | apply boxes_alloc)); exact BX.out⟩, ⟨by repeat (first | (with_reducible first | exact HB.out | apply below_alloc | apply pw_below_drewN | apply below_drew1 | refine below_set ?_ (Aside0.out (by assumption))) | exact HB.out)⟩⟩
     ·rw [if_neg c21] at H
      have c21b0 : (t559 == 0) = false := beq_eq_false_iff_ne.mpr c21
      have c21b1 : (t559 != 0) = true := bne_iff_ne.mpr c21
      (first | rw [c21b0] | (simp only [i64_w, i32_w]; rw [c21b0]) | skip)
      have H' := Aside0.mk H
      clear H
      obtain ⟨⟨hnc24, hnb24⟩, -⟩ := BX.out.apart 0 rfl
      have hcz25_0 : wc.cell? ⟨gb557, 0, none⟩ = some (.int .i64 t559) := (blk_cell (BX.out.get 1 rfl) 0).trans rfl
      have hcz25_1 : wc.cell? ⟨gb557, 1, none⟩ = some (.int .i64 t560) := (blk_cell (BX.out.get 1 rfl) 1).trans rfl
      have hfz25_0 := blk_frozen (BX.out.get 1 rfl) 0
      have hfz25_1 := blk_frozen (BX.out.get 1 rfl) 1
      go_wp2
      repeat (go_quiet (fail); try go_wp2)
      go_meet
      case rel => exact ⟨_, (false), (by first | rfl | (simp; done) | (simp [*]; done) | (simp [bne_nil]; done)), H', ⟨by have := HJ3.out; first | omega | exact Nat.le_refl _⟩, ⟨by (with_reducible repeat (first | apply boxes_drewN | apply boxes_drew | apply boxes_alloc)); exact BX.out⟩, ⟨by repeat (first | (with_reducible first | exact HB.out | apply below_alloc | apply pw_below_drewN | apply below_drew1 | refine below_set ?_ (Aside0.out (by assumption))) | exact HB.out)⟩⟩
    case rest =>
     clear HC20
     try clear c1
     try clear c2
     try clear p2
     try clear c4
     try clear c7
     try clear c11
     try clear c11b0
     try clear c11b1
     try clear c12
     try clear c12b0
     try clear c12b1
     try clear c13
     try clear c15
     try clear c17
     try clear c18
     try clear c21
     try clear c21b0
     try clear c21b1
     try clear c22
     try clear c24
     try clear hcz10_0
     try clear hcz10_1
     try clear hcz14_0
     try clear hcz14_1
     try clear hcz16_0
     try clear hcz16_1
     try clear hcz19_0
     try clear hcz19_1
     try clear hcz23_0
     try clear hcz23_1
     try clear hcz25_0
     try clear hcz25_1
     try clear hcz8_0
     try clear hcz8_1
     try clear hfz10_0
     try clear hfz10_1
     try clear hfz14_0
     try clear hfz14_1
     try clear hfz16_0
     try clear hfz16_1
     try clear hfz19_0
     try clear hfz19_1
     try clear hfz23_0
     try clear hfz23_1
     try clear hfz25_0
     try clear hfz25_1
     try clear hfz8_0
     try clear hfz8_1
     try clear p2
     obtain ⟨kq, x33_19, rfl, HA, HJ19, BX, HB⟩ := hcut
     cases kq with
     | zero => exact absurd HA.out (by simp [num_Pow.j1])
     | succ kj19 =>
      have H := HA.out
      clear HA
      simp only [num_Pow.j1] at H
      by_cases c26 : x33_19 = true
      ·subst c26
       have H1 : (some (0, 0, false)) = some (r1, r2, r3) := by rw [if_pos rfl] at H; exact H
       clear H
       have H := H1
       clear H1
       simp only [Option.some.injEq, Prod.mk.injEq] at H
       obtain ⟨rfl, rfl, rfl⟩ := H
       obtain ⟨⟨hnb27, hnc27⟩, -⟩ := BX.out.apart 0 rfl
       have hcz28_0 : wc.cell? ⟨gb558, 0, none⟩ = some (.int .i64 0) := (blk_cell (BX.out.get 0 rfl) 0).trans rfl
       have hcz28_1 : wc.cell? ⟨gb558, 1, none⟩ = some (.int .i64 0) := (blk_cell (BX.out.get 0 rfl) 1).trans rfl
       have hfz28_0 := blk_frozen (BX.out.get 0 rfl) 0
       have hfz28_1 := blk_frozen (BX.out.get 0 rfl) 1
       go_wp2
       repeat (go_quiet (fail); try go_wp2)
       refine bodyPost_ret (results_ct rfl _ _ gb558 23 #[.int .i64 0, .int .i64 0] (0, 0) _ rfl (by (with_reducible repeat (first | refine blk_drewN ?_ _ | refine blk_drew ?_ | refine blk_alloc ?_ _)); refine blk_put (cs := #[.int .i64 0, .int .i64 0]) ?_ 1 _ rfl; (with_reducible repeat (first | refine blk_drewN ?_ _ | refine blk_drew ?_ | refine blk_alloc ?_ _)); refine blk_put (cs := #[.int .i64 0, .int .i64 0]) ?_ 0 _ rfl; (with_reducible repeat (first | refine blk_drewN ?_ _ | refine blk_drew ?_ | refine blk_alloc ?_ _)); exact (BX.out.get 0 rfl)) Tryd.underlying23 rfl (by kernel_rfl)) rfl ?_
       exact ⟨by first | rfl | (simp [errW_none, errW_some] <;> rfl) | (simp [*, errW_none, errW_some] <;> rfl), by repeat (first | (with_reducible first | exact HB.out | apply below_alloc | apply pw_below_drewN | apply below_drew1 | refine below_set ?_ (Aside0.out (by assumption))) | exact HB.out)⟩
      ·replace c26 := Bool.eq_false_iff.mpr c26
       subst c26
       have H1 : (if t559 = 0 then (some (t559, t560, true)) else ((num_size.f t559).bind fun t561 => ((num_size.f a1).bind fun t562 => (if a1 < 0 then (num_Pow.j2 kj19 ((Int.tmod a1 2) != 0) (IntKind.u64.wrap (t560)) t561 t562 t559 t560) else (num_Pow.j2 kj19 ((Int.tmod a1 2) != 0) t561 (IntKind.u64.wrap (t560)) t562 t559 t560))))) = some (r1, r2, r3) := by rw [if_neg (show ¬ (false = true) by decide)] at H; exact H
       clear H
       have H := H1
       clear H1
       by_cases c29 : t559 = 0
       ·rw [if_pos c29] at H
        have c29b0 : (t559 == 0) = true := beq_iff_eq.mpr c29
        have c29b1 : (t559 != 0) = false := bne_eq_false_iff_eq.mpr c29
        clear c29
        simp only [Option.some.injEq, Prod.mk.injEq] at H
        obtain ⟨rfl, rfl, rfl⟩ := H
        obtain ⟨⟨hnc30, hnb30⟩, -⟩ := BX.out.apart 0 rfl
        have hcz31_0 : wc.cell? ⟨gb557, 0, none⟩ = some (.int .i64 t559) := (blk_cell (BX.out.get 1 rfl) 0).trans rfl
        have hcz31_1 : wc.cell? ⟨gb557, 1, none⟩ = some (.int .i64 t560) := (blk_cell (BX.out.get 1 rfl) 1).trans rfl
        have hfz31_0 := blk_frozen (BX.out.get 1 rfl) 0
        have hfz31_1 := blk_frozen (BX.out.get 1 rfl) 1
        have hcz32_0 : wc.cell? ⟨gb558, 0, none⟩ = some (.int .i64 0) := (blk_cell (BX.out.get 0 rfl) 0).trans rfl
        have hcz32_1 : wc.cell? ⟨gb558, 1, none⟩ = some (.int .i64 0) := (blk_cell (BX.out.get 0 rfl) 1).trans rfl
        have hfz32_0 := blk_frozen (BX.out.get 0 rfl) 0
        have hfz32_1 := blk_frozen (BX.out.get 0 rfl) 1
        go_wp2
        repeat (go_quiet (fail); try go_wp2)
        refine bodyPost_ret (results_ct rfl _ _ gb558 23 #[.int .i64 t559, .int .i64 t560] (0, 0) _ rfl (by (with_reducible repeat (first | refine blk_drewN ?_ _ | refine blk_drew ?_ | refine blk_alloc ?_ _)); refine blk_put (cs := #[.int .i64 t559, .int .i64 0]) ?_ 1 _ rfl; (with_reducible repeat (first | refine blk_drewN ?_ _ | refine blk_drew ?_ | refine blk_alloc ?_ _)); refine blk_put (cs := #[.int .i64 0, .int .i64 0]) ?_ 0 _ rfl; (with_reducible repeat (first | refine blk_drewN ?_ _ | refine blk_drew ?_ | refine blk_alloc ?_ _)); exact (BX.out.get 0 rfl)) Tryd.underlying23 rfl (by kernel_rfl)) rfl ?_
        exact ⟨by first | rfl | (simp [errW_none, errW_some] <;> rfl) | (simp [*, errW_none, errW_some] <;> rfl), by repeat (first | (with_reducible first | exact HB.out | apply below_alloc | apply pw_below_drewN | apply below_drew1 | refine below_set ?_ (Aside0.out (by assumption))) | exact HB.out)⟩
       ·rw [if_neg c29] at H
        have c29b0 : (t559 == 0) = false := beq_eq_false_iff_ne.mpr c29
        have c29b1 : (t559 != 0) = true := bne_iff_ne.mpr c29
        replace H := Option.bind_eq_some_iff.mp H
        obtain ⟨t561, A330, H⟩ := H
        have A33 := Aside0.mk A330
        clear A330
        replace H := Option.bind_eq_some_iff.mp H
        obtain ⟨t562, A340, H⟩ := H
        replace H : (if a1 < 0 then (num_Pow.j2 kj19 ((Int.tmod a1 2) != 0) (IntKind.u64.wrap (t560)) t561 t562 t559 t560) else (num_Pow.j2 kj19 ((Int.tmod a1 2) != 0) t561 (IntKind.u64.wrap (t560)) t562 t559 t560)) = some (r1, r2, r3) := H
        have A34 := Aside0.mk A340
        clear A340
        have HC35 := Aside0.mk H
        clear H
        obtain ⟨⟨hnc36, hnb36⟩, -⟩ := BX.out.apart 0 rfl
        have hcz37_0 : wc.cell? ⟨gb557, 0, none⟩ = some (.int .i64 t559) := (blk_cell (BX.out.get 1 rfl) 0).trans rfl
        have hcz37_1 : wc.cell? ⟨gb557, 1, none⟩ = some (.int .i64 t560) := (blk_cell (BX.out.get 1 rfl) 1).trans rfl
        have hfz37_0 := blk_frozen (BX.out.get 1 rfl) 0
        have hfz37_1 := blk_frozen (BX.out.get 1 rfl) 1
        go_upto_if 56 with (first | (go_at_call 58; (with_reducible refine (num_size.calls t559 t561 _ A33.out).mono ?_); rintro e w' ⟨rfl, ⟨nd, rfl⟩⟩; (try first | exact ⟨rfl, _, World.drewN_drewN _ _ _⟩ | exact ⟨rfl, _, Eq.trans (World.drewN_drewN _ _ _) (congrArg (World.drewN _) (Nat.add_assoc _ _ _))⟩)) | (go_at_call 58; (with_reducible refine (num_size.calls a1 t562 _ A34.out).mono ?_); rintro e w' ⟨rfl, ⟨nd, rfl⟩⟩; (try first | exact ⟨rfl, _, World.drewN_drewN _ _ _⟩ | exact ⟨rfl, _, Eq.trans (World.drewN_drewN _ _ _) (congrArg (World.drewN _) (Nat.add_assoc _ _ _))⟩)))
        repeat (go_quiet (first | (go_at_call 58; (with_reducible refine (num_size.calls t559 t561 _ A33.out).mono ?_); rintro e w' ⟨rfl, ⟨nd, rfl⟩⟩; (try first | exact ⟨rfl, _, World.drewN_drewN _ _ _⟩ | exact ⟨rfl, _, Eq.trans (World.drewN_drewN _ _ _) (congrArg (World.drewN _) (Nat.add_assoc _ _ _))⟩)) | (go_at_call 58; (with_reducible refine (num_size.calls a1 t562 _ A34.out).mono ?_); rintro e w' ⟨rfl, ⟨nd, rfl⟩⟩; (try first | exact ⟨rfl, _, World.drewN_drewN _ _ _⟩ | exact ⟨rfl, _, Eq.trans (World.drewN_drewN _ _ _) (congrArg (World.drewN _) (Nat.add_assoc _ _ _))⟩))); go_upto_if 56 with (first | (go_at_call 58; (with_reducible refine (num_size.calls t559 t561 _ A33.out).mono ?_); rintro e w' ⟨rfl, ⟨nd, rfl⟩⟩; (try first | exact ⟨rfl, _, World.drewN_drewN _ _ _⟩ | exact ⟨rfl, _, Eq.trans (World.drewN_drewN _ _ _) (congrArg (World.drewN _) (Nat.add_assoc _ _ _))⟩)) | (go_at_call 58; (with_reducible refine (num_size.calls a1 t562 _ A34.out).mono ?_); rintro e w' ⟨rfl, ⟨nd, rfl⟩⟩; (try first | exact ⟨rfl, _, World.drewN_drewN _ _ _⟩ | exact ⟨rfl, _, Eq.trans (World.drewN_drewN _ _ _) (congrArg (World.drewN _) (Nat.add_assoc _ _ _))⟩))))
        (try simp only [Act.put, List.setIfInBounds_toArray, List.set_cons_zero, List.set_cons_succ])
        go_cut [7, 8] (fun v7 v8 wc => ∃ (kq : Nat) (x7_34 : Int) (x8_34 : Int), v7 = .int .u64 x7_34 ∧ v8 = .int .u64 x8_34 ∧ Aside0 (num_Pow.j2 kq ((Int.tmod a1 2) != 0) x7_34 x8_34 t562 t559 t560 = some (r1, r2, r3)) ∧ Aside0 (kq ≤ kj19) ∧ Aside0 (Boxes w.heap.size wc [(gb558, 23, #[.int .i64 0, .int .i64 0]), (gb557, 23, #[.int .i64 t559, .int .i64 t560])]) ∧ Aside0 (Below w.heap.size w wc))
        case first =>
         have H := HC35.out
         clear HC35
         by_cases c38 : a1 < 0
         ·rw [if_pos c38] at H
          have c38b0 : decide (a1 < 0) = true := decide_eq_true c38
          clear c38
          (first | rw [c38b0] | (simp only [i64_w, i32_w]; rw [c38b0]) | skip)
          have H' := Aside0.mk H
          clear H
          go_wp2
          repeat (go_quiet (fail); try go_wp2)
          go_meet
          case rel => exact ⟨_, (IntKind.u64.wrap (t560)), (t561), (by first | rfl | (simp; done) | (simp [*]; done) | (simp [bne_nil]; done)), (by first | rfl | (simp; done) | (simp [*]; done) | (simp [bne_nil]; done)), H', ⟨by have := HJ3.out; have := HJ19.out; first | omega | exact Nat.le_refl _⟩, ⟨by (with_reducible repeat (first | apply boxes_drewN | apply boxes_drew | apply boxes_alloc)); exact BX.out⟩, ⟨by repeat (first | (with_reducible first | exact HB.out | apply below_alloc | apply pw_below_drewN | apply below_drew1 | refine below_set ?_ (Aside0.out (by assumption))) | exact HB.out)⟩⟩
         ·rw [if_neg c38] at H
          have c38b0 : decide (a1 < 0) = false := decide_eq_false c38
          clear c38
          (first | rw [c38b0] | (simp only [i64_w, i32_w]; rw [c38b0]) | skip)
          have H' := Aside0.mk H
          clear H
          go_wp2
          repeat (go_quiet (fail); try go_wp2)
          go_meet
          case rel => exact ⟨_, (t561), (IntKind.u64.wrap (t560)), (by first | rfl | (simp; done) | (simp [*]; done) | (simp [bne_nil]; done)), (by first | rfl | (simp; done) | (simp [*]; done) | (simp [bne_nil]; done)), H', ⟨by have := HJ3.out; have := HJ19.out; first | omega | exact Nat.le_refl _⟩, ⟨by (with_reducible repeat (first | apply boxes_drewN | apply boxes_drew | apply boxes_alloc)); exact BX.out⟩, ⟨by repeat (first | (with_reducible first | exact HB.out | apply below_alloc | apply pw_below_drewN | apply below_drew1 | refine below_set ?_ (Aside0.out (by assumption))) | exact HB.out)⟩⟩
        case rest =>
         clear HC35
         try clear c1
         try clear c2
         try clear p2
         try clear c3
         try clear c4
         try clear c7
         try clear c11
         try clear c11b0
         try clear c11b1
         try clear c12
         try clear c12b0
         try clear c12b1
         try clear c13
         try clear c15
         try clear c17
         try clear c18
         try clear c21
         try clear c21b0
         try clear c21b1
         try clear c22
         try clear c24
         try clear c26
         try clear c27
         try clear c29
         try clear c29b0
         try clear c29b1
         try clear c30
         try clear c36
         try clear c38
         try clear c38b0
         try clear hcz10_0
         try clear hcz10_1
         try clear hcz14_0
         try clear hcz14_1
         try clear hcz16_0
         try clear hcz16_1
         try clear hcz19_0
         try clear hcz19_1
         try clear hcz23_0
         try clear hcz23_1
         try clear hcz25_0
         try clear hcz25_1
         try clear hcz28_0
         try clear hcz28_1
         try clear hcz31_0
         try clear hcz31_1
         try clear hcz32_0
         try clear hcz32_1
         try clear hcz37_0
         try clear hcz37_1
         try clear hcz8_0
         try clear hcz8_1
         try clear hfz10_0
         try clear hfz10_1
         try clear hfz14_0
         try clear hfz14_1
         try clear hfz16_0
         try clear hfz16_1
         try clear hfz19_0
         try clear hfz19_1
         try clear hfz23_0
         try clear hfz23_1
         try clear hfz25_0
         try clear hfz25_1
         try clear hfz28_0
         try clear hfz28_1
         try clear hfz31_0
         try clear hfz31_1
         try clear hfz32_0
         try clear hfz32_1
         try clear hfz37_0
         try clear hfz37_1
         try clear hfz8_0
         try clear hfz8_1
         try clear p2
         obtain ⟨kq, x7_34, x8_34, rfl, rfl, HA, HJ34, BX, HB⟩ := hcut
         cases kq with
         | zero => exact absurd HA.out (by simp [num_Pow.j2])
         | succ kj34 =>
          have H := HA.out
          clear HA
          simp only [num_Pow.j2] at H
          have H' := Aside0.mk H
          clear H
          go_wp2
          repeat (go_quiet (fail); try go_wp2)
          go_loopg [10, 11, 12] kj34 (fun kq v10 v11 v12 w' => ∃ (x10_4 : Int) (x11_4 : Int) (x12_4 : Int) (x559000_4 : Int) (x559001_4 : Int), v10 = .int .u64 x10_4 ∧ v11 = .int .u64 x11_4 ∧ v12 = .int .u64 x12_4 ∧ Aside0 (num_Pow.l0 kq ((Int.tmod a1 2) != 0) x7_34 x8_34 t562 x10_4 x11_4 x12_4 t559 t560 = some (r1, r2, r3)) ∧ Aside0 (kq ≤ kj34) ∧ Aside0 (Boxes w.heap.size w' [(gb558, 23, #[.int .i64 x559000_4, .int .i64 x559001_4]), (gb557, 23, #[.int .i64 t559, .int .i64 t560])]) ∧ Aside0 (Below w.heap.size w w'))
          case atStart => exact ⟨(1), (1), (0), (0), (0), (by first | rfl | (simp; done) | (simp [*]; done) | (simp [bne_nil]; done)), (by first | rfl | (simp; done) | (simp [*]; done) | (simp [bne_nil]; done)), (by first | rfl | (simp; done) | (simp [*]; done) | (simp [bne_nil]; done)), H', ⟨Nat.le_refl _⟩, ⟨by (with_reducible repeat (first | apply boxes_drewN | apply boxes_drew | apply boxes_alloc)); exact BX.out⟩, ⟨by repeat (first | (with_reducible first | exact HB.out | apply below_alloc | apply pw_below_drewN | apply below_drew1 | refine below_set ?_ (Aside0.out (by assumption))) | exact HB.out)⟩⟩
          case round =>
           clear H'
           try clear c1
           try clear c2
           try clear p2
           try clear c3
           try clear c4
           try clear c7
           try clear c11
           try clear c11b0
           try clear c11b1
           try clear c12
           try clear c12b0
           try clear c12b1
           try clear c13
           try clear c15
           try clear c17
           try clear c18
           try clear c21
           try clear c21b0
           try clear c21b1
           try clear c22
           try clear c24
           try clear c26
           try clear c27
           try clear c29
           try clear c29b0
           try clear c29b1
           try clear c30
           try clear c36
           try clear c38
           try clear c38b0
           try clear hcz10_0
           try clear hcz10_1
           try clear hcz14_0
           try clear hcz14_1
           try clear hcz16_0
           try clear hcz16_1
           try clear hcz19_0
           try clear hcz19_1
           try clear hcz23_0
           try clear hcz23_1
           try clear hcz25_0
           try clear hcz25_1
           try clear hcz28_0
           try clear hcz28_1
           try clear hcz31_0
           try clear hcz31_1
           try clear hcz32_0
           try clear hcz32_1
           try clear hcz37_0
           try clear hcz37_1
           try clear hcz8_0
           try clear hcz8_1
           try clear hfz10_0
           try clear hfz10_1
           try clear hfz14_0
           try clear hfz14_1
           try clear hfz16_0
           try clear hfz16_1
           try clear hfz19_0
           try clear hfz19_1
           try clear hfz23_0
           try clear hfz23_1
           try clear hfz25_0
           try clear hfz25_1
           try clear hfz28_0
           try clear hfz28_1
           try clear hfz31_0
           try clear hfz31_1
           try clear hfz32_0
           try clear hfz32_1
           try clear hfz37_0
           try clear hfz37_1
           try clear hfz8_0
           try clear hfz8_1
           try clear p2
           obtain ⟨x10_4, x11_4, x12_4, x559000_4, x559001_4, rfl, rfl, rfl, HA, HK4, BX, HB⟩ := hrel
           cases gk with
           | zero => exact absurd HA.out (by simp [num_Pow.l0])
           | succ k4 =>
            have H := HA.out
            clear HA
            simp only [num_Pow.l0] at H
            have HC39 := Aside0.mk H
            clear H
            go_upto_region 14 with (fail)
            repeat (go_quiet (fail); go_upto_region 14 with (fail))
            go_cut [67] (fun v67 wc => ∃ (kq : Nat) (x67_38 : Bool), v67 = .bool x67_38 ∧ Aside0 (num_Pow.j4 kq ((Int.tmod a1 2) != 0) x7_34 x8_34 t562 x10_4 x11_4 x12_4 x67_38 t559 t560 = some (r1, r2, r3)) ∧ Aside0 (kq ≤ k4) ∧ Aside0 (Boxes w.heap.size wc [(gb558, 23, #[.int .i64 x559000_4, .int .i64 x559001_4]), (gb557, 23, #[.int .i64 t559, .int .i64 t560])]) ∧ Aside0 (Below w.heap.size w wc))
            case first =>
             have H := HC39.out
             clear HC39
             by_cases c40 : x12_4 < t562
             ·rw [if_pos c40] at H
              have c40b0 : decide (x12_4 < t562) = true := decide_eq_true c40
              clear c40
              (first | rw [c40b0] | (simp only [i64_w, i32_w]; rw [c40b0]) | skip)
              have H' := Aside0.mk H
              clear H
              go_wp2
              repeat (go_quiet (fail); try go_wp2)
              go_meet
              case rel => exact ⟨_, (decide ((IntKind.u64.wrap (x7_34 * x8_34)) > 1)), (by first | rfl | (simp; done) | (simp [*]; done) | (simp [bne_nil]; done)), H', ⟨by have := HJ3.out; have := HJ19.out; have := HJ34.out; have := HK4.out; first | omega | exact Nat.le_refl _⟩, ⟨by (with_reducible repeat (first | apply boxes_drewN | apply boxes_drew | apply boxes_alloc)); exact BX.out⟩, ⟨by repeat (first | (with_reducible first | exact HB.out | apply below_alloc | apply pw_below_drewN | apply below_drew1 | refine below_set ?_ (Aside0.out (by assumption))) | exact HB.out)⟩⟩
             ·rw [if_neg c40] at H
              have c40b0 : decide (x12_4 < t562) = false := decide_eq_false c40
              clear c40
              (first | rw [c40b0] | (simp only [i64_w, i32_w]; rw [c40b0]) | skip)
              have H' := Aside0.mk H
              clear H
              go_wp2
              repeat (go_quiet (fail); try go_wp2)
              go_meet
              case rel => exact ⟨_, (false), (by first | rfl | (simp; done) | (simp [*]; done) | (simp [bne_nil]; done)), H', ⟨by have := HJ3.out; have := HJ19.out; have := HJ34.out; have := HK4.out; first | omega | exact Nat.le_refl _⟩, ⟨by (with_reducible repeat (first | apply boxes_drewN | apply boxes_drew | apply boxes_alloc)); exact BX.out⟩, ⟨by repeat (first | (with_reducible first | exact HB.out | apply below_alloc | apply pw_below_drewN | apply below_drew1 | refine below_set ?_ (Aside0.out (by assumption))) | exact HB.out)⟩⟩
            case rest =>
             clear HC39
             try clear c1
             try clear c2
             try clear p2
             try clear c3
             try clear c4
             try clear c7
             try clear c11
             try clear c11b0
             try clear c11b1
             try clear c12
             try clear c12b0
             try clear c12b1
             try clear c13
             try clear c15
             try clear c17
             try clear c18
             try clear c21
             try clear c21b0
             try clear c21b1
             try clear c22
             try clear c24
             try clear c26
             try clear c27
             try clear c29
             try clear c29b0
             try clear c29b1
             try clear c30
             try clear c36
             try clear c38
             try clear c38b0
             try clear c40
             try clear c40b0
             try clear hcz10_0
             try clear hcz10_1
             try clear hcz14_0
             try clear hcz14_1
             try clear hcz16_0
             try clear hcz16_1
             try clear hcz19_0
             try clear hcz19_1
             try clear hcz23_0
             try clear hcz23_1
             try clear hcz25_0
             try clear hcz25_1
             try clear hcz28_0
             try clear hcz28_1
             try clear hcz31_0
             try clear hcz31_1
             try clear hcz32_0
             try clear hcz32_1
             try clear hcz37_0
             try clear hcz37_1
             try clear hcz8_0
             try clear hcz8_1
             try clear hfz10_0
             try clear hfz10_1
             try clear hfz14_0
             try clear hfz14_1
             try clear hfz16_0
             try clear hfz16_1
             try clear hfz19_0
             try clear hfz19_1
             try clear hfz23_0
             try clear hfz23_1
             try clear hfz25_0
             try clear hfz25_1
             try clear hfz28_0
             try clear hfz28_1
             try clear hfz31_0
             try clear hfz31_1
             try clear hfz32_0
             try clear hfz32_1
             try clear hfz37_0
             try clear hfz37_1
             try clear hfz8_0
             try clear hfz8_1
             try clear p2
             obtain ⟨kq, x67_38, rfl, HA, HJ38, BX, HB⟩ := hcut
             cases kq with
             | zero => exact absurd HA.out (by simp [num_Pow.j4])
             | succ kj38 =>
              have H := HA.out
              clear HA
              simp only [num_Pow.j4] at H
              by_cases c41 : x67_38 = true
              ·subst c41
               have H1 : (if x7_34 = 0 then (none) else (if x10_4 > (IntKind.u64.wrap (Int.tdiv (1000000000000 : Int) x7_34)) then (some (0, 0, false)) else (if x8_34 = 0 then (none) else (if x11_4 > (IntKind.u64.wrap (Int.tdiv (1000000 : Int) x8_34)) then (some (0, 0, false)) else (num_Pow.l0 kj38 ((Int.tmod a1 2) != 0) x7_34 x8_34 t562 (IntKind.u64.wrap (x10_4 * x7_34)) (IntKind.u64.wrap (x11_4 * x8_34)) (IntKind.u64.wrap (x12_4 + 1)) t559 t560))))) = some (r1, r2, r3) := by rw [if_pos rfl] at H; exact H
               clear H
               have H := H1
               clear H1
               by_cases c42 : x7_34 = 0
               ·rw [if_pos c42] at H
                exact absurd H (by simp)
               ·rw [if_neg c42] at H
                have c42b0 : (x7_34 == 0) = false := beq_eq_false_iff_ne.mpr c42
                have c42b1 : (x7_34 != 0) = true := bne_iff_ne.mpr c42
                by_cases c43 : x10_4 > (IntKind.u64.wrap (Int.tdiv (1000000000000 : Int) x7_34))
                ·rw [if_pos c43] at H
                 have c43b0 : decide ((IntKind.u64.wrap (Int.tdiv (1000000000000 : Int) x7_34)) < x10_4) = true := decide_eq_true c43
                 clear c43
                 simp only [Option.some.injEq, Prod.mk.injEq] at H
                 obtain ⟨rfl, rfl, rfl⟩ := H
                 obtain ⟨⟨hnb44, hnc44⟩, -⟩ := BX.out.apart 0 rfl
                 have hcz45_0 : wc.cell? ⟨gb558, 0, none⟩ = some (.int .i64 x559000_4) := (blk_cell (BX.out.get 0 rfl) 0).trans rfl
                 have hcz45_1 : wc.cell? ⟨gb558, 1, none⟩ = some (.int .i64 x559001_4) := (blk_cell (BX.out.get 0 rfl) 1).trans rfl
                 have hfz45_0 := blk_frozen (BX.out.get 0 rfl) 0
                 have hfz45_1 := blk_frozen (BX.out.get 0 rfl) 1
                 go_wp2
                 repeat (go_quiet (fail); try go_wp2)
                 refine bodyPost_ret (results_ct rfl _ _ gb558 23 #[.int .i64 0, .int .i64 0] (0, 0) _ rfl (by (with_reducible repeat (first | refine blk_drewN ?_ _ | refine blk_drew ?_ | refine blk_alloc ?_ _)); refine blk_put (cs := #[.int .i64 0, .int .i64 x559001_4]) ?_ 1 _ rfl; (with_reducible repeat (first | refine blk_drewN ?_ _ | refine blk_drew ?_ | refine blk_alloc ?_ _)); refine blk_put (cs := #[.int .i64 x559000_4, .int .i64 x559001_4]) ?_ 0 _ rfl; (with_reducible repeat (first | refine blk_drewN ?_ _ | refine blk_drew ?_ | refine blk_alloc ?_ _)); exact (BX.out.get 0 rfl)) Tryd.underlying23 rfl (by kernel_rfl)) rfl ?_
                 exact ⟨by first | rfl | (simp [errW_none, errW_some] <;> rfl) | (simp [*, errW_none, errW_some] <;> rfl), by repeat (first | (with_reducible first | exact HB.out | apply below_alloc | apply pw_below_drewN | apply below_drew1 | refine below_set ?_ (Aside0.out (by assumption))) | exact HB.out)⟩
                ·rw [if_neg c43] at H
                 have c43b0 : decide ((IntKind.u64.wrap (Int.tdiv (1000000000000 : Int) x7_34)) < x10_4) = false := decide_eq_false c43
                 clear c43
                 by_cases c46 : x8_34 = 0
                 ·rw [if_pos c46] at H
                  exact absurd H (by simp)
                 ·rw [if_neg c46] at H
                  have c46b0 : (x8_34 == 0) = false := beq_eq_false_iff_ne.mpr c46
                  have c46b1 : (x8_34 != 0) = true := bne_iff_ne.mpr c46
                  by_cases c47 : x11_4 > (IntKind.u64.wrap (Int.tdiv (1000000 : Int) x8_34))
                  ·rw [if_pos c47] at H
                   have c47b0 : decide ((IntKind.u64.wrap (Int.tdiv (1000000 : Int) x8_34)) < x11_4) = true := decide_eq_true c47
                   clear c47
                   simp only [Option.some.injEq, Prod.mk.injEq] at H
                   obtain ⟨rfl, rfl, rfl⟩ := H
                   obtain ⟨⟨hnb48, hnc48⟩, -⟩ := BX.out.apart 0 rfl
                   have hcz49_0 : wc.cell? ⟨gb558, 0, none⟩ = some (.int .i64 x559000_4) := (blk_cell (BX.out.get 0 rfl) 0).trans rfl
                   have hcz49_1 : wc.cell? ⟨gb558, 1, none⟩ = some (.int .i64 x559001_4) := (blk_cell (BX.out.get 0 rfl) 1).trans rfl
                   have hfz49_0 := blk_frozen (BX.out.get 0 rfl) 0
                   have hfz49_1 := blk_frozen (BX.out.get 0 rfl) 1
                   go_wp2
                   repeat (go_quiet (fail); try go_wp2)
                   refine bodyPost_ret (results_ct rfl _ _ gb558 23 #[.int .i64 0, .int .i64 0] (0, 0) _ rfl (by (with_reducible repeat (first | refine blk_drewN ?_ _ | refine blk_drew ?_ | refine blk_alloc ?_ _)); refine blk_put (cs := #[.int .i64 0, .int .i64 x559001_4]) ?_ 1 _ rfl; (with_reducible repeat (first | refine blk_drewN ?_ _ | refine blk_drew ?_ | refine blk_alloc ?_ _)); refine blk_put (cs := #[.int .i64 x559000_4, .int .i64 x559001_4]) ?_ 0 _ rfl; (with_reducible repeat (first | refine blk_drewN ?_ _ | refine blk_drew ?_ | refine blk_alloc ?_ _)); exact (BX.out.get 0 rfl)) Tryd.underlying23 rfl (by kernel_rfl)) rfl ?_
                   exact ⟨by first | rfl | (simp [errW_none, errW_some] <;> rfl) | (simp [*, errW_none, errW_some] <;> rfl), by repeat (first | (with_reducible first | exact HB.out | apply below_alloc | apply pw_below_drewN | apply below_drew1 | refine below_set ?_ (Aside0.out (by assumption))) | exact HB.out)⟩
                  ·rw [if_neg c47] at H
                   have c47b0 : decide ((IntKind.u64.wrap (Int.tdiv (1000000 : Int) x8_34)) < x11_4) = false := decide_eq_false c47
                   clear c47
                   have H' := Aside0.mk H
                   clear H
                   go_wp2
                   repeat (go_quiet (fail); try go_wp2)
                   go_roundg kj38
                   case measure => have := HJ3.out; have := HJ19.out; have := HJ34.out; have := HK4.out; have := HJ38.out; omega
                   case rel => exact ⟨(IntKind.u64.wrap (x10_4 * x7_34)), (IntKind.u64.wrap (x11_4 * x8_34)), (IntKind.u64.wrap (x12_4 + 1)), (x559000_4), (x559001_4), (by first | rfl | (simp; done) | (simp [*]; done) | (simp [bne_nil]; done)), (by first | rfl | (simp; done) | (simp [*]; done) | (simp [bne_nil]; done)), (by first | rfl | (simp; done) | (simp [*]; done) | (simp [bne_nil]; done)), H', ⟨by have := HJ3.out; have := HJ19.out; have := HJ34.out; have := HK4.out; have := HJ38.out; omega⟩, ⟨by (with_reducible repeat (first | apply boxes_drewN | apply boxes_drew | apply boxes_alloc)); exact BX.out⟩, ⟨by repeat (first | (with_reducible first | exact HB.out | apply below_alloc | apply pw_below_drewN | apply below_drew1 | refine below_set ?_ (Aside0.out (by assumption))) | exact HB.out)⟩⟩
              ·replace c41 := Bool.eq_false_iff.mpr c41
               subst c41
               have H1 : (if t559 < 0 then (if ((Int.tmod a1 2) != 0) = true then (some (wrap64 (-(wrap64 (x10_4))), wrap64 (x11_4), true)) else (some (wrap64 (x10_4), wrap64 (x11_4), true))) else (some (wrap64 (x10_4), wrap64 (x11_4), true))) = some (r1, r2, r3) := by rw [if_neg (show ¬ (false = true) by decide)] at H; exact H
               clear H
               have H := H1
               clear H1
               by_cases c50 : t559 < 0
               ·rw [if_pos c50] at H
                have c50b0 : decide (t559 < 0) = true := decide_eq_true c50
                clear c50
                by_cases c51 : ((Int.tmod a1 2) != 0) = true
                ·rw [if_pos c51] at H
                 have c51b0 : ((Int.tmod a1 2) != 0) = true := c51
                 (try (have c51b1 : decide ((Int.tmod a1 2) = 0) = false := by simpa using c51))
                 (try (have c51b2 : ((Int.tmod a1 2) == 0) = false := by simpa using c51))
                 (try (have c51b3 : ¬ ((Int.tmod a1 2) = 0) := by simpa using c51))
                 clear c51
                 simp only [Option.some.injEq, Prod.mk.injEq] at H
                 obtain ⟨rfl, rfl, rfl⟩ := H
                 go_wp2_with (first | ((with_reducible refine gate_dst (N := 13) rfl ?_); refine box_event ?hg (N := 13) ?hd (cs := #[.int .i64 0, .int .i64 0]) (t := 23) ?hr ?_; (case hd => rfl); (case hg => rfl); (case hr => first | (go_simp; done) | (go_simp; rfl)); intro gb563 hg w52 hbox hb; have n0_ := Aside0.mk (Boxes.new (by (with_reducible repeat (first | apply boxes_drewN | apply boxes_drew | apply boxes_alloc)); exact BX.out) hg hbox hb (below_size (by repeat (first | (with_reducible first | exact HB.out | apply below_alloc | apply pw_below_drewN | apply below_drew1 | refine below_set ?_ (Aside0.out (by assumption))) | exact HB.out)))); have n1_ := Aside0.mk (below_step (by repeat (first | (with_reducible first | exact HB.out | apply below_alloc | apply pw_below_drewN | apply below_drew1 | refine below_set ?_ (Aside0.out (by assumption))) | exact HB.out)) hb); have n2_ := Aside0.mk ((by rw [hg]; exact (below_size (by repeat (first | (with_reducible first | exact HB.out | apply below_alloc | apply pw_below_drewN | apply below_drew1 | refine below_set ?_ (Aside0.out (by assumption))) | exact HB.out))) : w.heap.size ≤ gb563)); clear BX HB; have BX := n0_; have HB := n1_; have GE563 := n2_; clear n0_ n1_ n2_; clear hb hbox hg; obtain ⟨⟨hnb54, hnc54⟩, ⟨hnb53, hnc53⟩, -⟩ := BX.out.apart 0 rfl; have hcz55_0 : w52.cell? ⟨gb563, 0, none⟩ = some (.int .i64 0) := (blk_cell (BX.out.get 0 rfl) 0).trans rfl; have hcz55_1 : w52.cell? ⟨gb563, 1, none⟩ = some (.int .i64 0) := (blk_cell (BX.out.get 0 rfl) 1).trans rfl; have hfz55_0 := blk_frozen (BX.out.get 0 rfl) 0; have hfz55_1 := blk_frozen (BX.out.get 0 rfl) 1; obtain ⟨-, ⟨hnc56, hnb56⟩, -⟩ := BX.out.apart 1 rfl; have hcz57_0 : w52.cell? ⟨gb557, 0, none⟩ = some (.int .i64 t559) := (blk_cell (BX.out.get 2 rfl) 0).trans rfl; have hcz57_1 : w52.cell? ⟨gb557, 1, none⟩ = some (.int .i64 t560) := (blk_cell (BX.out.get 2 rfl) 1).trans rfl; have hfz57_0 := blk_frozen (BX.out.get 2 rfl) 0; have hfz57_1 := blk_frozen (BX.out.get 2 rfl) 1; have hcz58_0 : w52.cell? ⟨gb558, 0, none⟩ = some (.int .i64 x559000_4) := (blk_cell (BX.out.get 1 rfl) 0).trans rfl; have hcz58_1 : w52.cell? ⟨gb558, 1, none⟩ = some (.int .i64 x559001_4) := (blk_cell (BX.out.get 1 rfl) 1).trans rfl; have hfz58_0 := blk_frozen (BX.out.get 1 rfl) 0; have hfz58_1 := blk_frozen (BX.out.get 1 rfl) 1))
                 repeat (go_quiet (first | ((with_reducible refine gate_dst (N := 13) rfl ?_); refine box_event ?hg (N := 13) ?hd (cs := #[.int .i64 0, .int .i64 0]) (t := 23) ?hr ?_; (case hd => rfl); (case hg => rfl); (case hr => first | (go_simp; done) | (go_simp; rfl)); intro gb563 hg w52 hbox hb; have n0_ := Aside0.mk (Boxes.new (by (with_reducible repeat (first | apply boxes_drewN | apply boxes_drew | apply boxes_alloc)); exact BX.out) hg hbox hb (below_size (by repeat (first | (with_reducible first | exact HB.out | apply below_alloc | apply pw_below_drewN | apply below_drew1 | refine below_set ?_ (Aside0.out (by assumption))) | exact HB.out)))); have n1_ := Aside0.mk (below_step (by repeat (first | (with_reducible first | exact HB.out | apply below_alloc | apply pw_below_drewN | apply below_drew1 | refine below_set ?_ (Aside0.out (by assumption))) | exact HB.out)) hb); have n2_ := Aside0.mk ((by rw [hg]; exact (below_size (by repeat (first | (with_reducible first | exact HB.out | apply below_alloc | apply pw_below_drewN | apply below_drew1 | refine below_set ?_ (Aside0.out (by assumption))) | exact HB.out))) : w.heap.size ≤ gb563)); clear BX HB; have BX := n0_; have HB := n1_; have GE563 := n2_; clear n0_ n1_ n2_; clear hb hbox hg; obtain ⟨⟨hnb54, hnc54⟩, ⟨hnb53, hnc53⟩, -⟩ := BX.out.apart 0 rfl; have hcz55_0 : w52.cell? ⟨gb563, 0, none⟩ = some (.int .i64 0) := (blk_cell (BX.out.get 0 rfl) 0).trans rfl; have hcz55_1 : w52.cell? ⟨gb563, 1, none⟩ = some (.int .i64 0) := (blk_cell (BX.out.get 0 rfl) 1).trans rfl; have hfz55_0 := blk_frozen (BX.out.get 0 rfl) 0; have hfz55_1 := blk_frozen (BX.out.get 0 rfl) 1; obtain ⟨-, ⟨hnc56, hnb56⟩, -⟩ := BX.out.apart 1 rfl; have hcz57_0 : w52.cell? ⟨gb557, 0, none⟩ = some (.int .i64 t559) := (blk_cell (BX.out.get 2 rfl) 0).trans rfl; have hcz57_1 : w52.cell? ⟨gb557, 1, none⟩ = some (.int .i64 t560) := (blk_cell (BX.out.get 2 rfl) 1).trans rfl; have hfz57_0 := blk_frozen (BX.out.get 2 rfl) 0; have hfz57_1 := blk_frozen (BX.out.get 2 rfl) 1; have hcz58_0 : w52.cell? ⟨gb558, 0, none⟩ = some (.int .i64 x559000_4) := (blk_cell (BX.out.get 1 rfl) 0).trans rfl; have hcz58_1 : w52.cell? ⟨gb558, 1, none⟩ = some (.int .i64 x559001_4) := (blk_cell (BX.out.get 1 rfl) 1).trans rfl; have hfz58_0 := blk_frozen (BX.out.get 1 rfl) 0; have hfz58_1 := blk_frozen (BX.out.get 1 rfl) 1)); try go_wp2_with (first | ((with_reducible refine gate_dst (N := 13) rfl ?_); refine box_event ?hg (N := 13) ?hd (cs := #[.int .i64 0, .int .i64 0]) (t := 23) ?hr ?_; (case hd => rfl); (case hg => rfl); (case hr => first | (go_simp; done) | (go_simp; rfl)); intro gb563 hg w52 hbox hb; have n0_ := Aside0.mk (Boxes.new (by (with_reducible repeat (first | apply boxes_drewN | apply boxes_drew | apply boxes_alloc)); exact BX.out) hg hbox hb (below_size (by repeat (first | (with_reducible first | exact HB.out | apply below_alloc | apply pw_below_drewN | apply below_drew1 | refine below_set ?_ (Aside0.out (by assumption))) | exact HB.out)))); have n1_ := Aside0.mk (below_step (by repeat (first | (with_reducible first | exact HB.out | apply below_alloc | apply pw_below_drewN | apply below_drew1 | refine below_set ?_ (Aside0.out (by assumption))) | exact HB.out)) hb); have n2_ := Aside0.mk ((by rw [hg]; exact (below_size (by repeat (first | (with_reducible first | exact HB.out | apply below_alloc | apply pw_below_drewN | apply below_drew1 | refine below_set ?_ (Aside0.out (by assumption))) | exact HB.out))) : w.heap.size ≤ gb563)); clear BX HB; have BX := n0_; have HB := n1_; have GE563 := n2_; clear n0_ n1_ n2_; clear hb hbox hg; obtain ⟨⟨hnb54, hnc54⟩, ⟨hnb53, hnc53⟩, -⟩ := BX.out.apart 0 rfl; have hcz55_0 : w52.cell? ⟨gb563, 0, none⟩ = some (.int .i64 0) := (blk_cell (BX.out.get 0 rfl) 0).trans rfl; have hcz55_1 : w52.cell? ⟨gb563, 1, none⟩ = some (.int .i64 0) := (blk_cell (BX.out.get 0 rfl) 1).trans rfl; have hfz55_0 := blk_frozen (BX.out.get 0 rfl) 0; have hfz55_1 := blk_frozen (BX.out.get 0 rfl) 1; obtain ⟨-, ⟨hnc56, hnb56⟩, -⟩ := BX.out.apart 1 rfl; have hcz57_0 : w52.cell? ⟨gb557, 0, none⟩ = some (.int .i64 t559) := (blk_cell (BX.out.get 2 rfl) 0).trans rfl; have hcz57_1 : w52.cell? ⟨gb557, 1, none⟩ = some (.int .i64 t560) := (blk_cell (BX.out.get 2 rfl) 1).trans rfl; have hfz57_0 := blk_frozen (BX.out.get 2 rfl) 0; have hfz57_1 := blk_frozen (BX.out.get 2 rfl) 1; have hcz58_0 : w52.cell? ⟨gb558, 0, none⟩ = some (.int .i64 x559000_4) := (blk_cell (BX.out.get 1 rfl) 0).trans rfl; have hcz58_1 : w52.cell? ⟨gb558, 1, none⟩ = some (.int .i64 x559001_4) := (blk_cell (BX.out.get 1 rfl) 1).trans rfl; have hfz58_0 := blk_frozen (BX.out.get 1 rfl) 0; have hfz58_1 := blk_frozen (BX.out.get 1 rfl) 1)))
                 refine bodyPost_ret (results_ct rfl _ _ gb558 23 #[.int .i64 (wrap64 (-(wrap64 (x10_4)))), .int .i64 (wrap64 (x11_4))] (0, 0) _ rfl (by (with_reducible repeat (first | refine blk_drewN ?_ _ | refine blk_drew ?_ | refine blk_alloc ?_ _)); refine blk_put (cs := #[.int .i64 (wrap64 (-(wrap64 (x10_4)))), .int .i64 x559001_4]) ?_ 1 _ rfl; (with_reducible repeat (first | refine blk_drewN ?_ _ | refine blk_drew ?_ | refine blk_alloc ?_ _)); refine blk_put (cs := #[.int .i64 x559000_4, .int .i64 x559001_4]) ?_ 0 _ rfl; (with_reducible repeat (first | refine blk_drewN ?_ _ | refine blk_drew ?_ | refine blk_alloc ?_ _)); refine blk_far ?_ (BX.out.ne 1 0 rfl rfl (by decide)) _; (with_reducible repeat (first | refine blk_drewN ?_ _ | refine blk_drew ?_ | refine blk_alloc ?_ _)); refine blk_far ?_ (BX.out.ne 1 0 rfl rfl (by decide)) _; (with_reducible repeat (first | refine blk_drewN ?_ _ | refine blk_drew ?_ | refine blk_alloc ?_ _)); refine blk_far ?_ (BX.out.ne 1 0 rfl rfl (by decide)) _; (with_reducible repeat (first | refine blk_drewN ?_ _ | refine blk_drew ?_ | refine blk_alloc ?_ _)); exact (BX.out.get 1 rfl)) Tryd.underlying23 rfl (by kernel_rfl)) rfl ?_
                 exact ⟨by first | rfl | (simp [errW_none, errW_some] <;> rfl) | (simp [*, errW_none, errW_some] <;> rfl), by repeat (first | (with_reducible first | exact HB.out | apply below_alloc | apply pw_below_drewN | apply below_drew1 | refine below_set ?_ (Aside0.out (by assumption))) | exact HB.out)⟩
                ·rw [if_neg c51] at H
                 have c51b0 : ((Int.tmod a1 2) != 0) = false := by simpa using c51
                 (try (have c51b1 : decide ((Int.tmod a1 2) = 0) = true := by simpa using c51))
                 (try (have c51b2 : ((Int.tmod a1 2) == 0) = true := by simpa using c51))
                 clear c51
                 simp only [Option.some.injEq, Prod.mk.injEq] at H
                 obtain ⟨rfl, rfl, rfl⟩ := H
                 go_wp2_with (first | ((with_reducible refine gate_dst (N := 13) rfl ?_); refine box_event ?hg (N := 13) ?hd (cs := #[.int .i64 0, .int .i64 0]) (t := 23) ?hr ?_; (case hd => rfl); (case hg => rfl); (case hr => first | (go_simp; done) | (go_simp; rfl)); intro gb563 hg w59 hbox hb; have n0_ := Aside0.mk (Boxes.new (by (with_reducible repeat (first | apply boxes_drewN | apply boxes_drew | apply boxes_alloc)); exact BX.out) hg hbox hb (below_size (by repeat (first | (with_reducible first | exact HB.out | apply below_alloc | apply pw_below_drewN | apply below_drew1 | refine below_set ?_ (Aside0.out (by assumption))) | exact HB.out)))); have n1_ := Aside0.mk (below_step (by repeat (first | (with_reducible first | exact HB.out | apply below_alloc | apply pw_below_drewN | apply below_drew1 | refine below_set ?_ (Aside0.out (by assumption))) | exact HB.out)) hb); have n2_ := Aside0.mk ((by rw [hg]; exact (below_size (by repeat (first | (with_reducible first | exact HB.out | apply below_alloc | apply pw_below_drewN | apply below_drew1 | refine below_set ?_ (Aside0.out (by assumption))) | exact HB.out))) : w.heap.size ≤ gb563)); clear BX HB; have BX := n0_; have HB := n1_; have GE563 := n2_; clear n0_ n1_ n2_; clear hb hbox hg; obtain ⟨⟨hnb61, hnc61⟩, ⟨hnb60, hnc60⟩, -⟩ := BX.out.apart 0 rfl; have hcz62_0 : w59.cell? ⟨gb563, 0, none⟩ = some (.int .i64 0) := (blk_cell (BX.out.get 0 rfl) 0).trans rfl; have hcz62_1 : w59.cell? ⟨gb563, 1, none⟩ = some (.int .i64 0) := (blk_cell (BX.out.get 0 rfl) 1).trans rfl; have hfz62_0 := blk_frozen (BX.out.get 0 rfl) 0; have hfz62_1 := blk_frozen (BX.out.get 0 rfl) 1; obtain ⟨-, ⟨hnc63, hnb63⟩, -⟩ := BX.out.apart 1 rfl; have hcz64_0 : w59.cell? ⟨gb557, 0, none⟩ = some (.int .i64 t559) := (blk_cell (BX.out.get 2 rfl) 0).trans rfl; have hcz64_1 : w59.cell? ⟨gb557, 1, none⟩ = some (.int .i64 t560) := (blk_cell (BX.out.get 2 rfl) 1).trans rfl; have hfz64_0 := blk_frozen (BX.out.get 2 rfl) 0; have hfz64_1 := blk_frozen (BX.out.get 2 rfl) 1; have hcz65_0 : w59.cell? ⟨gb558, 0, none⟩ = some (.int .i64 x559000_4) := (blk_cell (BX.out.get 1 rfl) 0).trans rfl; have hcz65_1 : w59.cell? ⟨gb558, 1, none⟩ = some (.int .i64 x559001_4) := (blk_cell (BX.out.get 1 rfl) 1).trans rfl; have hfz65_0 := blk_frozen (BX.out.get 1 rfl) 0; have hfz65_1 := blk_frozen (BX.out.get 1 rfl) 1))
                 repeat (go_quiet (first | ((with_reducible refine gate_dst (N := 13) rfl ?_); refine box_event ?hg (N := 13) ?hd (cs := #[.int .i64 0, .int .i64 0]) (t := 23) ?hr ?_; (case hd => rfl); (case hg => rfl); (case hr => first | (go_simp; done) | (go_simp; rfl)); intro gb563 hg w59 hbox hb; have n0_ := Aside0.mk (Boxes.new (by (with_reducible repeat (first | apply boxes_drewN | apply boxes_drew | apply boxes_alloc)); exact BX.out) hg hbox hb (below_size (by repeat (first | (with_reducible first | exact HB.out | apply below_alloc | apply pw_below_drewN | apply below_drew1 | refine below_set ?_ (Aside0.out (by assumption))) | exact HB.out)))); have n1_ := Aside0.mk (below_step (by repeat (first | (with_reducible first | exact HB.out | apply below_alloc | apply pw_below_drewN | apply below_drew1 | refine below_set ?_ (Aside0.out (by assumption))) | exact HB.out)) hb); have n2_ := Aside0.mk ((by rw [hg]; exact (below_size (by repeat (first | (with_reducible first | exact HB.out | apply below_alloc | apply pw_below_drewN | apply below_drew1 | refine below_set ?_ (Aside0.out (by assumption))) | exact HB.out))) : w.heap.size ≤ gb563)); clear BX HB; have BX := n0_; have HB := n1_; have GE563 := n2_; clear n0_ n1_ n2_; clear hb hbox hg; obtain ⟨⟨hnb61, hnc61⟩, ⟨hnb60, hnc60⟩, -⟩ := BX.out.apart 0 rfl; have hcz62_0 : w59.cell? ⟨gb563, 0, none⟩ = some (.int .i64 0) := (blk_cell (BX.out.get 0 rfl) 0).trans rfl; have hcz62_1 : w59.cell? ⟨gb563, 1, none⟩ = some (.int .i64 0) := (blk_cell (BX.out.get 0 rfl) 1).trans rfl; have hfz62_0 := blk_frozen (BX.out.get 0 rfl) 0; have hfz62_1 := blk_frozen (BX.out.get 0 rfl) 1; obtain ⟨-, ⟨hnc63, hnb63⟩, -⟩ := BX.out.apart 1 rfl; have hcz64_0 : w59.cell? ⟨gb557, 0, none⟩ = some (.int .i64 t559) := (blk_cell (BX.out.get 2 rfl) 0).trans rfl; have hcz64_1 : w59.cell? ⟨gb557, 1, none⟩ = some (.int .i64 t560) := (blk_cell (BX.out.get 2 rfl) 1).trans rfl; have hfz64_0 := blk_frozen (BX.out.get 2 rfl) 0; have hfz64_1 := blk_frozen (BX.out.get 2 rfl) 1; have hcz65_0 : w59.cell? ⟨gb558, 0, none⟩ = some (.int .i64 x559000_4) := (blk_cell (BX.out.get 1 rfl) 0).trans rfl; have hcz65_1 : w59.cell? ⟨gb558, 1, none⟩ = some (.int .i64 x559001_4) := (blk_cell (BX.out.get 1 rfl) 1).trans rfl; have hfz65_0 := blk_frozen (BX.out.get 1 rfl) 0; have hfz65_1 := blk_frozen (BX.out.get 1 rfl) 1)); try go_wp2_with (first | ((with_reducible refine gate_dst (N := 13) rfl ?_); refine box_event ?hg (N := 13) ?hd (cs := #[.int .i64 0, .int .i64 0]) (t := 23) ?hr ?_; (case hd => rfl); (case hg => rfl); (case hr => first | (go_simp; done) | (go_simp; rfl)); intro gb563 hg w59 hbox hb; have n0_ := Aside0.mk (Boxes.new (by (with_reducible repeat (first | apply boxes_drewN | apply boxes_drew | apply boxes_alloc)); exact BX.out) hg hbox hb (below_size (by repeat (first | (with_reducible first | exact HB.out | apply below_alloc | apply pw_below_drewN | apply below_drew1 | refine below_set ?_ (Aside0.out (by assumption))) | exact HB.out)))); have n1_ := Aside0.mk (below_step (by repeat (first | (with_reducible first | exact HB.out | apply below_alloc | apply pw_below_drewN | apply below_drew1 | refine below_set ?_ (Aside0.out (by assumption))) | exact HB.out)) hb); have n2_ := Aside0.mk ((by rw [hg]; exact (below_size (by repeat (first | (with_reducible first | exact HB.out | apply below_alloc | apply pw_below_drewN | apply below_drew1 | refine below_set ?_ (Aside0.out (by assumption))) | exact HB.out))) : w.heap.size ≤ gb563)); clear BX HB; have BX := n0_; have HB := n1_; have GE563 := n2_; clear n0_ n1_ n2_; clear hb hbox hg; obtain ⟨⟨hnb61, hnc61⟩, ⟨hnb60, hnc60⟩, -⟩ := BX.out.apart 0 rfl; have hcz62_0 : w59.cell? ⟨gb563, 0, none⟩ = some (.int .i64 0) := (blk_cell (BX.out.get 0 rfl) 0).trans rfl; have hcz62_1 : w59.cell? ⟨gb563, 1, none⟩ = some (.int .i64 0) := (blk_cell (BX.out.get 0 rfl) 1).trans rfl; have hfz62_0 := blk_frozen (BX.out.get 0 rfl) 0; have hfz62_1 := blk_frozen (BX.out.get 0 rfl) 1; obtain ⟨-, ⟨hnc63, hnb63⟩, -⟩ := BX.out.apart 1 rfl; have hcz64_0 : w59.cell? ⟨gb557, 0, none⟩ = some (.int .i64 t559) := (blk_cell (BX.out.get 2 rfl) 0).trans rfl; have hcz64_1 : w59.cell? ⟨gb557, 1, none⟩ = some (.int .i64 t560) := (blk_cell (BX.out.get 2 rfl) 1).trans rfl; have hfz64_0 := blk_frozen (BX.out.get 2 rfl) 0; have hfz64_1 := blk_frozen (BX.out.get 2 rfl) 1; have hcz65_0 : w59.cell? ⟨gb558, 0, none⟩ = some (.int .i64 x559000_4) := (blk_cell (BX.out.get 1 rfl) 0).trans rfl; have hcz65_1 : w59.cell? ⟨gb558, 1, none⟩ = some (.int .i64 x559001_4) := (blk_cell (BX.out.get 1 rfl) 1).trans rfl; have hfz65_0 := blk_frozen (BX.out.get 1 rfl) 0; have hfz65_1 := blk_frozen (BX.out.get 1 rfl) 1)))
                 refine bodyPost_ret (results_ct rfl _ _ gb558 23 #[.int .i64 (wrap64 (x10_4)), .int .i64 (wrap64 (x11_4))] (0, 0) _ rfl (by (with_reducible repeat (first | refine blk_drewN ?_ _ | refine blk_drew ?_ | refine blk_alloc ?_ _)); refine blk_put (cs := #[.int .i64 (wrap64 (x10_4)), .int .i64 x559001_4]) ?_ 1 _ rfl; (with_reducible repeat (first | refine blk_drewN ?_ _ | refine blk_drew ?_ | refine blk_alloc ?_ _)); refine blk_put (cs := #[.int .i64 x559000_4, .int .i64 x559001_4]) ?_ 0 _ rfl; (with_reducible repeat (first | refine blk_drewN ?_ _ | refine blk_drew ?_ | refine blk_alloc ?_ _)); refine blk_far ?_ (BX.out.ne 1 0 rfl rfl (by decide)) _; (with_reducible repeat (first | refine blk_drewN ?_ _ | refine blk_drew ?_ | refine blk_alloc ?_ _)); refine blk_far ?_ (BX.out.ne 1 0 rfl rfl (by decide)) _; (with_reducible repeat (first | refine blk_drewN ?_ _ | refine blk_drew ?_ | refine blk_alloc ?_ _)); exact (BX.out.get 1 rfl)) Tryd.underlying23 rfl (by kernel_rfl)) rfl ?_
                 exact ⟨by first | rfl | (simp [errW_none, errW_some] <;> rfl) | (simp [*, errW_none, errW_some] <;> rfl), by repeat (first | (with_reducible first | exact HB.out | apply below_alloc | apply pw_below_drewN | apply below_drew1 | refine below_set ?_ (Aside0.out (by assumption))) | exact HB.out)⟩
               ·rw [if_neg c50] at H
                have c50b0 : decide (t559 < 0) = false := decide_eq_false c50
                clear c50
                simp only [Option.some.injEq, Prod.mk.injEq] at H
                obtain ⟨rfl, rfl, rfl⟩ := H
                go_wp2_with (first | ((with_reducible refine gate_dst (N := 13) rfl ?_); refine box_event ?hg (N := 13) ?hd (cs := #[.int .i64 0, .int .i64 0]) (t := 23) ?hr ?_; (case hd => rfl); (case hg => rfl); (case hr => first | (go_simp; done) | (go_simp; rfl)); intro gb563 hg w66 hbox hb; have n0_ := Aside0.mk (Boxes.new (by (with_reducible repeat (first | apply boxes_drewN | apply boxes_drew | apply boxes_alloc)); exact BX.out) hg hbox hb (below_size (by repeat (first | (with_reducible first | exact HB.out | apply below_alloc | apply pw_below_drewN | apply below_drew1 | refine below_set ?_ (Aside0.out (by assumption))) | exact HB.out)))); have n1_ := Aside0.mk (below_step (by repeat (first | (with_reducible first | exact HB.out | apply below_alloc | apply pw_below_drewN | apply below_drew1 | refine below_set ?_ (Aside0.out (by assumption))) | exact HB.out)) hb); have n2_ := Aside0.mk ((by rw [hg]; exact (below_size (by repeat (first | (with_reducible first | exact HB.out | apply below_alloc | apply pw_below_drewN | apply below_drew1 | refine below_set ?_ (Aside0.out (by assumption))) | exact HB.out))) : w.heap.size ≤ gb563)); clear BX HB; have BX := n0_; have HB := n1_; have GE563 := n2_; clear n0_ n1_ n2_; clear hb hbox hg; obtain ⟨⟨hnb68, hnc68⟩, ⟨hnb67, hnc67⟩, -⟩ := BX.out.apart 0 rfl; have hcz69_0 : w66.cell? ⟨gb563, 0, none⟩ = some (.int .i64 0) := (blk_cell (BX.out.get 0 rfl) 0).trans rfl; have hcz69_1 : w66.cell? ⟨gb563, 1, none⟩ = some (.int .i64 0) := (blk_cell (BX.out.get 0 rfl) 1).trans rfl; have hfz69_0 := blk_frozen (BX.out.get 0 rfl) 0; have hfz69_1 := blk_frozen (BX.out.get 0 rfl) 1; obtain ⟨-, ⟨hnc70, hnb70⟩, -⟩ := BX.out.apart 1 rfl; have hcz71_0 : w66.cell? ⟨gb557, 0, none⟩ = some (.int .i64 t559) := (blk_cell (BX.out.get 2 rfl) 0).trans rfl; have hcz71_1 : w66.cell? ⟨gb557, 1, none⟩ = some (.int .i64 t560) := (blk_cell (BX.out.get 2 rfl) 1).trans rfl; have hfz71_0 := blk_frozen (BX.out.get 2 rfl) 0; have hfz71_1 := blk_frozen (BX.out.get 2 rfl) 1; have hcz72_0 : w66.cell? ⟨gb558, 0, none⟩ = some (.int .i64 x559000_4) := (blk_cell (BX.out.get 1 rfl) 0).trans rfl; have hcz72_1 : w66.cell? ⟨gb558, 1, none⟩ = some (.int .i64 x559001_4) := (blk_cell (BX.out.get 1 rfl) 1).trans rfl; have hfz72_0 := blk_frozen (BX.out.get 1 rfl) 0; have hfz72_1 := blk_frozen (BX.out.get 1 rfl) 1))
                repeat (go_quiet (first | ((with_reducible refine gate_dst (N := 13) rfl ?_); refine box_event ?hg (N := 13) ?hd (cs := #[.int .i64 0, .int .i64 0]) (t := 23) ?hr ?_; (case hd => rfl); (case hg => rfl); (case hr => first | (go_simp; done) | (go_simp; rfl)); intro gb563 hg w66 hbox hb; have n0_ := Aside0.mk (Boxes.new (by (with_reducible repeat (first | apply boxes_drewN | apply boxes_drew | apply boxes_alloc)); exact BX.out) hg hbox hb (below_size (by repeat (first | (with_reducible first | exact HB.out | apply below_alloc | apply pw_below_drewN | apply below_drew1 | refine below_set ?_ (Aside0.out (by assumption))) | exact HB.out)))); have n1_ := Aside0.mk (below_step (by repeat (first | (with_reducible first | exact HB.out | apply below_alloc | apply pw_below_drewN | apply below_drew1 | refine below_set ?_ (Aside0.out (by assumption))) | exact HB.out)) hb); have n2_ := Aside0.mk ((by rw [hg]; exact (below_size (by repeat (first | (with_reducible first | exact HB.out | apply below_alloc | apply pw_below_drewN | apply below_drew1 | refine below_set ?_ (Aside0.out (by assumption))) | exact HB.out))) : w.heap.size ≤ gb563)); clear BX HB; have BX := n0_; have HB := n1_; have GE563 := n2_; clear n0_ n1_ n2_; clear hb hbox hg; obtain ⟨⟨hnb68, hnc68⟩, ⟨hnb67, hnc67⟩, -⟩ := BX.out.apart 0 rfl; have hcz69_0 : w66.cell? ⟨gb563, 0, none⟩ = some (.int .i64 0) := (blk_cell (BX.out.get 0 rfl) 0).trans rfl; have hcz69_1 : w66.cell? ⟨gb563, 1, none⟩ = some (.int .i64 0) := (blk_cell (BX.out.get 0 rfl) 1).trans rfl; have hfz69_0 := blk_frozen (BX.out.get 0 rfl) 0; have hfz69_1 := blk_frozen (BX.out.get 0 rfl) 1; obtain ⟨-, ⟨hnc70, hnb70⟩, -⟩ := BX.out.apart 1 rfl; have hcz71_0 : w66.cell? ⟨gb557, 0, none⟩ = some (.int .i64 t559) := (blk_cell (BX.out.get 2 rfl) 0).trans rfl; have hcz71_1 : w66.cell? ⟨gb557, 1, none⟩ = some (.int .i64 t560) := (blk_cell (BX.out.get 2 rfl) 1).trans rfl; have hfz71_0 := blk_frozen (BX.out.get 2 rfl) 0; have hfz71_1 := blk_frozen (BX.out.get 2 rfl) 1; have hcz72_0 : w66.cell? ⟨gb558, 0, none⟩ = some (.int .i64 x559000_4) := (blk_cell (BX.out.get 1 rfl) 0).trans rfl; have hcz72_1 : w66.cell? ⟨gb558, 1, none⟩ = some (.int .i64 x559001_4) := (blk_cell (BX.out.get 1 rfl) 1).trans rfl; have hfz72_0 := blk_frozen (BX.out.get 1 rfl) 0; have hfz72_1 := blk_frozen (BX.out.get 1 rfl) 1)); try go_wp2_with (first | ((with_reducible refine gate_dst (N := 13) rfl ?_); refine box_event ?hg (N := 13) ?hd (cs := #[.int .i64 0, .int .i64 0]) (t := 23) ?hr ?_; (case hd => rfl); (case hg => rfl); (case hr => first | (go_simp; done) | (go_simp; rfl)); intro gb563 hg w66 hbox hb; have n0_ := Aside0.mk (Boxes.new (by (with_reducible repeat (first | apply boxes_drewN | apply boxes_drew | apply boxes_alloc)); exact BX.out) hg hbox hb (below_size (by repeat (first | (with_reducible first | exact HB.out | apply below_alloc | apply pw_below_drewN | apply below_drew1 | refine below_set ?_ (Aside0.out (by assumption))) | exact HB.out)))); have n1_ := Aside0.mk (below_step (by repeat (first | (with_reducible first | exact HB.out | apply below_alloc | apply pw_below_drewN | apply below_drew1 | refine below_set ?_ (Aside0.out (by assumption))) | exact HB.out)) hb); have n2_ := Aside0.mk ((by rw [hg]; exact (below_size (by repeat (first | (with_reducible first | exact HB.out | apply below_alloc | apply pw_below_drewN | apply below_drew1 | refine below_set ?_ (Aside0.out (by assumption))) | exact HB.out))) : w.heap.size ≤ gb563)); clear BX HB; have BX := n0_; have HB := n1_; have GE563 := n2_; clear n0_ n1_ n2_; clear hb hbox hg; obtain ⟨⟨hnb68, hnc68⟩, ⟨hnb67, hnc67⟩, -⟩ := BX.out.apart 0 rfl; have hcz69_0 : w66.cell? ⟨gb563, 0, none⟩ = some (.int .i64 0) := (blk_cell (BX.out.get 0 rfl) 0).trans rfl; have hcz69_1 : w66.cell? ⟨gb563, 1, none⟩ = some (.int .i64 0) := (blk_cell (BX.out.get 0 rfl) 1).trans rfl; have hfz69_0 := blk_frozen (BX.out.get 0 rfl) 0; have hfz69_1 := blk_frozen (BX.out.get 0 rfl) 1; obtain ⟨-, ⟨hnc70, hnb70⟩, -⟩ := BX.out.apart 1 rfl; have hcz71_0 : w66.cell? ⟨gb557, 0, none⟩ = some (.int .i64 t559) := (blk_cell (BX.out.get 2 rfl) 0).trans rfl; have hcz71_1 : w66.cell? ⟨gb557, 1, none⟩ = some (.int .i64 t560) := (blk_cell (BX.out.get 2 rfl) 1).trans rfl; have hfz71_0 := blk_frozen (BX.out.get 2 rfl) 0; have hfz71_1 := blk_frozen (BX.out.get 2 rfl) 1; have hcz72_0 : w66.cell? ⟨gb558, 0, none⟩ = some (.int .i64 x559000_4) := (blk_cell (BX.out.get 1 rfl) 0).trans rfl; have hcz72_1 : w66.cell? ⟨gb558, 1, none⟩ = some (.int .i64 x559001_4) := (blk_cell (BX.out.get 1 rfl) 1).trans rfl; have hfz72_0 := blk_frozen (BX.out.get 1 rfl) 0; have hfz72_1 := blk_frozen (BX.out.get 1 rfl) 1)))
                refine bodyPost_ret (results_ct rfl _ _ gb558 23 #[.int .i64 (wrap64 (x10_4)), .int .i64 (wrap64 (x11_4))] (0, 0) _ rfl (by (with_reducible repeat (first | refine blk_drewN ?_ _ | refine blk_drew ?_ | refine blk_alloc ?_ _)); refine blk_put (cs := #[.int .i64 (wrap64 (x10_4)), .int .i64 x559001_4]) ?_ 1 _ rfl; (with_reducible repeat (first | refine blk_drewN ?_ _ | refine blk_drew ?_ | refine blk_alloc ?_ _)); refine blk_put (cs := #[.int .i64 x559000_4, .int .i64 x559001_4]) ?_ 0 _ rfl; (with_reducible repeat (first | refine blk_drewN ?_ _ | refine blk_drew ?_ | refine blk_alloc ?_ _)); refine blk_far ?_ (BX.out.ne 1 0 rfl rfl (by decide)) _; (with_reducible repeat (first | refine blk_drewN ?_ _ | refine blk_drew ?_ | refine blk_alloc ?_ _)); refine blk_far ?_ (BX.out.ne 1 0 rfl rfl (by decide)) _; (with_reducible repeat (first | refine blk_drewN ?_ _ | refine blk_drew ?_ | refine blk_alloc ?_ _)); exact (BX.out.get 1 rfl)) Tryd.underlying23 rfl (by kernel_rfl)) rfl ?_
                exact ⟨by first | rfl | (simp [errW_none, errW_some] <;> rfl) | (simp [*, errW_none, errW_some] <;> rfl), by repeat (first | (with_reducible first | exact HB.out | apply below_alloc | apply pw_below_drewN | apply below_drew1 | refine below_set ?_ (Aside0.out (by assumption))) | exact HB.out)⟩

end Go.Proofs.YtlcjfabbnclalaaDoor.F
