-- Laid by program (wip/tools/gen.sh of this repo) out of the translation; Lean checks it.
import Derived.Test.YtlcjfabbnclalaaDoorF0
import Derived.Test.YtlcjfabbnclalaaDoorB0
import Derived.Test.YtlcjfabbnclalaaDoorF2
import Derived.Test.YtlcjfabbnclalaaDoorF8
import Derived.Test.YtlcjfabbnclalaaDoorF21
namespace Go.Proofs.YtlcjfabbnclalaaDoor.F
open Go.RowKit Go.Proofs.YtlcjfabbnclalaaDoorW.PrintWords Go.Proofs.YtlcjfabbnclalaaDoorW.PrintLast Go.Proofs.YtlcjfabbnclalaaDoorW.PrintMore
attribute [local go_sem] max2_int min2_int max_two min_two max_three min_three max_four min_four   -- for this text's walks alone
set_option linter.unusedVariables false
set_option linter.unusedSimpArgs false

/-! ### whittleref1_Mul: function 40 -/
def whittleref1_Mul.j0 : Nat → Bool → Int → Int → Int → Int → Option (Int × Int × Bool)
 | 0, _, _, _, _, _ => none
 | k + 1, x22, x498000, x498001, x499000, x499001 => if x22 = true then (some (0, 1, true)) else ((whittleref1_far.f x498000).bind fun t504 => ((whittleref1_far.f x499000).bind fun t505 => ((whittleref1_gcd.f k t504 (IntKind.u64.wrap (x499001))).bind fun t506 => (if t506 = 0 then (none) else ((whittleref1_gcd.f k t505 (IntKind.u64.wrap (x498001))).bind fun t507 => (if t507 = 0 then (none) else (if (IntKind.u64.wrap (Int.tdiv t505 t507)) = 0 then (none) else (if (IntKind.u64.wrap (Int.tdiv t504 t506)) > (IntKind.u64.wrap (Int.tdiv (1000000000000 : Int) (IntKind.u64.wrap (Int.tdiv t505 t507)))) then (some (0, 0, false)) else (if (IntKind.u64.wrap (Int.tdiv (IntKind.u64.wrap (x499001)) t506)) = 0 then (none) else (if (IntKind.u64.wrap (Int.tdiv (IntKind.u64.wrap (x498001)) t507)) > (IntKind.u64.wrap (Int.tdiv (1000000 : Int) (IntKind.u64.wrap (Int.tdiv (IntKind.u64.wrap (x499001)) t506)))) then (some (0, 0, false)) else ((whittleref1_made.f k ((decide (x498000 < 0)) != (decide (x499000 < 0))) (IntKind.u64.wrap ((IntKind.u64.wrap (Int.tdiv t504 t506)) * (IntKind.u64.wrap (Int.tdiv t505 t507)))) (IntKind.u64.wrap ((IntKind.u64.wrap (Int.tdiv (IntKind.u64.wrap (x498001)) t507)) * (IntKind.u64.wrap (Int.tdiv (IntKind.u64.wrap (x499001)) t506))))).bind fun bt508 => (some (bt508.1, bt508.2.1, bt508.2.2)))))))))))))
def whittleref1_Mul.f (k : Nat) (a0_0 : Int) (a0_1 : Int) (a1_0 : Int) (a1_1 : Int) : Option (Int × Int × Bool) := (whittleref1_Of.f k a0_0 a0_1).bind fun bt500 => ((whittleref1_Of.f k a1_0 a1_1).bind fun bt502 => (if bt500.1 = 0 then (whittleref1_Mul.j0 k true bt500.1 bt500.2 bt502.1 bt502.2) else (whittleref1_Mul.j0 k (bt502.1 == 0) bt500.1 bt500.2 bt502.1 bt502.2)))
theorem whittleref1_Mul.mono_l : ∀ k, (∀ y0 y1 y2 y3 y4, LeO (whittleref1_Mul.j0 k y0 y1 y2 y3 y4) (whittleref1_Mul.j0 (k + 1) y0 y1 y2 y3 y4))
 | 0 => fun _ _ _ _ _ r h => by simp [whittleref1_Mul.j0] at h
 | k + 1 => by
  have ih0 := whittleref1_Mul.mono_l k
  ·intro y0 y1 y2 y3 y4
   unfold whittleref1_Mul.j0
   repeat' first
   | (with_reducible exact ih0 _ _ _ _ _)
   | (with_reducible exact whittleref1_Of.mono _ _ _)
   | (with_reducible exact whittleref1_gcd.mono _ _ _)
   | (with_reducible exact whittleref1_made.mono _ _ _ _)
   | (with_reducible exact LeO.refl _)
   | (with_reducible exact LeO.none _)
   | (with_reducible refine LeO.ite ?_ ?_)
   | (with_reducible refine LeO.bind ?_ (fun _ => ?_))
   | exact ih0 _ _ _ _ _
   | exact whittleref1_Of.mono _ _ _
   | exact whittleref1_gcd.mono _ _ _
   | exact whittleref1_made.mono _ _ _ _
   | exact LeO.none _
   | refine LeO.ite ?_ ?_
   | refine LeO.bind ?_ (fun _ => ?_)
theorem whittleref1_Mul.mono : ∀ a0 a1 a2 a3 k, LeO (whittleref1_Mul.f k a0 a1 a2 a3) (whittleref1_Mul.f (k + 1) a0 a1 a2 a3) := by
 intro a0 a1 a2 a3 k
 have ih0 := whittleref1_Mul.mono_l k
 unfold whittleref1_Mul.f
 repeat' first
   | (with_reducible exact ih0 _ _ _ _ _)
   | (with_reducible exact whittleref1_Of.mono _ _ _)
   | (with_reducible exact whittleref1_gcd.mono _ _ _)
   | (with_reducible exact whittleref1_made.mono _ _ _ _)
   | (with_reducible exact LeO.refl _)
   | (with_reducible exact LeO.none _)
   | (with_reducible refine LeO.ite ?_ ?_)
   | (with_reducible refine LeO.bind ?_ (fun _ => ?_))
   | exact ih0 _ _ _ _ _
   | exact whittleref1_Of.mono _ _ _
   | exact whittleref1_gcd.mono _ _ _
   | exact whittleref1_made.mono _ _ _ _
   | exact LeO.none _
   | refine LeO.ite ?_ ?_
   | refine LeO.bind ?_ (fun _ => ?_)
set_option maxHeartbeats 8000000 in
set_option maxRecDepth 100000 in
theorem whittleref1_Mul.calls (k : Nat) (a0_0 : Int) (a0_1 : Int) (a1_0 : Int) (a1_1 : Int) (r1 : Int) (r2 : Int) (r3 : Bool) (w : World) (h : whittleref1_Mul.f k a0_0 a0_1 a1_0 a1_1 = some (r1, r2, r3)) :
  Calls Tryd.prog 40 #[.agg #[.int .i64 a0_0, .int .i64 a0_1], .agg #[.int .i64 a1_0, .int .i64 a1_1]] w fun e w' => e = .returned (.tuple #[.agg #[.int .i64 r1, .int .i64 r2], .bool r3]) ∧ Below w.heap.size w w' := by
 have hu23 := Tryd.underlying23
 have HB := Aside0.mk (Below.refl w.heap.size w)
 have H : ((whittleref1_Of.f k a0_0 a0_1).bind fun bt500 => ((whittleref1_Of.f k a1_0 a1_1).bind fun bt502 => (if bt500.1 = 0 then (whittleref1_Mul.j0 k true bt500.1 bt500.2 bt502.1 bt502.2) else (whittleref1_Mul.j0 k (bt502.1 == 0) bt500.1 bt500.2 bt502.1 bt502.2)))) = some (r1, r2, r3) := h
 clear h
 replace H := Option.bind_eq_some_iff.mp H
 obtain ⟨⟨t500, t501⟩, A30, H⟩ := H
 have A3 := Aside0.mk A30
 clear A30
 replace H := Option.bind_eq_some_iff.mp H
 obtain ⟨⟨t502, t503⟩, A40, H⟩ := H
 replace H : (if t500 = 0 then (whittleref1_Mul.j0 k true t500 t501 t502 t503) else (whittleref1_Mul.j0 k (t502 == 0) t500 t501 t502 t503)) = some (r1, r2, r3) := H
 have A4 := Aside0.mk A40
 clear A40
 have HC5 := Aside0.mk H
 clear H
 go_enter Tryd.func40, Tryd.ntmps40
 go_upto_region 3 with (first | ((with_reducible refine gate_dst (N := 2) rfl ?_); refine box_event ?hg (N := 2) ?hd (cs := #[.int .i64 a0_0, .int .i64 a0_1]) (t := 23) ?hr ?_; (case hd => rfl); (case hg => rfl); (case hr => first | (go_simp; done) | (go_simp; rfl)); intro gb497 hg w6 hbox hb; have n0_ := Aside0.mk (Boxes.new (b := w.heap.size) (L := []) trivial hg hbox hb (below_size (by repeat (first | (with_reducible first | exact HB.out | apply below_alloc | apply pw_below_drewN | apply below_drew1 | refine below_set ?_ (Aside0.out (by assumption))) | exact HB.out)))); have n1_ := Aside0.mk (below_step (by repeat (first | (with_reducible first | exact HB.out | apply below_alloc | apply pw_below_drewN | apply below_drew1 | refine below_set ?_ (Aside0.out (by assumption))) | exact HB.out)) hb); have n2_ := Aside0.mk ((by rw [hg]; exact (below_size (by repeat (first | (with_reducible first | exact HB.out | apply below_alloc | apply pw_below_drewN | apply below_drew1 | refine below_set ?_ (Aside0.out (by assumption))) | exact HB.out))) : w.heap.size ≤ gb497)); clear HB; have BX := n0_; have HB := n1_; have GE497 := n2_; clear n0_ n1_ n2_; clear hb hbox hg) | ((with_reducible refine gate_dst (N := 3) rfl ?_); refine box_event ?hg (N := 3) ?hd (cs := #[.int .i64 a1_0, .int .i64 a1_1]) (t := 23) ?hr ?_; (case hd => rfl); (case hg => rfl); (case hr => first | (go_simp; done) | (go_simp; rfl)); intro gb498 hg w7 hbox hb; have n0_ := Aside0.mk (Boxes.new (by (with_reducible repeat (first | apply boxes_drewN | apply boxes_drew | apply boxes_alloc)); exact BX.out) hg hbox hb (below_size (by repeat (first | (with_reducible first | exact HB.out | apply below_alloc | apply pw_below_drewN | apply below_drew1 | refine below_set ?_ (Aside0.out (by assumption))) | exact HB.out)))); have n1_ := Aside0.mk (below_step (by repeat (first | (with_reducible first | exact HB.out | apply below_alloc | apply pw_below_drewN | apply below_drew1 | refine below_set ?_ (Aside0.out (by assumption))) | exact HB.out)) hb); have n2_ := Aside0.mk ((by rw [hg]; exact (below_size (by repeat (first | (with_reducible first | exact HB.out | apply below_alloc | apply pw_below_drewN | apply below_drew1 | refine below_set ?_ (Aside0.out (by assumption))) | exact HB.out))) : w.heap.size ≤ gb498)); clear BX HB; have BX := n0_; have HB := n1_; have GE498 := n2_; clear n0_ n1_ n2_; clear hb hbox hg) | ((with_reducible refine gate_dst (N := 4) rfl ?_); refine box_event ?hg (N := 4) ?hd (cs := #[.int .i64 0, .int .i64 0]) (t := 23) ?hr ?_; (case hd => rfl); (case hg => rfl); (case hr => first | (go_simp; done) | (go_simp; rfl)); intro gb499 hg w8 hbox hb; have n0_ := Aside0.mk (Boxes.new (by (with_reducible repeat (first | apply boxes_drewN | apply boxes_drew | apply boxes_alloc)); exact BX.out) hg hbox hb (below_size (by repeat (first | (with_reducible first | exact HB.out | apply below_alloc | apply pw_below_drewN | apply below_drew1 | refine below_set ?_ (Aside0.out (by assumption))) | exact HB.out)))); have n1_ := Aside0.mk (below_step (by repeat (first | (with_reducible first | exact HB.out | apply below_alloc | apply pw_below_drewN | apply below_drew1 | refine below_set ?_ (Aside0.out (by assumption))) | exact HB.out)) hb); have n2_ := Aside0.mk ((by rw [hg]; exact (below_size (by repeat (first | (with_reducible first | exact HB.out | apply below_alloc | apply pw_below_drewN | apply below_drew1 | refine below_set ?_ (Aside0.out (by assumption))) | exact HB.out))) : w.heap.size ≤ gb499)); clear BX HB; have BX := n0_; have HB := n1_; have GE499 := n2_; clear n0_ n1_ n2_; clear hb hbox hg; obtain ⟨⟨hnb10, hnc10⟩, ⟨hnb9, hnc9⟩, -⟩ := BX.out.apart 2 rfl; have hcz11_0 : w8.cell? ⟨gb497, 0, none⟩ = some (.int .i64 a0_0) := (blk_cell (BX.out.get 2 rfl) 0).trans rfl; have hcz11_1 : w8.cell? ⟨gb497, 1, none⟩ = some (.int .i64 a0_1) := (blk_cell (BX.out.get 2 rfl) 1).trans rfl; have hfz11_0 := blk_frozen (BX.out.get 2 rfl) 0; have hfz11_1 := blk_frozen (BX.out.get 2 rfl) 1) | ((with_reducible refine gate_callee (f := 64) rfl ?_); refine goesL_ (some 12) rfl rfl Tryd.func64 (by kernel_rfl) rfl #[.agg #[.int .i64 a0_0, .int .i64 a0_1]] rfl (by (try simp only [List.map_toArray, List.map_cons, List.map_nil]); first | done | rfl | (simp only [List.length_drop, List.length_take]; rfl)) ?_; (with_reducible refine (whittleref1_Of.calls k a0_0 a0_1 t500 t501 _ A3.out).mono ?_); rintro e w12 ⟨rfl, hb⟩; refine ⟨_, rfl, ?_⟩; have n0_ := Aside0.mk (Boxes.below (by (with_reducible repeat (first | apply boxes_drewN | apply boxes_drew | apply boxes_alloc)); exact BX.out) hb); have n1_ := Aside0.mk (below_step (by repeat (first | (with_reducible first | exact HB.out | apply below_alloc | apply pw_below_drewN | apply below_drew1 | refine below_set ?_ (Aside0.out (by assumption))) | exact HB.out)) hb); clear BX HB; have BX := n0_; have HB := n1_; clear n0_ n1_; (try clear hb); (try clear hb2); (try clear hk); (try clear hi); have hcz13_0 : w12.cell? ⟨gb497, 0, none⟩ = some (.int .i64 a0_0) := (blk_cell (BX.out.get 2 rfl) 0).trans rfl; have hcz13_1 : w12.cell? ⟨gb497, 1, none⟩ = some (.int .i64 a0_1) := (blk_cell (BX.out.get 2 rfl) 1).trans rfl; have hfz13_0 := blk_frozen (BX.out.get 2 rfl) 0; have hfz13_1 := blk_frozen (BX.out.get 2 rfl) 1; obtain ⟨⟨hnc14, hnb14⟩, -⟩ := BX.out.apart 0 rfl; have hcz15_0 : w12.cell? ⟨gb498, 0, none⟩ = some (.int .i64 a1_0) := (blk_cell (BX.out.get 1 rfl) 0).trans rfl; have hcz15_1 : w12.cell? ⟨gb498, 1, none⟩ = some (.int .i64 a1_1) := (blk_cell (BX.out.get 1 rfl) 1).trans rfl; have hfz15_0 := blk_frozen (BX.out.get 1 rfl) 0; have hfz15_1 := blk_frozen (BX.out.get 1 rfl) 1) | ((with_reducible refine gate_callee (f := 64) rfl ?_); refine goesL_ (some 14) rfl rfl Tryd.func64 (by kernel_rfl) rfl #[.agg #[.int .i64 a1_0, .int .i64 a1_1]] rfl (by (try simp only [List.map_toArray, List.map_cons, List.map_nil]); first | done | rfl | (simp only [List.length_drop, List.length_take]; rfl)) ?_; (with_reducible refine (whittleref1_Of.calls k a1_0 a1_1 t502 t503 _ A4.out).mono ?_); rintro e w16 ⟨rfl, hb⟩; refine ⟨_, rfl, ?_⟩; have n0_ : Aside0 (Boxes w.heap.size _ (_ :: _ :: (gb497, 23, #[.int .i64 t500, .int .i64 t501]) :: _)) := ⟨Boxes.below (by (with_reducible repeat (first | apply boxes_drewN | apply boxes_drew | apply boxes_alloc)); apply boxes_put 2; (with_reducible repeat (first | apply boxes_drewN | apply boxes_drew | apply boxes_alloc)); apply boxes_put 2; (with_reducible repeat (first | apply boxes_drewN | apply boxes_drew | apply boxes_alloc)); exact BX.out; any_goals rfl) hb⟩; have n1_ := Aside0.mk (below_step (by repeat (first | (with_reducible first | exact HB.out | apply below_alloc | apply pw_below_drewN | apply below_drew1 | refine below_set ?_ (Aside0.out (by assumption))) | exact HB.out)) hb); clear BX HB; have BX := n0_; have HB := n1_; clear n0_ n1_; (try clear hb); (try clear hb2); (try clear hk); (try clear hi); have hcz17_0 : w16.cell? ⟨gb498, 0, none⟩ = some (.int .i64 a1_0) := (blk_cell (BX.out.get 1 rfl) 0).trans rfl; have hcz17_1 : w16.cell? ⟨gb498, 1, none⟩ = some (.int .i64 a1_1) := (blk_cell (BX.out.get 1 rfl) 1).trans rfl; have hfz17_0 := blk_frozen (BX.out.get 1 rfl) 0; have hfz17_1 := blk_frozen (BX.out.get 1 rfl) 1))
 (try simp only [Act.put, List.setIfInBounds_toArray, List.set_cons_zero, List.set_cons_succ])
 go_cut [22] (fun v22 wc => ∃ (kq : Nat) (x22_4 : Bool), v22 = .bool x22_4 ∧ Aside0 (whittleref1_Mul.j0 kq x22_4 t500 t501 t502 t503 = some (r1, r2, r3)) ∧ Aside0 (kq ≤ k) ∧ Aside0 (Boxes w.heap.size wc [(gb499, 23, #[.int .i64 0, .int .i64 0]), (gb498, 23, #[.int .i64 t502, .int .i64 t503]), (gb497, 23, #[.int .i64 t500, .int .i64 t501])]) ∧ Aside0 (Below w.heap.size w wc))
 case first =>
  have H := HC5.out
  clear HC5
  by_cases c18 : t500 = 0
  ·rw [if_pos c18] at H
   have c18b0 : (t500 == 0) = true := beq_iff_eq.mpr c18
   have c18b1 : (t500 != 0) = false := bne_eq_false_iff_eq.mpr c18
   clear c18
   (first | rw [c18b0] | (simp only [i64_w, i32_w]; rw [c18b0]) | skip)
   have H' := Aside0.mk H
   clear H
   obtain ⟨⟨hnb20, hnc20⟩, ⟨hnb19, hnc19⟩, -⟩ := BX.out.apart 2 rfl
   have hcz21_0 : w16.cell? ⟨gb497, 0, none⟩ = some (.int .i64 t500) := (blk_cell (BX.out.get 2 rfl) 0).trans rfl
   have hcz21_1 : w16.cell? ⟨gb497, 1, none⟩ = some (.int .i64 t501) := (blk_cell (BX.out.get 2 rfl) 1).trans rfl
   have hfz21_0 := blk_frozen (BX.out.get 2 rfl) 0
   have hfz21_1 := blk_frozen (BX.out.get 2 rfl) 1
   go_wp2
   go_meet
   case rel => exact ⟨_, (true), (by first | rfl | (simp; done) | (simp [*]; done) | (simp [bne_nil]; done)), H', ⟨by first | omega | exact Nat.le_refl _⟩, ⟨by (with_reducible repeat (first | apply boxes_drewN | apply boxes_drew | apply boxes_alloc)); apply boxes_put 1; (with_reducible repeat (first | apply boxes_drewN | apply boxes_drew | apply boxes_alloc)); apply boxes_put 1; (with_reducible repeat (first | apply boxes_drewN | apply boxes_drew | apply boxes_alloc)); exact BX.out; any_goals rfl⟩, ⟨by repeat (first | (with_reducible first | exact HB.out | apply below_alloc | apply pw_below_drewN | apply below_drew1 | refine below_set ?_ (Aside0.out (by assumption))) | exact HB.out)⟩⟩
  ·rw [if_neg c18] at H
   have c18b0 : (t500 == 0) = false := beq_eq_false_iff_ne.mpr c18
   have c18b1 : (t500 != 0) = true := bne_iff_ne.mpr c18
   (first | rw [c18b0] | (simp only [i64_w, i32_w]; rw [c18b0]) | skip)
   have H' := Aside0.mk H
   clear H
   obtain ⟨⟨hnb23, hnc23⟩, ⟨hnb22, hnc22⟩, -⟩ := BX.out.apart 2 rfl
   have hcz24_0 : w16.cell? ⟨gb497, 0, none⟩ = some (.int .i64 t500) := (blk_cell (BX.out.get 2 rfl) 0).trans rfl
   have hcz24_1 : w16.cell? ⟨gb497, 1, none⟩ = some (.int .i64 t501) := (blk_cell (BX.out.get 2 rfl) 1).trans rfl
   have hfz24_0 := blk_frozen (BX.out.get 2 rfl) 0
   have hfz24_1 := blk_frozen (BX.out.get 2 rfl) 1
   obtain ⟨⟨hnc25, hnb25⟩, -⟩ := BX.out.apart 0 rfl
   have hcz26_0 : w16.cell? ⟨gb498, 0, none⟩ = some (.int .i64 a1_0) := (blk_cell (BX.out.get 1 rfl) 0).trans rfl
   have hcz26_1 : w16.cell? ⟨gb498, 1, none⟩ = some (.int .i64 a1_1) := (blk_cell (BX.out.get 1 rfl) 1).trans rfl
   have hfz26_0 := blk_frozen (BX.out.get 1 rfl) 0
   have hfz26_1 := blk_frozen (BX.out.get 1 rfl) 1
   go_wp2
   go_meet
   case rel => exact ⟨_, ((t502 == 0)), (by first | rfl | (simp; done) | (simp [*]; done) | (simp [bne_nil]; done)), H', ⟨by first | omega | exact Nat.le_refl _⟩, ⟨by (with_reducible repeat (first | apply boxes_drewN | apply boxes_drew | apply boxes_alloc)); apply boxes_put 1; (with_reducible repeat (first | apply boxes_drewN | apply boxes_drew | apply boxes_alloc)); apply boxes_put 1; (with_reducible repeat (first | apply boxes_drewN | apply boxes_drew | apply boxes_alloc)); exact BX.out; any_goals rfl⟩, ⟨by repeat (first | (with_reducible first | exact HB.out | apply below_alloc | apply pw_below_drewN | apply below_drew1 | refine below_set ?_ (Aside0.out (by assumption))) | exact HB.out)⟩⟩
 case rest =>
  clear HC5
  try clear c1
  try clear c2
  try clear p2
  try clear c4
  try clear c6
  try clear c9
  try clear c10
  try clear c14
  try clear c18
  try clear c18b0
  try clear c18b1
  try clear c19
  try clear c20
  try clear c22
  try clear c23
  try clear c25
  try clear hcz11_0
  try clear hcz11_1
  try clear hcz13_0
  try clear hcz13_1
  try clear hcz15_0
  try clear hcz15_1
  try clear hcz17_0
  try clear hcz17_1
  try clear hcz21_0
  try clear hcz21_1
  try clear hcz24_0
  try clear hcz24_1
  try clear hcz26_0
  try clear hcz26_1
  try clear hfz11_0
  try clear hfz11_1
  try clear hfz13_0
  try clear hfz13_1
  try clear hfz15_0
  try clear hfz15_1
  try clear hfz17_0
  try clear hfz17_1
  try clear hfz21_0
  try clear hfz21_1
  try clear hfz24_0
  try clear hfz24_1
  try clear hfz26_0
  try clear hfz26_1
  obtain ⟨kq, x22_4, rfl, HA, HJ4, BX, HB⟩ := hcut
  cases kq with
  | zero => exact absurd HA.out (by simp [whittleref1_Mul.j0])
  | succ kj4 =>
   have H := HA.out
   clear HA
   simp only [whittleref1_Mul.j0] at H
   by_cases c27 : x22_4 = true
   ·subst c27
    have H1 : (some (0, 1, true)) = some (r1, r2, r3) := by rw [if_pos rfl] at H; exact H
    clear H
    have H := H1
    clear H1
    simp only [Option.some.injEq, Prod.mk.injEq] at H
    obtain ⟨rfl, rfl, rfl⟩ := H
    obtain ⟨⟨hnb29, hnc29⟩, ⟨hnb28, hnc28⟩, -⟩ := BX.out.apart 0 rfl
    have hcz30_0 : wc.cell? ⟨gb499, 0, none⟩ = some (.int .i64 0) := (blk_cell (BX.out.get 0 rfl) 0).trans rfl
    have hcz30_1 : wc.cell? ⟨gb499, 1, none⟩ = some (.int .i64 0) := (blk_cell (BX.out.get 0 rfl) 1).trans rfl
    have hfz30_0 := blk_frozen (BX.out.get 0 rfl) 0
    have hfz30_1 := blk_frozen (BX.out.get 0 rfl) 1
    go_wp2
    refine bodyPost_ret (results_ct rfl _ _ gb499 23 #[.int .i64 0, .int .i64 1] (0, 0) _ rfl (by (with_reducible repeat (first | refine blk_drewN ?_ _ | refine blk_drew ?_ | refine blk_alloc ?_ _)); refine blk_put (cs := #[.int .i64 0, .int .i64 0]) ?_ 1 _ rfl; (with_reducible repeat (first | refine blk_drewN ?_ _ | refine blk_drew ?_ | refine blk_alloc ?_ _)); refine blk_put (cs := #[.int .i64 0, .int .i64 0]) ?_ 0 _ rfl; (with_reducible repeat (first | refine blk_drewN ?_ _ | refine blk_drew ?_ | refine blk_alloc ?_ _)); exact (BX.out.get 0 rfl)) Tryd.underlying23 rfl (by kernel_rfl)) rfl ?_
    exact ⟨by first | rfl | (simp [errW_none, errW_some] <;> rfl) | (simp [*, errW_none, errW_some] <;> rfl), by repeat (first | (with_reducible first | exact HB.out | apply below_alloc | apply pw_below_drewN | apply below_drew1 | refine below_set ?_ (Aside0.out (by assumption))) | exact HB.out)⟩
   ·replace c27 := Bool.eq_false_iff.mpr c27
    subst c27
    have H1 : ((whittleref1_far.f t500).bind fun t504 => ((whittleref1_far.f t502).bind fun t505 => ((whittleref1_gcd.f kj4 t504 (IntKind.u64.wrap (t503))).bind fun t506 => (if t506 = 0 then (none) else ((whittleref1_gcd.f kj4 t505 (IntKind.u64.wrap (t501))).bind fun t507 => (if t507 = 0 then (none) else (if (IntKind.u64.wrap (Int.tdiv t505 t507)) = 0 then (none) else (if (IntKind.u64.wrap (Int.tdiv t504 t506)) > (IntKind.u64.wrap (Int.tdiv (1000000000000 : Int) (IntKind.u64.wrap (Int.tdiv t505 t507)))) then (some (0, 0, false)) else (if (IntKind.u64.wrap (Int.tdiv (IntKind.u64.wrap (t503)) t506)) = 0 then (none) else (if (IntKind.u64.wrap (Int.tdiv (IntKind.u64.wrap (t501)) t507)) > (IntKind.u64.wrap (Int.tdiv (1000000 : Int) (IntKind.u64.wrap (Int.tdiv (IntKind.u64.wrap (t503)) t506)))) then (some (0, 0, false)) else ((whittleref1_made.f kj4 ((decide (t500 < 0)) != (decide (t502 < 0))) (IntKind.u64.wrap ((IntKind.u64.wrap (Int.tdiv t504 t506)) * (IntKind.u64.wrap (Int.tdiv t505 t507)))) (IntKind.u64.wrap ((IntKind.u64.wrap (Int.tdiv (IntKind.u64.wrap (t501)) t507)) * (IntKind.u64.wrap (Int.tdiv (IntKind.u64.wrap (t503)) t506))))).bind fun bt508 => (some (bt508.1, bt508.2.1, bt508.2.2))))))))))))) = some (r1, r2, r3) := by rw [if_neg (show ¬ (false = true) by decide)] at H; exact H
    clear H
    have H := H1
    clear H1
    replace H := Option.bind_eq_some_iff.mp H
    obtain ⟨t504, A310, H⟩ := H
    have A31 := Aside0.mk A310
    clear A310
    replace H := Option.bind_eq_some_iff.mp H
    obtain ⟨t505, A320, H⟩ := H
    have A32 := Aside0.mk A320
    clear A320
    replace H := Option.bind_eq_some_iff.mp H
    obtain ⟨t506, A330, H⟩ := H
    replace H : (if t506 = 0 then (none) else ((whittleref1_gcd.f kj4 t505 (IntKind.u64.wrap (t501))).bind fun t507 => (if t507 = 0 then (none) else (if (IntKind.u64.wrap (Int.tdiv t505 t507)) = 0 then (none) else (if (IntKind.u64.wrap (Int.tdiv t504 t506)) > (IntKind.u64.wrap (Int.tdiv (1000000000000 : Int) (IntKind.u64.wrap (Int.tdiv t505 t507)))) then (some (0, 0, false)) else (if (IntKind.u64.wrap (Int.tdiv (IntKind.u64.wrap (t503)) t506)) = 0 then (none) else (if (IntKind.u64.wrap (Int.tdiv (IntKind.u64.wrap (t501)) t507)) > (IntKind.u64.wrap (Int.tdiv (1000000 : Int) (IntKind.u64.wrap (Int.tdiv (IntKind.u64.wrap (t503)) t506)))) then (some (0, 0, false)) else ((whittleref1_made.f kj4 ((decide (t500 < 0)) != (decide (t502 < 0))) (IntKind.u64.wrap ((IntKind.u64.wrap (Int.tdiv t504 t506)) * (IntKind.u64.wrap (Int.tdiv t505 t507)))) (IntKind.u64.wrap ((IntKind.u64.wrap (Int.tdiv (IntKind.u64.wrap (t501)) t507)) * (IntKind.u64.wrap (Int.tdiv (IntKind.u64.wrap (t503)) t506))))).bind fun bt508 => (some (bt508.1, bt508.2.1, bt508.2.2)))))))))) = some (r1, r2, r3) := H
    have A33 := Aside0.mk A330
    clear A330
    by_cases c34 : t506 = 0
    ·rw [if_pos c34] at H
     exact absurd H (by simp)
    ·rw [if_neg c34] at H
     have c34b0 : (t506 == 0) = false := beq_eq_false_iff_ne.mpr c34
     have c34b1 : (t506 != 0) = true := bne_iff_ne.mpr c34
     replace H := Option.bind_eq_some_iff.mp H
     obtain ⟨t507, A350, H⟩ := H
     replace H : (if t507 = 0 then (none) else (if (IntKind.u64.wrap (Int.tdiv t505 t507)) = 0 then (none) else (if (IntKind.u64.wrap (Int.tdiv t504 t506)) > (IntKind.u64.wrap (Int.tdiv (1000000000000 : Int) (IntKind.u64.wrap (Int.tdiv t505 t507)))) then (some (0, 0, false)) else (if (IntKind.u64.wrap (Int.tdiv (IntKind.u64.wrap (t503)) t506)) = 0 then (none) else (if (IntKind.u64.wrap (Int.tdiv (IntKind.u64.wrap (t501)) t507)) > (IntKind.u64.wrap (Int.tdiv (1000000 : Int) (IntKind.u64.wrap (Int.tdiv (IntKind.u64.wrap (t503)) t506)))) then (some (0, 0, false)) else ((whittleref1_made.f kj4 ((decide (t500 < 0)) != (decide (t502 < 0))) (IntKind.u64.wrap ((IntKind.u64.wrap (Int.tdiv t504 t506)) * (IntKind.u64.wrap (Int.tdiv t505 t507)))) (IntKind.u64.wrap ((IntKind.u64.wrap (Int.tdiv (IntKind.u64.wrap (t501)) t507)) * (IntKind.u64.wrap (Int.tdiv (IntKind.u64.wrap (t503)) t506))))).bind fun bt508 => (some (bt508.1, bt508.2.1, bt508.2.2)))))))) = some (r1, r2, r3) := H
     have A35 := Aside0.mk A350
     clear A350
     by_cases c36 : t507 = 0
     ·rw [if_pos c36] at H
      exact absurd H (by simp)
     ·rw [if_neg c36] at H
      have c36b0 : (t507 == 0) = false := beq_eq_false_iff_ne.mpr c36
      have c36b1 : (t507 != 0) = true := bne_iff_ne.mpr c36
      by_cases c37 : (IntKind.u64.wrap (Int.tdiv t505 t507)) = 0
      ·rw [if_pos c37] at H
       exact absurd H (by simp)
      ·rw [if_neg c37] at H
       have c37b0 : ((IntKind.u64.wrap (Int.tdiv t505 t507)) == 0) = false := beq_eq_false_iff_ne.mpr c37
       have c37b1 : ((IntKind.u64.wrap (Int.tdiv t505 t507)) != 0) = true := bne_iff_ne.mpr c37
       by_cases c38 : (IntKind.u64.wrap (Int.tdiv t504 t506)) > (IntKind.u64.wrap (Int.tdiv (1000000000000 : Int) (IntKind.u64.wrap (Int.tdiv t505 t507))))
       ·rw [if_pos c38] at H
        have c38b0 : decide ((IntKind.u64.wrap (Int.tdiv (1000000000000 : Int) (IntKind.u64.wrap (Int.tdiv t505 t507)))) < (IntKind.u64.wrap (Int.tdiv t504 t506))) = true := decide_eq_true c38
        clear c38
        simp only [Option.some.injEq, Prod.mk.injEq] at H
        obtain ⟨rfl, rfl, rfl⟩ := H
        obtain ⟨⟨hnb40, hnc40⟩, ⟨hnb39, hnc39⟩, -⟩ := BX.out.apart 2 rfl
        have hcz41_0 : wc.cell? ⟨gb497, 0, none⟩ = some (.int .i64 t500) := (blk_cell (BX.out.get 2 rfl) 0).trans rfl
        have hcz41_1 : wc.cell? ⟨gb497, 1, none⟩ = some (.int .i64 t501) := (blk_cell (BX.out.get 2 rfl) 1).trans rfl
        have hfz41_0 := blk_frozen (BX.out.get 2 rfl) 0
        have hfz41_1 := blk_frozen (BX.out.get 2 rfl) 1
        go_wp2_with (first | ((with_reducible refine gate_callee (f := 61) rfl ?_); refine goesL_ (some 26) rfl rfl Tryd.func61 (by kernel_rfl) rfl #[.int .i64 t500] rfl (by (try simp only [List.map_toArray, List.map_cons, List.map_nil]); first | done | rfl | (simp only [List.length_drop, List.length_take]; rfl)) ?_; (with_reducible refine (whittleref1_far.calls t500 t504 _ A31.out).mono ?_); rintro e w' ⟨rfl, ⟨nd, rfl⟩⟩; refine ⟨_, rfl, ?_⟩; (try (rw [drewN_self wc]; generalize hq_ : World.drewN wc _ = wc; have n0_ : Aside0 (Boxes w.heap.size wc [(gb499, 23, #[.int .i64 0, .int .i64 0]), (gb498, 23, #[.int .i64 t502, .int .i64 t503]), (gb497, 23, #[.int .i64 t500, .int .i64 t501])]) := ⟨by rw [← hq_]; exact (by (with_reducible repeat (first | apply boxes_drewN | apply boxes_drew | apply boxes_alloc)); exact BX.out)⟩; have n1_ : Aside0 (Below w.heap.size w wc) := ⟨by rw [← hq_]; exact (by repeat (first | (with_reducible first | exact HB.out | apply below_alloc | apply pw_below_drewN | apply below_drew1 | refine below_set ?_ (Aside0.out (by assumption))) | exact HB.out))⟩; clear BX HB hq_; have BX := n0_; have HB := n1_; clear n0_ n1_)); (try (have hcz42_0 : wc.cell? ⟨gb497, 0, none⟩ = some (.int .i64 t500) := (blk_cell (BX.out.get 2 rfl) 0).trans rfl)); (try (have hfz42_0 := blk_frozen (BX.out.get 2 rfl) 0)); (try (have hcz42_1 : wc.cell? ⟨gb497, 1, none⟩ = some (.int .i64 t501) := (blk_cell (BX.out.get 2 rfl) 1).trans rfl)); (try (have hfz42_1 := blk_frozen (BX.out.get 2 rfl) 1)); (try (have hcz43_0 : wc.cell? ⟨gb498, 0, none⟩ = some (.int .i64 t502) := (blk_cell (BX.out.get 1 rfl) 0).trans rfl)); (try (have hfz43_0 := blk_frozen (BX.out.get 1 rfl) 0)); (try (have hcz43_1 : wc.cell? ⟨gb498, 1, none⟩ = some (.int .i64 t503) := (blk_cell (BX.out.get 1 rfl) 1).trans rfl)); (try (have hfz43_1 := blk_frozen (BX.out.get 1 rfl) 1)); (try (have hcz44_0 : wc.cell? ⟨gb499, 0, none⟩ = some (.int .i64 0) := (blk_cell (BX.out.get 0 rfl) 0).trans rfl)); (try (have hfz44_0 := blk_frozen (BX.out.get 0 rfl) 0)); (try (have hcz44_1 : wc.cell? ⟨gb499, 1, none⟩ = some (.int .i64 0) := (blk_cell (BX.out.get 0 rfl) 1).trans rfl)); (try (have hfz44_1 := blk_frozen (BX.out.get 0 rfl) 1)); obtain ⟨⟨hnc45, hnb45⟩, -⟩ := BX.out.apart 0 rfl; have hcz46_0 : wc.cell? ⟨gb498, 0, none⟩ = some (.int .i64 t502) := (blk_cell (BX.out.get 1 rfl) 0).trans rfl; have hcz46_1 : wc.cell? ⟨gb498, 1, none⟩ = some (.int .i64 t503) := (blk_cell (BX.out.get 1 rfl) 1).trans rfl; have hfz46_0 := blk_frozen (BX.out.get 1 rfl) 0; have hfz46_1 := blk_frozen (BX.out.get 1 rfl) 1) | ((with_reducible refine gate_callee (f := 61) rfl ?_); refine goesL_ (some 29) rfl rfl Tryd.func61 (by kernel_rfl) rfl #[.int .i64 t502] rfl (by (try simp only [List.map_toArray, List.map_cons, List.map_nil]); first | done | rfl | (simp only [List.length_drop, List.length_take]; rfl)) ?_; (with_reducible refine (whittleref1_far.calls t502 t505 _ A32.out).mono ?_); rintro e w' ⟨rfl, ⟨nd, rfl⟩⟩; refine ⟨_, rfl, ?_⟩; (try (rw [drewN_self wc]; generalize hq_ : World.drewN wc _ = wc; have n0_ : Aside0 (Boxes w.heap.size wc [(gb499, 23, #[.int .i64 0, .int .i64 0]), (gb498, 23, #[.int .i64 t502, .int .i64 t503]), (gb497, 23, #[.int .i64 t500, .int .i64 t501])]) := ⟨by rw [← hq_]; exact (by (with_reducible repeat (first | apply boxes_drewN | apply boxes_drew | apply boxes_alloc)); exact BX.out)⟩; have n1_ : Aside0 (Below w.heap.size w wc) := ⟨by rw [← hq_]; exact (by repeat (first | (with_reducible first | exact HB.out | apply below_alloc | apply pw_below_drewN | apply below_drew1 | refine below_set ?_ (Aside0.out (by assumption))) | exact HB.out))⟩; clear BX HB hq_; have BX := n0_; have HB := n1_; clear n0_ n1_)); (try (have hcz47_0 : wc.cell? ⟨gb497, 0, none⟩ = some (.int .i64 t500) := (blk_cell (BX.out.get 2 rfl) 0).trans rfl)); (try (have hfz47_0 := blk_frozen (BX.out.get 2 rfl) 0)); (try (have hcz47_1 : wc.cell? ⟨gb497, 1, none⟩ = some (.int .i64 t501) := (blk_cell (BX.out.get 2 rfl) 1).trans rfl)); (try (have hfz47_1 := blk_frozen (BX.out.get 2 rfl) 1)); (try (have hcz48_0 : wc.cell? ⟨gb498, 0, none⟩ = some (.int .i64 t502) := (blk_cell (BX.out.get 1 rfl) 0).trans rfl)); (try (have hfz48_0 := blk_frozen (BX.out.get 1 rfl) 0)); (try (have hcz48_1 : wc.cell? ⟨gb498, 1, none⟩ = some (.int .i64 t503) := (blk_cell (BX.out.get 1 rfl) 1).trans rfl)); (try (have hfz48_1 := blk_frozen (BX.out.get 1 rfl) 1)); (try (have hcz49_0 : wc.cell? ⟨gb499, 0, none⟩ = some (.int .i64 0) := (blk_cell (BX.out.get 0 rfl) 0).trans rfl)); (try (have hfz49_0 := blk_frozen (BX.out.get 0 rfl) 0)); (try (have hcz49_1 : wc.cell? ⟨gb499, 1, none⟩ = some (.int .i64 0) := (blk_cell (BX.out.get 0 rfl) 1).trans rfl)); (try (have hfz49_1 := blk_frozen (BX.out.get 0 rfl) 1))) | ((with_reducible refine gate_callee (f := 62) rfl ?_); refine goesL_ (some 38) rfl rfl Tryd.func62 (by kernel_rfl) rfl #[.int .u64 t504, .int .u64 (IntKind.u64.wrap (t503))] rfl (by (try simp only [List.map_toArray, List.map_cons, List.map_nil]); first | done | rfl | (simp only [List.length_drop, List.length_take]; rfl)) ?_; (with_reducible refine (whittleref1_gcd.calls kj4 t504 (IntKind.u64.wrap (t503)) t506 _ A33.out).mono ?_); rintro e w' ⟨rfl, ⟨nd, rfl⟩⟩; refine ⟨_, rfl, ?_⟩; (try (rw [drewN_self wc]; generalize hq_ : World.drewN wc _ = wc; have n0_ : Aside0 (Boxes w.heap.size wc [(gb499, 23, #[.int .i64 0, .int .i64 0]), (gb498, 23, #[.int .i64 t502, .int .i64 t503]), (gb497, 23, #[.int .i64 t500, .int .i64 t501])]) := ⟨by rw [← hq_]; exact (by (with_reducible repeat (first | apply boxes_drewN | apply boxes_drew | apply boxes_alloc)); exact BX.out)⟩; have n1_ : Aside0 (Below w.heap.size w wc) := ⟨by rw [← hq_]; exact (by repeat (first | (with_reducible first | exact HB.out | apply below_alloc | apply pw_below_drewN | apply below_drew1 | refine below_set ?_ (Aside0.out (by assumption))) | exact HB.out))⟩; clear BX HB hq_; have BX := n0_; have HB := n1_; clear n0_ n1_)); (try (have hcz50_0 : wc.cell? ⟨gb497, 0, none⟩ = some (.int .i64 t500) := (blk_cell (BX.out.get 2 rfl) 0).trans rfl)); (try (have hfz50_0 := blk_frozen (BX.out.get 2 rfl) 0)); (try (have hcz50_1 : wc.cell? ⟨gb497, 1, none⟩ = some (.int .i64 t501) := (blk_cell (BX.out.get 2 rfl) 1).trans rfl)); (try (have hfz50_1 := blk_frozen (BX.out.get 2 rfl) 1)); (try (have hcz51_0 : wc.cell? ⟨gb498, 0, none⟩ = some (.int .i64 t502) := (blk_cell (BX.out.get 1 rfl) 0).trans rfl)); (try (have hfz51_0 := blk_frozen (BX.out.get 1 rfl) 0)); (try (have hcz51_1 : wc.cell? ⟨gb498, 1, none⟩ = some (.int .i64 t503) := (blk_cell (BX.out.get 1 rfl) 1).trans rfl)); (try (have hfz51_1 := blk_frozen (BX.out.get 1 rfl) 1)); (try (have hcz52_0 : wc.cell? ⟨gb499, 0, none⟩ = some (.int .i64 0) := (blk_cell (BX.out.get 0 rfl) 0).trans rfl)); (try (have hfz52_0 := blk_frozen (BX.out.get 0 rfl) 0)); (try (have hcz52_1 : wc.cell? ⟨gb499, 1, none⟩ = some (.int .i64 0) := (blk_cell (BX.out.get 0 rfl) 1).trans rfl)); (try (have hfz52_1 := blk_frozen (BX.out.get 0 rfl) 1))) | ((with_reducible refine gate_callee (f := 62) rfl ?_); refine goesL_ (some 47) rfl rfl Tryd.func62 (by kernel_rfl) rfl #[.int .u64 t505, .int .u64 (IntKind.u64.wrap (t501))] rfl (by (try simp only [List.map_toArray, List.map_cons, List.map_nil]); first | done | rfl | (simp only [List.length_drop, List.length_take]; rfl)) ?_; (with_reducible refine (whittleref1_gcd.calls kj4 t505 (IntKind.u64.wrap (t501)) t507 _ A35.out).mono ?_); rintro e w' ⟨rfl, ⟨nd, rfl⟩⟩; refine ⟨_, rfl, ?_⟩; (try (rw [drewN_self wc]; generalize hq_ : World.drewN wc _ = wc; have n0_ : Aside0 (Boxes w.heap.size wc [(gb499, 23, #[.int .i64 0, .int .i64 0]), (gb498, 23, #[.int .i64 t502, .int .i64 t503]), (gb497, 23, #[.int .i64 t500, .int .i64 t501])]) := ⟨by rw [← hq_]; exact (by (with_reducible repeat (first | apply boxes_drewN | apply boxes_drew | apply boxes_alloc)); exact BX.out)⟩; have n1_ : Aside0 (Below w.heap.size w wc) := ⟨by rw [← hq_]; exact (by repeat (first | (with_reducible first | exact HB.out | apply below_alloc | apply pw_below_drewN | apply below_drew1 | refine below_set ?_ (Aside0.out (by assumption))) | exact HB.out))⟩; clear BX HB hq_; have BX := n0_; have HB := n1_; clear n0_ n1_)); (try (have hcz53_0 : wc.cell? ⟨gb497, 0, none⟩ = some (.int .i64 t500) := (blk_cell (BX.out.get 2 rfl) 0).trans rfl)); (try (have hfz53_0 := blk_frozen (BX.out.get 2 rfl) 0)); (try (have hcz53_1 : wc.cell? ⟨gb497, 1, none⟩ = some (.int .i64 t501) := (blk_cell (BX.out.get 2 rfl) 1).trans rfl)); (try (have hfz53_1 := blk_frozen (BX.out.get 2 rfl) 1)); (try (have hcz54_0 : wc.cell? ⟨gb498, 0, none⟩ = some (.int .i64 t502) := (blk_cell (BX.out.get 1 rfl) 0).trans rfl)); (try (have hfz54_0 := blk_frozen (BX.out.get 1 rfl) 0)); (try (have hcz54_1 : wc.cell? ⟨gb498, 1, none⟩ = some (.int .i64 t503) := (blk_cell (BX.out.get 1 rfl) 1).trans rfl)); (try (have hfz54_1 := blk_frozen (BX.out.get 1 rfl) 1)); (try (have hcz55_0 : wc.cell? ⟨gb499, 0, none⟩ = some (.int .i64 0) := (blk_cell (BX.out.get 0 rfl) 0).trans rfl)); (try (have hfz55_0 := blk_frozen (BX.out.get 0 rfl) 0)); (try (have hcz55_1 : wc.cell? ⟨gb499, 1, none⟩ = some (.int .i64 0) := (blk_cell (BX.out.get 0 rfl) 1).trans rfl)); (try (have hfz55_1 := blk_frozen (BX.out.get 0 rfl) 1)); have hcz56_0 : wc.cell? ⟨gb499, 0, none⟩ = some (.int .i64 0) := (blk_cell (BX.out.get 0 rfl) 0).trans rfl; have hcz56_1 : wc.cell? ⟨gb499, 1, none⟩ = some (.int .i64 0) := (blk_cell (BX.out.get 0 rfl) 1).trans rfl; have hfz56_0 := blk_frozen (BX.out.get 0 rfl) 0; have hfz56_1 := blk_frozen (BX.out.get 0 rfl) 1))
        refine bodyPost_ret (results_ct rfl _ _ gb499 23 #[.int .i64 0, .int .i64 0] (0, 0) _ rfl (by (with_reducible repeat (first | refine blk_drewN ?_ _ | refine blk_drew ?_ | refine blk_alloc ?_ _)); refine blk_put (cs := #[.int .i64 0, .int .i64 0]) ?_ 1 _ rfl; (with_reducible repeat (first | refine blk_drewN ?_ _ | refine blk_drew ?_ | refine blk_alloc ?_ _)); refine blk_put (cs := #[.int .i64 0, .int .i64 0]) ?_ 0 _ rfl; (with_reducible repeat (first | refine blk_drewN ?_ _ | refine blk_drew ?_ | refine blk_alloc ?_ _)); exact (BX.out.get 0 rfl)) Tryd.underlying23 rfl (by kernel_rfl)) rfl ?_
        exact ⟨by first | rfl | (simp [errW_none, errW_some] <;> rfl) | (simp [*, errW_none, errW_some] <;> rfl), by repeat (first | (with_reducible first | exact HB.out | apply below_alloc | apply pw_below_drewN | apply below_drew1 | refine below_set ?_ (Aside0.out (by assumption))) | exact HB.out)⟩
       ·rw [if_neg c38] at H
        have c38b0 : decide ((IntKind.u64.wrap (Int.tdiv (1000000000000 : Int) (IntKind.u64.wrap (Int.tdiv t505 t507)))) < (IntKind.u64.wrap (Int.tdiv t504 t506))) = false := decide_eq_false c38
        clear c38
        by_cases c57 : (IntKind.u64.wrap (Int.tdiv (IntKind.u64.wrap (t503)) t506)) = 0
        ·rw [if_pos c57] at H
         exact absurd H (by simp)
        ·rw [if_neg c57] at H
         have c57b0 : ((IntKind.u64.wrap (Int.tdiv (IntKind.u64.wrap (t503)) t506)) == 0) = false := beq_eq_false_iff_ne.mpr c57
         have c57b1 : ((IntKind.u64.wrap (Int.tdiv (IntKind.u64.wrap (t503)) t506)) != 0) = true := bne_iff_ne.mpr c57
         by_cases c58 : (IntKind.u64.wrap (Int.tdiv (IntKind.u64.wrap (t501)) t507)) > (IntKind.u64.wrap (Int.tdiv (1000000 : Int) (IntKind.u64.wrap (Int.tdiv (IntKind.u64.wrap (t503)) t506))))
         ·rw [if_pos c58] at H
          have c58b0 : decide ((IntKind.u64.wrap (Int.tdiv (1000000 : Int) (IntKind.u64.wrap (Int.tdiv (IntKind.u64.wrap (t503)) t506)))) < (IntKind.u64.wrap (Int.tdiv (IntKind.u64.wrap (t501)) t507))) = true := decide_eq_true c58
          clear c58
          simp only [Option.some.injEq, Prod.mk.injEq] at H
          obtain ⟨rfl, rfl, rfl⟩ := H
          obtain ⟨⟨hnb60, hnc60⟩, ⟨hnb59, hnc59⟩, -⟩ := BX.out.apart 2 rfl
          have hcz61_0 : wc.cell? ⟨gb497, 0, none⟩ = some (.int .i64 t500) := (blk_cell (BX.out.get 2 rfl) 0).trans rfl
          have hcz61_1 : wc.cell? ⟨gb497, 1, none⟩ = some (.int .i64 t501) := (blk_cell (BX.out.get 2 rfl) 1).trans rfl
          have hfz61_0 := blk_frozen (BX.out.get 2 rfl) 0
          have hfz61_1 := blk_frozen (BX.out.get 2 rfl) 1
          go_wp2_with (first | ((with_reducible refine gate_callee (f := 61) rfl ?_); refine goesL_ (some 26) rfl rfl Tryd.func61 (by kernel_rfl) rfl #[.int .i64 t500] rfl (by (try simp only [List.map_toArray, List.map_cons, List.map_nil]); first | done | rfl | (simp only [List.length_drop, List.length_take]; rfl)) ?_; (with_reducible refine (whittleref1_far.calls t500 t504 _ A31.out).mono ?_); rintro e w' ⟨rfl, ⟨nd, rfl⟩⟩; refine ⟨_, rfl, ?_⟩; (try (rw [drewN_self wc]; generalize hq_ : World.drewN wc _ = wc; have n0_ : Aside0 (Boxes w.heap.size wc [(gb499, 23, #[.int .i64 0, .int .i64 0]), (gb498, 23, #[.int .i64 t502, .int .i64 t503]), (gb497, 23, #[.int .i64 t500, .int .i64 t501])]) := ⟨by rw [← hq_]; exact (by (with_reducible repeat (first | apply boxes_drewN | apply boxes_drew | apply boxes_alloc)); exact BX.out)⟩; have n1_ : Aside0 (Below w.heap.size w wc) := ⟨by rw [← hq_]; exact (by repeat (first | (with_reducible first | exact HB.out | apply below_alloc | apply pw_below_drewN | apply below_drew1 | refine below_set ?_ (Aside0.out (by assumption))) | exact HB.out))⟩; clear BX HB hq_; have BX := n0_; have HB := n1_; clear n0_ n1_)); (try (have hcz62_0 : wc.cell? ⟨gb497, 0, none⟩ = some (.int .i64 t500) := (blk_cell (BX.out.get 2 rfl) 0).trans rfl)); (try (have hfz62_0 := blk_frozen (BX.out.get 2 rfl) 0)); (try (have hcz62_1 : wc.cell? ⟨gb497, 1, none⟩ = some (.int .i64 t501) := (blk_cell (BX.out.get 2 rfl) 1).trans rfl)); (try (have hfz62_1 := blk_frozen (BX.out.get 2 rfl) 1)); (try (have hcz63_0 : wc.cell? ⟨gb498, 0, none⟩ = some (.int .i64 t502) := (blk_cell (BX.out.get 1 rfl) 0).trans rfl)); (try (have hfz63_0 := blk_frozen (BX.out.get 1 rfl) 0)); (try (have hcz63_1 : wc.cell? ⟨gb498, 1, none⟩ = some (.int .i64 t503) := (blk_cell (BX.out.get 1 rfl) 1).trans rfl)); (try (have hfz63_1 := blk_frozen (BX.out.get 1 rfl) 1)); (try (have hcz64_0 : wc.cell? ⟨gb499, 0, none⟩ = some (.int .i64 0) := (blk_cell (BX.out.get 0 rfl) 0).trans rfl)); (try (have hfz64_0 := blk_frozen (BX.out.get 0 rfl) 0)); (try (have hcz64_1 : wc.cell? ⟨gb499, 1, none⟩ = some (.int .i64 0) := (blk_cell (BX.out.get 0 rfl) 1).trans rfl)); (try (have hfz64_1 := blk_frozen (BX.out.get 0 rfl) 1)); obtain ⟨⟨hnc65, hnb65⟩, -⟩ := BX.out.apart 0 rfl; have hcz66_0 : wc.cell? ⟨gb498, 0, none⟩ = some (.int .i64 t502) := (blk_cell (BX.out.get 1 rfl) 0).trans rfl; have hcz66_1 : wc.cell? ⟨gb498, 1, none⟩ = some (.int .i64 t503) := (blk_cell (BX.out.get 1 rfl) 1).trans rfl; have hfz66_0 := blk_frozen (BX.out.get 1 rfl) 0; have hfz66_1 := blk_frozen (BX.out.get 1 rfl) 1) | ((with_reducible refine gate_callee (f := 61) rfl ?_); refine goesL_ (some 29) rfl rfl Tryd.func61 (by kernel_rfl) rfl #[.int .i64 t502] rfl (by (try simp only [List.map_toArray, List.map_cons, List.map_nil]); first | done | rfl | (simp only [List.length_drop, List.length_take]; rfl)) ?_; (with_reducible refine (whittleref1_far.calls t502 t505 _ A32.out).mono ?_); rintro e w' ⟨rfl, ⟨nd, rfl⟩⟩; refine ⟨_, rfl, ?_⟩; (try (rw [drewN_self wc]; generalize hq_ : World.drewN wc _ = wc; have n0_ : Aside0 (Boxes w.heap.size wc [(gb499, 23, #[.int .i64 0, .int .i64 0]), (gb498, 23, #[.int .i64 t502, .int .i64 t503]), (gb497, 23, #[.int .i64 t500, .int .i64 t501])]) := ⟨by rw [← hq_]; exact (by (with_reducible repeat (first | apply boxes_drewN | apply boxes_drew | apply boxes_alloc)); exact BX.out)⟩; have n1_ : Aside0 (Below w.heap.size w wc) := ⟨by rw [← hq_]; exact (by repeat (first | (with_reducible first | exact HB.out | apply below_alloc | apply pw_below_drewN | apply below_drew1 | refine below_set ?_ (Aside0.out (by assumption))) | exact HB.out))⟩; clear BX HB hq_; have BX := n0_; have HB := n1_; clear n0_ n1_)); (try (have hcz67_0 : wc.cell? ⟨gb497, 0, none⟩ = some (.int .i64 t500) := (blk_cell (BX.out.get 2 rfl) 0).trans rfl)); (try (have hfz67_0 := blk_frozen (BX.out.get 2 rfl) 0)); (try (have hcz67_1 : wc.cell? ⟨gb497, 1, none⟩ = some (.int .i64 t501) := (blk_cell (BX.out.get 2 rfl) 1).trans rfl)); (try (have hfz67_1 := blk_frozen (BX.out.get 2 rfl) 1)); (try (have hcz68_0 : wc.cell? ⟨gb498, 0, none⟩ = some (.int .i64 t502) := (blk_cell (BX.out.get 1 rfl) 0).trans rfl)); (try (have hfz68_0 := blk_frozen (BX.out.get 1 rfl) 0)); (try (have hcz68_1 : wc.cell? ⟨gb498, 1, none⟩ = some (.int .i64 t503) := (blk_cell (BX.out.get 1 rfl) 1).trans rfl)); (try (have hfz68_1 := blk_frozen (BX.out.get 1 rfl) 1)); (try (have hcz69_0 : wc.cell? ⟨gb499, 0, none⟩ = some (.int .i64 0) := (blk_cell (BX.out.get 0 rfl) 0).trans rfl)); (try (have hfz69_0 := blk_frozen (BX.out.get 0 rfl) 0)); (try (have hcz69_1 : wc.cell? ⟨gb499, 1, none⟩ = some (.int .i64 0) := (blk_cell (BX.out.get 0 rfl) 1).trans rfl)); (try (have hfz69_1 := blk_frozen (BX.out.get 0 rfl) 1))) | ((with_reducible refine gate_callee (f := 62) rfl ?_); refine goesL_ (some 38) rfl rfl Tryd.func62 (by kernel_rfl) rfl #[.int .u64 t504, .int .u64 (IntKind.u64.wrap (t503))] rfl (by (try simp only [List.map_toArray, List.map_cons, List.map_nil]); first | done | rfl | (simp only [List.length_drop, List.length_take]; rfl)) ?_; (with_reducible refine (whittleref1_gcd.calls kj4 t504 (IntKind.u64.wrap (t503)) t506 _ A33.out).mono ?_); rintro e w' ⟨rfl, ⟨nd, rfl⟩⟩; refine ⟨_, rfl, ?_⟩; (try (rw [drewN_self wc]; generalize hq_ : World.drewN wc _ = wc; have n0_ : Aside0 (Boxes w.heap.size wc [(gb499, 23, #[.int .i64 0, .int .i64 0]), (gb498, 23, #[.int .i64 t502, .int .i64 t503]), (gb497, 23, #[.int .i64 t500, .int .i64 t501])]) := ⟨by rw [← hq_]; exact (by (with_reducible repeat (first | apply boxes_drewN | apply boxes_drew | apply boxes_alloc)); exact BX.out)⟩; have n1_ : Aside0 (Below w.heap.size w wc) := ⟨by rw [← hq_]; exact (by repeat (first | (with_reducible first | exact HB.out | apply below_alloc | apply pw_below_drewN | apply below_drew1 | refine below_set ?_ (Aside0.out (by assumption))) | exact HB.out))⟩; clear BX HB hq_; have BX := n0_; have HB := n1_; clear n0_ n1_)); (try (have hcz70_0 : wc.cell? ⟨gb497, 0, none⟩ = some (.int .i64 t500) := (blk_cell (BX.out.get 2 rfl) 0).trans rfl)); (try (have hfz70_0 := blk_frozen (BX.out.get 2 rfl) 0)); (try (have hcz70_1 : wc.cell? ⟨gb497, 1, none⟩ = some (.int .i64 t501) := (blk_cell (BX.out.get 2 rfl) 1).trans rfl)); (try (have hfz70_1 := blk_frozen (BX.out.get 2 rfl) 1)); (try (have hcz71_0 : wc.cell? ⟨gb498, 0, none⟩ = some (.int .i64 t502) := (blk_cell (BX.out.get 1 rfl) 0).trans rfl)); (try (have hfz71_0 := blk_frozen (BX.out.get 1 rfl) 0)); (try (have hcz71_1 : wc.cell? ⟨gb498, 1, none⟩ = some (.int .i64 t503) := (blk_cell (BX.out.get 1 rfl) 1).trans rfl)); (try (have hfz71_1 := blk_frozen (BX.out.get 1 rfl) 1)); (try (have hcz72_0 : wc.cell? ⟨gb499, 0, none⟩ = some (.int .i64 0) := (blk_cell (BX.out.get 0 rfl) 0).trans rfl)); (try (have hfz72_0 := blk_frozen (BX.out.get 0 rfl) 0)); (try (have hcz72_1 : wc.cell? ⟨gb499, 1, none⟩ = some (.int .i64 0) := (blk_cell (BX.out.get 0 rfl) 1).trans rfl)); (try (have hfz72_1 := blk_frozen (BX.out.get 0 rfl) 1))) | ((with_reducible refine gate_callee (f := 62) rfl ?_); refine goesL_ (some 47) rfl rfl Tryd.func62 (by kernel_rfl) rfl #[.int .u64 t505, .int .u64 (IntKind.u64.wrap (t501))] rfl (by (try simp only [List.map_toArray, List.map_cons, List.map_nil]); first | done | rfl | (simp only [List.length_drop, List.length_take]; rfl)) ?_; (with_reducible refine (whittleref1_gcd.calls kj4 t505 (IntKind.u64.wrap (t501)) t507 _ A35.out).mono ?_); rintro e w' ⟨rfl, ⟨nd, rfl⟩⟩; refine ⟨_, rfl, ?_⟩; (try (rw [drewN_self wc]; generalize hq_ : World.drewN wc _ = wc; have n0_ : Aside0 (Boxes w.heap.size wc [(gb499, 23, #[.int .i64 0, .int .i64 0]), (gb498, 23, #[.int .i64 t502, .int .i64 t503]), (gb497, 23, #[.int .i64 t500, .int .i64 t501])]) := ⟨by rw [← hq_]; exact (by (with_reducible repeat (first | apply boxes_drewN | apply boxes_drew | apply boxes_alloc)); exact BX.out)⟩; have n1_ : Aside0 (Below w.heap.size w wc) := ⟨by rw [← hq_]; exact (by repeat (first | (with_reducible first | exact HB.out | apply below_alloc | apply pw_below_drewN | apply below_drew1 | refine below_set ?_ (Aside0.out (by assumption))) | exact HB.out))⟩; clear BX HB hq_; have BX := n0_; have HB := n1_; clear n0_ n1_)); (try (have hcz73_0 : wc.cell? ⟨gb497, 0, none⟩ = some (.int .i64 t500) := (blk_cell (BX.out.get 2 rfl) 0).trans rfl)); (try (have hfz73_0 := blk_frozen (BX.out.get 2 rfl) 0)); (try (have hcz73_1 : wc.cell? ⟨gb497, 1, none⟩ = some (.int .i64 t501) := (blk_cell (BX.out.get 2 rfl) 1).trans rfl)); (try (have hfz73_1 := blk_frozen (BX.out.get 2 rfl) 1)); (try (have hcz74_0 : wc.cell? ⟨gb498, 0, none⟩ = some (.int .i64 t502) := (blk_cell (BX.out.get 1 rfl) 0).trans rfl)); (try (have hfz74_0 := blk_frozen (BX.out.get 1 rfl) 0)); (try (have hcz74_1 : wc.cell? ⟨gb498, 1, none⟩ = some (.int .i64 t503) := (blk_cell (BX.out.get 1 rfl) 1).trans rfl)); (try (have hfz74_1 := blk_frozen (BX.out.get 1 rfl) 1)); (try (have hcz75_0 : wc.cell? ⟨gb499, 0, none⟩ = some (.int .i64 0) := (blk_cell (BX.out.get 0 rfl) 0).trans rfl)); (try (have hfz75_0 := blk_frozen (BX.out.get 0 rfl) 0)); (try (have hcz75_1 : wc.cell? ⟨gb499, 1, none⟩ = some (.int .i64 0) := (blk_cell (BX.out.get 0 rfl) 1).trans rfl)); (try (have hfz75_1 := blk_frozen (BX.out.get 0 rfl) 1)); have hcz76_0 : wc.cell? ⟨gb499, 0, none⟩ = some (.int .i64 0) := (blk_cell (BX.out.get 0 rfl) 0).trans rfl; have hcz76_1 : wc.cell? ⟨gb499, 1, none⟩ = some (.int .i64 0) := (blk_cell (BX.out.get 0 rfl) 1).trans rfl; have hfz76_0 := blk_frozen (BX.out.get 0 rfl) 0; have hfz76_1 := blk_frozen (BX.out.get 0 rfl) 1))
          refine bodyPost_ret (results_ct rfl _ _ gb499 23 #[.int .i64 0, .int .i64 0] (0, 0) _ rfl (by (with_reducible repeat (first | refine blk_drewN ?_ _ | refine blk_drew ?_ | refine blk_alloc ?_ _)); refine blk_put (cs := #[.int .i64 0, .int .i64 0]) ?_ 1 _ rfl; (with_reducible repeat (first | refine blk_drewN ?_ _ | refine blk_drew ?_ | refine blk_alloc ?_ _)); refine blk_put (cs := #[.int .i64 0, .int .i64 0]) ?_ 0 _ rfl; (with_reducible repeat (first | refine blk_drewN ?_ _ | refine blk_drew ?_ | refine blk_alloc ?_ _)); exact (BX.out.get 0 rfl)) Tryd.underlying23 rfl (by kernel_rfl)) rfl ?_
          exact ⟨by first | rfl | (simp [errW_none, errW_some] <;> rfl) | (simp [*, errW_none, errW_some] <;> rfl), by repeat (first | (with_reducible first | exact HB.out | apply below_alloc | apply pw_below_drewN | apply below_drew1 | refine below_set ?_ (Aside0.out (by assumption))) | exact HB.out)⟩
         ·rw [if_neg c58] at H
          have c58b0 : decide ((IntKind.u64.wrap (Int.tdiv (1000000 : Int) (IntKind.u64.wrap (Int.tdiv (IntKind.u64.wrap (t503)) t506)))) < (IntKind.u64.wrap (Int.tdiv (IntKind.u64.wrap (t501)) t507))) = false := decide_eq_false c58
          clear c58
          replace H := Option.bind_eq_some_iff.mp H
          obtain ⟨⟨t508, t509, t510⟩, A770, H⟩ := H
          replace H : (some (t508, t509, t510)) = some (r1, r2, r3) := H
          have A77 := Aside0.mk A770
          clear A770
          simp only [Option.some.injEq, Prod.mk.injEq] at H
          obtain ⟨rfl, rfl, rfl⟩ := H
          obtain ⟨⟨hnb79, hnc79⟩, ⟨hnb78, hnc78⟩, -⟩ := BX.out.apart 2 rfl
          have hcz80_0 : wc.cell? ⟨gb497, 0, none⟩ = some (.int .i64 t500) := (blk_cell (BX.out.get 2 rfl) 0).trans rfl
          have hcz80_1 : wc.cell? ⟨gb497, 1, none⟩ = some (.int .i64 t501) := (blk_cell (BX.out.get 2 rfl) 1).trans rfl
          have hfz80_0 := blk_frozen (BX.out.get 2 rfl) 0
          have hfz80_1 := blk_frozen (BX.out.get 2 rfl) 1
          go_wp2_with (first | ((with_reducible refine gate_callee (f := 61) rfl ?_); refine goesL_ (some 26) rfl rfl Tryd.func61 (by kernel_rfl) rfl #[.int .i64 t500] rfl (by (try simp only [List.map_toArray, List.map_cons, List.map_nil]); first | done | rfl | (simp only [List.length_drop, List.length_take]; rfl)) ?_; (with_reducible refine (whittleref1_far.calls t500 t504 _ A31.out).mono ?_); rintro e w' ⟨rfl, ⟨nd, rfl⟩⟩; refine ⟨_, rfl, ?_⟩; (try (rw [drewN_self wc]; generalize hq_ : World.drewN wc _ = wc; have n0_ : Aside0 (Boxes w.heap.size wc [(gb499, 23, #[.int .i64 0, .int .i64 0]), (gb498, 23, #[.int .i64 t502, .int .i64 t503]), (gb497, 23, #[.int .i64 t500, .int .i64 t501])]) := ⟨by rw [← hq_]; exact (by (with_reducible repeat (first | apply boxes_drewN | apply boxes_drew | apply boxes_alloc)); exact BX.out)⟩; have n1_ : Aside0 (Below w.heap.size w wc) := ⟨by rw [← hq_]; exact (by repeat (first | (with_reducible first | exact HB.out | apply below_alloc | apply pw_below_drewN | apply below_drew1 | refine below_set ?_ (Aside0.out (by assumption))) | exact HB.out))⟩; clear BX HB hq_; have BX := n0_; have HB := n1_; clear n0_ n1_)); (try (have hcz81_0 : wc.cell? ⟨gb497, 0, none⟩ = some (.int .i64 t500) := (blk_cell (BX.out.get 2 rfl) 0).trans rfl)); (try (have hfz81_0 := blk_frozen (BX.out.get 2 rfl) 0)); (try (have hcz81_1 : wc.cell? ⟨gb497, 1, none⟩ = some (.int .i64 t501) := (blk_cell (BX.out.get 2 rfl) 1).trans rfl)); (try (have hfz81_1 := blk_frozen (BX.out.get 2 rfl) 1)); (try (have hcz82_0 : wc.cell? ⟨gb498, 0, none⟩ = some (.int .i64 t502) := (blk_cell (BX.out.get 1 rfl) 0).trans rfl)); (try (have hfz82_0 := blk_frozen (BX.out.get 1 rfl) 0)); (try (have hcz82_1 : wc.cell? ⟨gb498, 1, none⟩ = some (.int .i64 t503) := (blk_cell (BX.out.get 1 rfl) 1).trans rfl)); (try (have hfz82_1 := blk_frozen (BX.out.get 1 rfl) 1)); (try (have hcz83_0 : wc.cell? ⟨gb499, 0, none⟩ = some (.int .i64 0) := (blk_cell (BX.out.get 0 rfl) 0).trans rfl)); (try (have hfz83_0 := blk_frozen (BX.out.get 0 rfl) 0)); (try (have hcz83_1 : wc.cell? ⟨gb499, 1, none⟩ = some (.int .i64 0) := (blk_cell (BX.out.get 0 rfl) 1).trans rfl)); (try (have hfz83_1 := blk_frozen (BX.out.get 0 rfl) 1)); obtain ⟨⟨hnc84, hnb84⟩, -⟩ := BX.out.apart 0 rfl; have hcz85_0 : wc.cell? ⟨gb498, 0, none⟩ = some (.int .i64 t502) := (blk_cell (BX.out.get 1 rfl) 0).trans rfl; have hcz85_1 : wc.cell? ⟨gb498, 1, none⟩ = some (.int .i64 t503) := (blk_cell (BX.out.get 1 rfl) 1).trans rfl; have hfz85_0 := blk_frozen (BX.out.get 1 rfl) 0; have hfz85_1 := blk_frozen (BX.out.get 1 rfl) 1) | ((with_reducible refine gate_callee (f := 61) rfl ?_); refine goesL_ (some 29) rfl rfl Tryd.func61 (by kernel_rfl) rfl #[.int .i64 t502] rfl (by (try simp only [List.map_toArray, List.map_cons, List.map_nil]); first | done | rfl | (simp only [List.length_drop, List.length_take]; rfl)) ?_; (with_reducible refine (whittleref1_far.calls t502 t505 _ A32.out).mono ?_); rintro e w' ⟨rfl, ⟨nd, rfl⟩⟩; refine ⟨_, rfl, ?_⟩; (try (rw [drewN_self wc]; generalize hq_ : World.drewN wc _ = wc; have n0_ : Aside0 (Boxes w.heap.size wc [(gb499, 23, #[.int .i64 0, .int .i64 0]), (gb498, 23, #[.int .i64 t502, .int .i64 t503]), (gb497, 23, #[.int .i64 t500, .int .i64 t501])]) := ⟨by rw [← hq_]; exact (by (with_reducible repeat (first | apply boxes_drewN | apply boxes_drew | apply boxes_alloc)); exact BX.out)⟩; have n1_ : Aside0 (Below w.heap.size w wc) := ⟨by rw [← hq_]; exact (by repeat (first | (with_reducible first | exact HB.out | apply below_alloc | apply pw_below_drewN | apply below_drew1 | refine below_set ?_ (Aside0.out (by assumption))) | exact HB.out))⟩; clear BX HB hq_; have BX := n0_; have HB := n1_; clear n0_ n1_)); (try (have hcz86_0 : wc.cell? ⟨gb497, 0, none⟩ = some (.int .i64 t500) := (blk_cell (BX.out.get 2 rfl) 0).trans rfl)); (try (have hfz86_0 := blk_frozen (BX.out.get 2 rfl) 0)); (try (have hcz86_1 : wc.cell? ⟨gb497, 1, none⟩ = some (.int .i64 t501) := (blk_cell (BX.out.get 2 rfl) 1).trans rfl)); (try (have hfz86_1 := blk_frozen (BX.out.get 2 rfl) 1)); (try (have hcz87_0 : wc.cell? ⟨gb498, 0, none⟩ = some (.int .i64 t502) := (blk_cell (BX.out.get 1 rfl) 0).trans rfl)); (try (have hfz87_0 := blk_frozen (BX.out.get 1 rfl) 0)); (try (have hcz87_1 : wc.cell? ⟨gb498, 1, none⟩ = some (.int .i64 t503) := (blk_cell (BX.out.get 1 rfl) 1).trans rfl)); (try (have hfz87_1 := blk_frozen (BX.out.get 1 rfl) 1)); (try (have hcz88_0 : wc.cell? ⟨gb499, 0, none⟩ = some (.int .i64 0) := (blk_cell (BX.out.get 0 rfl) 0).trans rfl)); (try (have hfz88_0 := blk_frozen (BX.out.get 0 rfl) 0)); (try (have hcz88_1 : wc.cell? ⟨gb499, 1, none⟩ = some (.int .i64 0) := (blk_cell (BX.out.get 0 rfl) 1).trans rfl)); (try (have hfz88_1 := blk_frozen (BX.out.get 0 rfl) 1))) | ((with_reducible refine gate_callee (f := 62) rfl ?_); refine goesL_ (some 38) rfl rfl Tryd.func62 (by kernel_rfl) rfl #[.int .u64 t504, .int .u64 (IntKind.u64.wrap (t503))] rfl (by (try simp only [List.map_toArray, List.map_cons, List.map_nil]); first | done | rfl | (simp only [List.length_drop, List.length_take]; rfl)) ?_; (with_reducible refine (whittleref1_gcd.calls kj4 t504 (IntKind.u64.wrap (t503)) t506 _ A33.out).mono ?_); rintro e w' ⟨rfl, ⟨nd, rfl⟩⟩; refine ⟨_, rfl, ?_⟩; (try (rw [drewN_self wc]; generalize hq_ : World.drewN wc _ = wc; have n0_ : Aside0 (Boxes w.heap.size wc [(gb499, 23, #[.int .i64 0, .int .i64 0]), (gb498, 23, #[.int .i64 t502, .int .i64 t503]), (gb497, 23, #[.int .i64 t500, .int .i64 t501])]) := ⟨by rw [← hq_]; exact (by (with_reducible repeat (first | apply boxes_drewN | apply boxes_drew | apply boxes_alloc)); exact BX.out)⟩; have n1_ : Aside0 (Below w.heap.size w wc) := ⟨by rw [← hq_]; exact (by repeat (first | (with_reducible first | exact HB.out | apply below_alloc | apply pw_below_drewN | apply below_drew1 | refine below_set ?_ (Aside0.out (by assumption))) | exact HB.out))⟩; clear BX HB hq_; have BX := n0_; have HB := n1_; clear n0_ n1_)); (try (have hcz89_0 : wc.cell? ⟨gb497, 0, none⟩ = some (.int .i64 t500) := (blk_cell (BX.out.get 2 rfl) 0).trans rfl)); (try (have hfz89_0 := blk_frozen (BX.out.get 2 rfl) 0)); (try (have hcz89_1 : wc.cell? ⟨gb497, 1, none⟩ = some (.int .i64 t501) := (blk_cell (BX.out.get 2 rfl) 1).trans rfl)); (try (have hfz89_1 := blk_frozen (BX.out.get 2 rfl) 1)); (try (have hcz90_0 : wc.cell? ⟨gb498, 0, none⟩ = some (.int .i64 t502) := (blk_cell (BX.out.get 1 rfl) 0).trans rfl)); (try (have hfz90_0 := blk_frozen (BX.out.get 1 rfl) 0)); (try (have hcz90_1 : wc.cell? ⟨gb498, 1, none⟩ = some (.int .i64 t503) := (blk_cell (BX.out.get 1 rfl) 1).trans rfl)); (try (have hfz90_1 := blk_frozen (BX.out.get 1 rfl) 1)); (try (have hcz91_0 : wc.cell? ⟨gb499, 0, none⟩ = some (.int .i64 0) := (blk_cell (BX.out.get 0 rfl) 0).trans rfl)); (try (have hfz91_0 := blk_frozen (BX.out.get 0 rfl) 0)); (try (have hcz91_1 : wc.cell? ⟨gb499, 1, none⟩ = some (.int .i64 0) := (blk_cell (BX.out.get 0 rfl) 1).trans rfl)); (try (have hfz91_1 := blk_frozen (BX.out.get 0 rfl) 1))) | ((with_reducible refine gate_callee (f := 62) rfl ?_); refine goesL_ (some 47) rfl rfl Tryd.func62 (by kernel_rfl) rfl #[.int .u64 t505, .int .u64 (IntKind.u64.wrap (t501))] rfl (by (try simp only [List.map_toArray, List.map_cons, List.map_nil]); first | done | rfl | (simp only [List.length_drop, List.length_take]; rfl)) ?_; (with_reducible refine (whittleref1_gcd.calls kj4 t505 (IntKind.u64.wrap (t501)) t507 _ A35.out).mono ?_); rintro e w' ⟨rfl, ⟨nd, rfl⟩⟩; refine ⟨_, rfl, ?_⟩; (try (rw [drewN_self wc]; generalize hq_ : World.drewN wc _ = wc; have n0_ : Aside0 (Boxes w.heap.size wc [(gb499, 23, #[.int .i64 0, .int .i64 0]), (gb498, 23, #[.int .i64 t502, .int .i64 t503]), (gb497, 23, #[.int .i64 t500, .int .i64 t501])]) := ⟨by rw [← hq_]; exact (by (with_reducible repeat (first | apply boxes_drewN | apply boxes_drew | apply boxes_alloc)); exact BX.out)⟩; have n1_ : Aside0 (Below w.heap.size w wc) := ⟨by rw [← hq_]; exact (by repeat (first | (with_reducible first | exact HB.out | apply below_alloc | apply pw_below_drewN | apply below_drew1 | refine below_set ?_ (Aside0.out (by assumption))) | exact HB.out))⟩; clear BX HB hq_; have BX := n0_; have HB := n1_; clear n0_ n1_)); (try (have hcz92_0 : wc.cell? ⟨gb497, 0, none⟩ = some (.int .i64 t500) := (blk_cell (BX.out.get 2 rfl) 0).trans rfl)); (try (have hfz92_0 := blk_frozen (BX.out.get 2 rfl) 0)); (try (have hcz92_1 : wc.cell? ⟨gb497, 1, none⟩ = some (.int .i64 t501) := (blk_cell (BX.out.get 2 rfl) 1).trans rfl)); (try (have hfz92_1 := blk_frozen (BX.out.get 2 rfl) 1)); (try (have hcz93_0 : wc.cell? ⟨gb498, 0, none⟩ = some (.int .i64 t502) := (blk_cell (BX.out.get 1 rfl) 0).trans rfl)); (try (have hfz93_0 := blk_frozen (BX.out.get 1 rfl) 0)); (try (have hcz93_1 : wc.cell? ⟨gb498, 1, none⟩ = some (.int .i64 t503) := (blk_cell (BX.out.get 1 rfl) 1).trans rfl)); (try (have hfz93_1 := blk_frozen (BX.out.get 1 rfl) 1)); (try (have hcz94_0 : wc.cell? ⟨gb499, 0, none⟩ = some (.int .i64 0) := (blk_cell (BX.out.get 0 rfl) 0).trans rfl)); (try (have hfz94_0 := blk_frozen (BX.out.get 0 rfl) 0)); (try (have hcz94_1 : wc.cell? ⟨gb499, 1, none⟩ = some (.int .i64 0) := (blk_cell (BX.out.get 0 rfl) 1).trans rfl)); (try (have hfz94_1 := blk_frozen (BX.out.get 0 rfl) 1))) | ((with_reducible refine gate_callee (f := 60) rfl ?_); refine goesL_ (some 78) rfl rfl Tryd.func60 (by kernel_rfl) rfl #[.bool ((decide (t500 < 0)) != (decide (t502 < 0))), .int .u64 (IntKind.u64.wrap ((IntKind.u64.wrap (Int.tdiv t504 t506)) * (IntKind.u64.wrap (Int.tdiv t505 t507)))), .int .u64 (IntKind.u64.wrap ((IntKind.u64.wrap (Int.tdiv (IntKind.u64.wrap (t501)) t507)) * (IntKind.u64.wrap (Int.tdiv (IntKind.u64.wrap (t503)) t506))))] rfl (by (try simp only [List.map_toArray, List.map_cons, List.map_nil]); first | done | rfl | (simp only [List.length_drop, List.length_take]; rfl)) ?_; (with_reducible refine (whittleref1_made.calls kj4 ((decide (t500 < 0)) != (decide (t502 < 0))) (IntKind.u64.wrap ((IntKind.u64.wrap (Int.tdiv t504 t506)) * (IntKind.u64.wrap (Int.tdiv t505 t507)))) (IntKind.u64.wrap ((IntKind.u64.wrap (Int.tdiv (IntKind.u64.wrap (t501)) t507)) * (IntKind.u64.wrap (Int.tdiv (IntKind.u64.wrap (t503)) t506)))) t508 t509 t510 _ A77.out).mono ?_); rintro e w95 ⟨rfl, hb⟩; refine ⟨_, rfl, ?_⟩; have n0_ := Aside0.mk (Boxes.below (by (with_reducible repeat (first | apply boxes_drewN | apply boxes_drew | apply boxes_alloc)); exact BX.out) hb); have n1_ := Aside0.mk (below_step (by repeat (first | (with_reducible first | exact HB.out | apply below_alloc | apply pw_below_drewN | apply below_drew1 | refine below_set ?_ (Aside0.out (by assumption))) | exact HB.out)) hb); clear BX HB; have BX := n0_; have HB := n1_; clear n0_ n1_; (try clear hb); (try clear hb2); (try clear hk); (try clear hi); have hcz96_0 : w95.cell? ⟨gb499, 0, none⟩ = some (.int .i64 0) := (blk_cell (BX.out.get 0 rfl) 0).trans rfl; have hcz96_1 : w95.cell? ⟨gb499, 1, none⟩ = some (.int .i64 0) := (blk_cell (BX.out.get 0 rfl) 1).trans rfl; have hfz96_0 := blk_frozen (BX.out.get 0 rfl) 0; have hfz96_1 := blk_frozen (BX.out.get 0 rfl) 1))
          refine bodyPost_ret (results_ct rfl _ _ gb499 23 #[.int .i64 t508, .int .i64 t509] (0, 0) _ rfl (by (with_reducible repeat (first | refine blk_drewN ?_ _ | refine blk_drew ?_ | refine blk_alloc ?_ _)); refine blk_put (cs := #[.int .i64 t508, .int .i64 0]) ?_ 1 _ rfl; (with_reducible repeat (first | refine blk_drewN ?_ _ | refine blk_drew ?_ | refine blk_alloc ?_ _)); refine blk_put (cs := #[.int .i64 0, .int .i64 0]) ?_ 0 _ rfl; (with_reducible repeat (first | refine blk_drewN ?_ _ | refine blk_drew ?_ | refine blk_alloc ?_ _)); exact (BX.out.get 0 rfl)) Tryd.underlying23 rfl (by kernel_rfl)) rfl ?_
          exact ⟨by first | rfl | (simp [errW_none, errW_some] <;> rfl) | (simp [*, errW_none, errW_some] <;> rfl), by repeat (first | (with_reducible first | exact HB.out | apply below_alloc | apply pw_below_drewN | apply below_drew1 | refine below_set ?_ (Aside0.out (by assumption))) | exact HB.out)⟩

/-! ### num_Div: function 41 -/
def num_Div.f (k : Nat) (a0_0 : Int) (a0_1 : Int) (a1_0 : Int) (a1_1 : Int) : Option (Int × Int × Bool) := (num_taken.f k a0_0 a0_1).bind fun bt514 => ((num_taken.f k a1_0 a1_1).bind fun bt516 => (if bt516.1 = 0 then (some (0, 0, false)) else (if bt516.1 < 0 then ((num_product.f k bt514.1 bt514.2 (wrap64 (-bt516.2)) (wrap64 (-bt516.1))).bind fun bt518 => (some (bt518.1, bt518.2.1, bt518.2.2))) else ((num_product.f k bt514.1 bt514.2 bt516.2 bt516.1).bind fun bt521 => (some (bt521.1, bt521.2.1, bt521.2.2))))))
theorem num_Div.mono : ∀ a0 a1 a2 a3 k, LeO (num_Div.f k a0 a1 a2 a3) (num_Div.f (k + 1) a0 a1 a2 a3) := by
 intro a0 a1 a2 a3 k
 unfold num_Div.f
 repeat' first
   | (with_reducible exact num_product.mono _ _ _ _ _)
   | (with_reducible exact num_taken.mono _ _ _)
   | (with_reducible exact LeO.refl _)
   | (with_reducible exact LeO.none _)
   | (with_reducible refine LeO.ite ?_ ?_)
   | (with_reducible refine LeO.bind ?_ (fun _ => ?_))
   | exact num_product.mono _ _ _ _ _
   | exact num_taken.mono _ _ _
   | exact LeO.none _
   | refine LeO.ite ?_ ?_
   | refine LeO.bind ?_ (fun _ => ?_)
set_option maxHeartbeats 8000000 in
set_option maxRecDepth 100000 in
theorem num_Div.calls (k : Nat) (a0_0 : Int) (a0_1 : Int) (a1_0 : Int) (a1_1 : Int) (r1 : Int) (r2 : Int) (r3 : Bool) (w : World) (h : num_Div.f k a0_0 a0_1 a1_0 a1_1 = some (r1, r2, r3)) :
  Calls Tryd.prog 41 #[.agg #[.int .i64 a0_0, .int .i64 a0_1], .agg #[.int .i64 a1_0, .int .i64 a1_1]] w fun e w' => e = .returned (.tuple #[.agg #[.int .i64 r1, .int .i64 r2], .bool r3]) ∧ Below w.heap.size w w' := by
 have hu23 := Tryd.underlying23
 have HB := Aside0.mk (Below.refl w.heap.size w)
 have H : ((num_taken.f k a0_0 a0_1).bind fun bt514 => ((num_taken.f k a1_0 a1_1).bind fun bt516 => (if bt516.1 = 0 then (some (0, 0, false)) else (if bt516.1 < 0 then ((num_product.f k bt514.1 bt514.2 (wrap64 (-bt516.2)) (wrap64 (-bt516.1))).bind fun bt518 => (some (bt518.1, bt518.2.1, bt518.2.2))) else ((num_product.f k bt514.1 bt514.2 bt516.2 bt516.1).bind fun bt521 => (some (bt521.1, bt521.2.1, bt521.2.2))))))) = some (r1, r2, r3) := h
 clear h
 replace H := Option.bind_eq_some_iff.mp H
 obtain ⟨⟨t514, t515⟩, A30, H⟩ := H
 have A3 := Aside0.mk A30
 clear A30
 replace H := Option.bind_eq_some_iff.mp H
 obtain ⟨⟨t516, t517⟩, A40, H⟩ := H
 replace H : (if t516 = 0 then (some (0, 0, false)) else (if t516 < 0 then ((num_product.f k t514 t515 (wrap64 (-t517)) (wrap64 (-t516))).bind fun bt518 => (some (bt518.1, bt518.2.1, bt518.2.2))) else ((num_product.f k t514 t515 t517 t516).bind fun bt521 => (some (bt521.1, bt521.2.1, bt521.2.2))))) = some (r1, r2, r3) := H
 have A4 := Aside0.mk A40
 clear A40
 by_cases c5 : t516 = 0
 ·rw [if_pos c5] at H
  have c5b0 : (t516 == 0) = true := beq_iff_eq.mpr c5
  have c5b1 : (t516 != 0) = false := bne_eq_false_iff_eq.mpr c5
  clear c5
  simp only [Option.some.injEq, Prod.mk.injEq] at H
  obtain ⟨rfl, rfl, rfl⟩ := H
  go_enter Tryd.func41, Tryd.ntmps41
  try go_wp2_with (first | ((with_reducible refine gate_dst (N := 2) rfl ?_); refine box_event ?hg (N := 2) ?hd (cs := #[.int .i64 a0_0, .int .i64 a0_1]) (t := 23) ?hr ?_; (case hd => rfl); (case hg => rfl); (case hr => first | (go_simp; done) | (go_simp; rfl)); intro gb511 hg w6 hbox hb; have n0_ := Aside0.mk (Boxes.new (b := w.heap.size) (L := []) trivial hg hbox hb (below_size (by repeat (first | (with_reducible first | exact HB.out | apply below_alloc | apply pw_below_drewN | apply below_drew1 | refine below_set ?_ (Aside0.out (by assumption))) | exact HB.out)))); have n1_ := Aside0.mk (below_step (by repeat (first | (with_reducible first | exact HB.out | apply below_alloc | apply pw_below_drewN | apply below_drew1 | refine below_set ?_ (Aside0.out (by assumption))) | exact HB.out)) hb); have n2_ := Aside0.mk ((by rw [hg]; exact (below_size (by repeat (first | (with_reducible first | exact HB.out | apply below_alloc | apply pw_below_drewN | apply below_drew1 | refine below_set ?_ (Aside0.out (by assumption))) | exact HB.out))) : w.heap.size ≤ gb511)); clear HB; have BX := n0_; have HB := n1_; have GE511 := n2_; clear n0_ n1_ n2_; clear hb hbox hg) | ((with_reducible refine gate_dst (N := 3) rfl ?_); refine box_event ?hg (N := 3) ?hd (cs := #[.int .i64 a1_0, .int .i64 a1_1]) (t := 23) ?hr ?_; (case hd => rfl); (case hg => rfl); (case hr => first | (go_simp; done) | (go_simp; rfl)); intro gb512 hg w7 hbox hb; have n0_ := Aside0.mk (Boxes.new (by (with_reducible repeat (first | apply boxes_drewN | apply boxes_drew | apply boxes_alloc)); exact BX.out) hg hbox hb (below_size (by repeat (first | (with_reducible first | exact HB.out | apply below_alloc | apply pw_below_drewN | apply below_drew1 | refine below_set ?_ (Aside0.out (by assumption))) | exact HB.out)))); have n1_ := Aside0.mk (below_step (by repeat (first | (with_reducible first | exact HB.out | apply below_alloc | apply pw_below_drewN | apply below_drew1 | refine below_set ?_ (Aside0.out (by assumption))) | exact HB.out)) hb); have n2_ := Aside0.mk ((by rw [hg]; exact (below_size (by repeat (first | (with_reducible first | exact HB.out | apply below_alloc | apply pw_below_drewN | apply below_drew1 | refine below_set ?_ (Aside0.out (by assumption))) | exact HB.out))) : w.heap.size ≤ gb512)); clear BX HB; have BX := n0_; have HB := n1_; have GE512 := n2_; clear n0_ n1_ n2_; clear hb hbox hg) | ((with_reducible refine gate_dst (N := 4) rfl ?_); refine box_event ?hg (N := 4) ?hd (cs := #[.int .i64 0, .int .i64 0]) (t := 23) ?hr ?_; (case hd => rfl); (case hg => rfl); (case hr => first | (go_simp; done) | (go_simp; rfl)); intro gb513 hg w8 hbox hb; have n0_ := Aside0.mk (Boxes.new (by (with_reducible repeat (first | apply boxes_drewN | apply boxes_drew | apply boxes_alloc)); exact BX.out) hg hbox hb (below_size (by repeat (first | (with_reducible first | exact HB.out | apply below_alloc | apply pw_below_drewN | apply below_drew1 | refine below_set ?_ (Aside0.out (by assumption))) | exact HB.out)))); have n1_ := Aside0.mk (below_step (by repeat (first | (with_reducible first | exact HB.out | apply below_alloc | apply pw_below_drewN | apply below_drew1 | refine below_set ?_ (Aside0.out (by assumption))) | exact HB.out)) hb); have n2_ := Aside0.mk ((by rw [hg]; exact (below_size (by repeat (first | (with_reducible first | exact HB.out | apply below_alloc | apply pw_below_drewN | apply below_drew1 | refine below_set ?_ (Aside0.out (by assumption))) | exact HB.out))) : w.heap.size ≤ gb513)); clear BX HB; have BX := n0_; have HB := n1_; have GE513 := n2_; clear n0_ n1_ n2_; clear hb hbox hg))
  have n0_ := Aside0.mk (boxes_drew BX.out)
  have n1_ := Aside0.mk (below_drew1 HB.out)
  clear BX HB
  have BX := n0_
  have HB := n1_
  clear n0_ n1_
  refine start_ (n := 6) (S := fun w' => w'.cell? ⟨gb511, 0, none⟩ = some (.int .i64 a0_0) ∧ w'.cell? ⟨gb511, 1, none⟩ = some (.int .i64 a0_1) ∧ w'.cell? ⟨gb512, 0, none⟩ = some (.int .i64 a1_0) ∧ w'.cell? ⟨gb512, 1, none⟩ = some (.int .i64 a1_1)) (ds := [4, 5]) #[false, false, false, false, false, false] (by kernel_rfl) rfl rfl ⟨(blk_cell (BX.out.get 2 rfl) 0).trans rfl, (blk_cell (BX.out.get 2 rfl) 1).trans rfl, (blk_cell (BX.out.get 1 rfl) 0).trans rfl, (blk_cell (BX.out.get 1 rfl) 1).trans rfl⟩ (fun hHeld => ?_)
  generalize w8.drew = w9 at BX HB hHeld ⊢
  refine take_ (i := 0) (N := some 6) (v := ?_) (a' := ?_) #[true, false, false, false, false, false] rfl rfl (by kernel_rfl) (fun _ _ _ h => h) (Or.inl ⟨by rfl, ?_⟩) hHeld ?_ ?_
  rotate_left
  ·rintro w' ⟨s0, s1, s2, s3⟩
   go_simp
   with_reducible rfl
  rotate_left
  ·simp only [Act.put, List.setIfInBounds_toArray, List.set_cons_zero, List.set_cons_succ, i64_w, i32_w]
   rfl
  refine take_ (i := 2) (N := some 8) (v := ?_) (a' := ?_) #[true, false, true, false, false, false] rfl rfl (by kernel_rfl) (fun _ _ _ h => h) (Or.inl ⟨by rfl, ?_⟩) hHeld ?_ ?_
  rotate_left
  ·rintro w' ⟨s0, s1, s2, s3⟩
   go_simp
   with_reducible rfl
  rotate_left
  ·simp only [Act.put, List.setIfInBounds_toArray, List.set_cons_zero, List.set_cons_succ, i64_w, i32_w]
   rfl
  refine one_ (i := 1) (N := some 7) #[true, true, true, false, false, false] rfl rfl (by kernel_rfl) (by decide) (fun K hK => ?_)
  refine goes_ Tryd.func63 (by kernel_rfl) rfl #[.agg #[.int .i64 a0_0, .int .i64 a0_1]] (by rfl) rfl rfl (by (try simp only [List.map_toArray, List.map_cons, List.map_nil]); first | done | rfl | (simp only [List.length_drop, List.length_take]; rfl)) ?_
  with_reducible refine (num_taken.calls k a0_0 a0_1 t514 t515 _ A3.out).mono ?_
  rintro e w10 ⟨rfl, hb⟩
  refine ⟨_, rfl, ?_⟩
  have n0_ := Aside0.mk (Boxes.below (by (with_reducible repeat (first | apply boxes_drewN | apply boxes_drew | apply boxes_alloc)); exact BX.out) hb)
  have n1_ := Aside0.mk (below_step (by repeat (first | (with_reducible first | exact HB.out | apply below_alloc | apply pw_below_drewN | apply below_drew1 | refine below_set ?_ (Aside0.out (by assumption))) | exact HB.out)) hb)
  clear BX HB
  have BX := n0_
  have HB := n1_
  clear n0_ n1_
  (try clear hb)
  (try clear hb2)
  (try clear hk)
  (try clear hi)
  refine hK.out _ _ ⟨(blk_cell (BX.out.get 2 rfl) 0).trans rfl, (blk_cell (BX.out.get 2 rfl) 1).trans rfl, (blk_cell (BX.out.get 1 rfl) 0).trans rfl, (blk_cell (BX.out.get 1 rfl) 1).trans rfl⟩ (fun hHeld => ?_)
  clear hK K
  refine norm_ (a' := ?_) ?_ ?_
  rotate_left
  ·show Act.put _ (some 7) _ = _
   simp only [Act.put, List.setIfInBounds_toArray, List.set_cons_zero, List.set_cons_succ, i64_w, i32_w]
   rfl
  refine one_ (i := 3) (N := some 9) #[true, true, true, true, false, false] rfl rfl (by kernel_rfl) (by decide) (fun K hK => ?_)
  refine goes_ Tryd.func63 (by kernel_rfl) rfl #[.agg #[.int .i64 a1_0, .int .i64 a1_1]] (by rfl) rfl rfl (by (try simp only [List.map_toArray, List.map_cons, List.map_nil]); first | done | rfl | (simp only [List.length_drop, List.length_take]; rfl)) ?_
  with_reducible refine (num_taken.calls k a1_0 a1_1 t516 t517 _ A4.out).mono ?_
  rintro e w11 ⟨rfl, hb⟩
  refine ⟨_, rfl, ?_⟩
  have n0_ := Aside0.mk (Boxes.below (by (with_reducible repeat (first | apply boxes_drewN | apply boxes_drew | apply boxes_alloc)); exact BX.out) hb)
  have n1_ := Aside0.mk (below_step (by repeat (first | (with_reducible first | exact HB.out | apply below_alloc | apply pw_below_drewN | apply below_drew1 | refine below_set ?_ (Aside0.out (by assumption))) | exact HB.out)) hb)
  clear BX HB
  have BX := n0_
  have HB := n1_
  clear n0_ n1_
  (try clear hb)
  (try clear hb2)
  (try clear hk)
  (try clear hi)
  refine hK.out _ _ ⟨(blk_cell (BX.out.get 2 rfl) 0).trans rfl, (blk_cell (BX.out.get 2 rfl) 1).trans rfl, (blk_cell (BX.out.get 1 rfl) 0).trans rfl, (blk_cell (BX.out.get 1 rfl) 1).trans rfl⟩ (fun hHeld => ?_)
  clear hK K
  refine norm_ (a' := ?_) ?_ ?_
  rotate_left
  ·show Act.put _ (some 9) _ = _
   simp only [Act.put, List.setIfInBounds_toArray, List.set_cons_zero, List.set_cons_succ, i64_w, i32_w]
   rfl
  refine last_ (i := 4) (N := none) #[true, true, true, true, true, false] rfl rfl (by kernel_rfl) (by decide) (fun K hK => ?_)
  have hs12 : w11.cell? ⟨gb511, 0, none⟩ = some (.int .i64 a0_0) := (blk_cell (BX.out.get 2 rfl) 0).trans rfl
  have hfs12 := blk_frozen (BX.out.get 2 rfl) 0
  obtain ⟨⟨hms12_2, hns12_2⟩, ⟨hms12_1, hns12_1⟩, -⟩ := BX.out.apart 2 rfl
  have hs13 : w11.cell? ⟨gb511, 1, none⟩ = some (.int .i64 a0_1) := (blk_cell (BX.out.get 2 rfl) 1).trans rfl
  have hfs13 := blk_frozen (BX.out.get 2 rfl) 1
  obtain ⟨⟨hms13_2, hns13_2⟩, ⟨hms13_1, hns13_1⟩, -⟩ := BX.out.apart 2 rfl
  refine skip_ (w1 := ?_) (by rfl) rfl ?_ ?_
  rotate_left
  ·go_simp
   rfl
  refine hK.out _ _ ?_
  clear hK K
  refine last_ (i := 5) (N := none) #[true, true, true, true, true, true] rfl rfl (by kernel_rfl) (by decide) (fun K hK => ?_)
  have hs14 : w11.cell? ⟨gb512, 0, none⟩ = some (.int .i64 a1_0) := (blk_cell (BX.out.get 1 rfl) 0).trans rfl
  have hfs14 := blk_frozen (BX.out.get 1 rfl) 0
  obtain ⟨⟨hms14_2, hns14_2⟩, ⟨hms14_0, hns14_0⟩, -⟩ := BX.out.apart 1 rfl
  have hs15 : w11.cell? ⟨gb512, 1, none⟩ = some (.int .i64 a1_1) := (blk_cell (BX.out.get 1 rfl) 1).trans rfl
  have hfs15 := blk_frozen (BX.out.get 1 rfl) 1
  obtain ⟨⟨hms15_2, hns15_2⟩, ⟨hms15_0, hns15_0⟩, -⟩ := BX.out.apart 1 rfl
  refine skip_ (w1 := ?_) (by rfl) rfl ?_ ?_
  rotate_left
  ·go_simp
   rfl
  refine hK.out _ _ ?_
  clear hK K
  refine done_ (by kernel_rfl) ?_
  obtain ⟨⟨hnb17, hnc17⟩, ⟨hnb16, hnc16⟩, -⟩ := BX.out.apart 1 rfl
  have hcz18_0 : w11.cell? ⟨gb512, 0, none⟩ = some (.int .i64 a1_0) := (blk_cell (BX.out.get 1 rfl) 0).trans rfl
  have hcz18_1 : w11.cell? ⟨gb512, 1, none⟩ = some (.int .i64 a1_1) := (blk_cell (BX.out.get 1 rfl) 1).trans rfl
  have hfz18_0 := blk_frozen (BX.out.get 1 rfl) 0
  have hfz18_1 := blk_frozen (BX.out.get 1 rfl) 1
  obtain ⟨-, ⟨hnb19, hnc19⟩, -⟩ := BX.out.apart 0 rfl
  have hcz20_0 : w11.cell? ⟨gb513, 0, none⟩ = some (.int .i64 0) := (blk_cell (BX.out.get 0 rfl) 0).trans rfl
  have hcz20_1 : w11.cell? ⟨gb513, 1, none⟩ = some (.int .i64 0) := (blk_cell (BX.out.get 0 rfl) 1).trans rfl
  have hfz20_0 := blk_frozen (BX.out.get 0 rfl) 0
  have hfz20_1 := blk_frozen (BX.out.get 0 rfl) 1
  try go_wp2
  refine bodyPost_ret (results_ct rfl _ _ gb513 23 #[.int .i64 0, .int .i64 0] (0, 0) _ rfl (by (with_reducible repeat (first | refine blk_drewN ?_ _ | refine blk_drew ?_ | refine blk_alloc ?_ _)); refine blk_put (cs := #[.int .i64 0, .int .i64 0]) ?_ 1 _ rfl; (with_reducible repeat (first | refine blk_drewN ?_ _ | refine blk_drew ?_ | refine blk_alloc ?_ _)); refine blk_put (cs := #[.int .i64 0, .int .i64 0]) ?_ 0 _ rfl; (with_reducible repeat (first | refine blk_drewN ?_ _ | refine blk_drew ?_ | refine blk_alloc ?_ _)); refine blk_far ?_ (BX.out.ne 0 1 rfl rfl (by decide)) _; (with_reducible repeat (first | refine blk_drewN ?_ _ | refine blk_drew ?_ | refine blk_alloc ?_ _)); refine blk_far ?_ (BX.out.ne 0 1 rfl rfl (by decide)) _; (with_reducible repeat (first | refine blk_drewN ?_ _ | refine blk_drew ?_ | refine blk_alloc ?_ _)); refine blk_far ?_ (BX.out.ne 0 2 rfl rfl (by decide)) _; (with_reducible repeat (first | refine blk_drewN ?_ _ | refine blk_drew ?_ | refine blk_alloc ?_ _)); refine blk_far ?_ (BX.out.ne 0 2 rfl rfl (by decide)) _; (with_reducible repeat (first | refine blk_drewN ?_ _ | refine blk_drew ?_ | refine blk_alloc ?_ _)); exact (BX.out.get 0 rfl)) Tryd.underlying23 rfl (by kernel_rfl)) rfl ?_
  exact ⟨by first | rfl | (simp [errW_none, errW_some] <;> rfl) | (simp [*, errW_none, errW_some] <;> rfl), by repeat (first | (with_reducible first | exact HB.out | apply below_alloc | apply pw_below_drewN | apply below_drew1 | refine below_set ?_ (Aside0.out (by assumption))) | exact HB.out)⟩
 ·rw [if_neg c5] at H
  have c5b0 : (t516 == 0) = false := beq_eq_false_iff_ne.mpr c5
  have c5b1 : (t516 != 0) = true := bne_iff_ne.mpr c5
  by_cases c21 : t516 < 0
  ·rw [if_pos c21] at H
   have c21b0 : decide (t516 < 0) = true := decide_eq_true c21
   clear c21
   replace H := Option.bind_eq_some_iff.mp H
   obtain ⟨⟨t518, t519, t520⟩, A220, H⟩ := H
   replace H : (some (t518, t519, t520)) = some (r1, r2, r3) := H
   have A22 := Aside0.mk A220
   clear A220
   simp only [Option.some.injEq, Prod.mk.injEq] at H
   obtain ⟨rfl, rfl, rfl⟩ := H
   go_enter Tryd.func41, Tryd.ntmps41
   try go_wp2_with (first | ((with_reducible refine gate_dst (N := 2) rfl ?_); refine box_event ?hg (N := 2) ?hd (cs := #[.int .i64 a0_0, .int .i64 a0_1]) (t := 23) ?hr ?_; (case hd => rfl); (case hg => rfl); (case hr => first | (go_simp; done) | (go_simp; rfl)); intro gb511 hg w23 hbox hb; have n0_ := Aside0.mk (Boxes.new (b := w.heap.size) (L := []) trivial hg hbox hb (below_size (by repeat (first | (with_reducible first | exact HB.out | apply below_alloc | apply pw_below_drewN | apply below_drew1 | refine below_set ?_ (Aside0.out (by assumption))) | exact HB.out)))); have n1_ := Aside0.mk (below_step (by repeat (first | (with_reducible first | exact HB.out | apply below_alloc | apply pw_below_drewN | apply below_drew1 | refine below_set ?_ (Aside0.out (by assumption))) | exact HB.out)) hb); have n2_ := Aside0.mk ((by rw [hg]; exact (below_size (by repeat (first | (with_reducible first | exact HB.out | apply below_alloc | apply pw_below_drewN | apply below_drew1 | refine below_set ?_ (Aside0.out (by assumption))) | exact HB.out))) : w.heap.size ≤ gb511)); clear HB; have BX := n0_; have HB := n1_; have GE511 := n2_; clear n0_ n1_ n2_; clear hb hbox hg) | ((with_reducible refine gate_dst (N := 3) rfl ?_); refine box_event ?hg (N := 3) ?hd (cs := #[.int .i64 a1_0, .int .i64 a1_1]) (t := 23) ?hr ?_; (case hd => rfl); (case hg => rfl); (case hr => first | (go_simp; done) | (go_simp; rfl)); intro gb512 hg w24 hbox hb; have n0_ := Aside0.mk (Boxes.new (by (with_reducible repeat (first | apply boxes_drewN | apply boxes_drew | apply boxes_alloc)); exact BX.out) hg hbox hb (below_size (by repeat (first | (with_reducible first | exact HB.out | apply below_alloc | apply pw_below_drewN | apply below_drew1 | refine below_set ?_ (Aside0.out (by assumption))) | exact HB.out)))); have n1_ := Aside0.mk (below_step (by repeat (first | (with_reducible first | exact HB.out | apply below_alloc | apply pw_below_drewN | apply below_drew1 | refine below_set ?_ (Aside0.out (by assumption))) | exact HB.out)) hb); have n2_ := Aside0.mk ((by rw [hg]; exact (below_size (by repeat (first | (with_reducible first | exact HB.out | apply below_alloc | apply pw_below_drewN | apply below_drew1 | refine below_set ?_ (Aside0.out (by assumption))) | exact HB.out))) : w.heap.size ≤ gb512)); clear BX HB; have BX := n0_; have HB := n1_; have GE512 := n2_; clear n0_ n1_ n2_; clear hb hbox hg) | ((with_reducible refine gate_dst (N := 4) rfl ?_); refine box_event ?hg (N := 4) ?hd (cs := #[.int .i64 0, .int .i64 0]) (t := 23) ?hr ?_; (case hd => rfl); (case hg => rfl); (case hr => first | (go_simp; done) | (go_simp; rfl)); intro gb513 hg w25 hbox hb; have n0_ := Aside0.mk (Boxes.new (by (with_reducible repeat (first | apply boxes_drewN | apply boxes_drew | apply boxes_alloc)); exact BX.out) hg hbox hb (below_size (by repeat (first | (with_reducible first | exact HB.out | apply below_alloc | apply pw_below_drewN | apply below_drew1 | refine below_set ?_ (Aside0.out (by assumption))) | exact HB.out)))); have n1_ := Aside0.mk (below_step (by repeat (first | (with_reducible first | exact HB.out | apply below_alloc | apply pw_below_drewN | apply below_drew1 | refine below_set ?_ (Aside0.out (by assumption))) | exact HB.out)) hb); have n2_ := Aside0.mk ((by rw [hg]; exact (below_size (by repeat (first | (with_reducible first | exact HB.out | apply below_alloc | apply pw_below_drewN | apply below_drew1 | refine below_set ?_ (Aside0.out (by assumption))) | exact HB.out))) : w.heap.size ≤ gb513)); clear BX HB; have BX := n0_; have HB := n1_; have GE513 := n2_; clear n0_ n1_ n2_; clear hb hbox hg))
   have n0_ := Aside0.mk (boxes_drew BX.out)
   have n1_ := Aside0.mk (below_drew1 HB.out)
   clear BX HB
   have BX := n0_
   have HB := n1_
   clear n0_ n1_
   refine start_ (n := 6) (S := fun w' => w'.cell? ⟨gb511, 0, none⟩ = some (.int .i64 a0_0) ∧ w'.cell? ⟨gb511, 1, none⟩ = some (.int .i64 a0_1) ∧ w'.cell? ⟨gb512, 0, none⟩ = some (.int .i64 a1_0) ∧ w'.cell? ⟨gb512, 1, none⟩ = some (.int .i64 a1_1)) (ds := [4, 5]) #[false, false, false, false, false, false] (by kernel_rfl) rfl rfl ⟨(blk_cell (BX.out.get 2 rfl) 0).trans rfl, (blk_cell (BX.out.get 2 rfl) 1).trans rfl, (blk_cell (BX.out.get 1 rfl) 0).trans rfl, (blk_cell (BX.out.get 1 rfl) 1).trans rfl⟩ (fun hHeld => ?_)
   generalize w25.drew = w26 at BX HB hHeld ⊢
   refine take_ (i := 0) (N := some 6) (v := ?_) (a' := ?_) #[true, false, false, false, false, false] rfl rfl (by kernel_rfl) (fun _ _ _ h => h) (Or.inl ⟨by rfl, ?_⟩) hHeld ?_ ?_
   rotate_left
   ·rintro w' ⟨s0, s1, s2, s3⟩
    go_simp
    with_reducible rfl
   rotate_left
   ·simp only [Act.put, List.setIfInBounds_toArray, List.set_cons_zero, List.set_cons_succ, i64_w, i32_w]
    rfl
   refine take_ (i := 2) (N := some 8) (v := ?_) (a' := ?_) #[true, false, true, false, false, false] rfl rfl (by kernel_rfl) (fun _ _ _ h => h) (Or.inl ⟨by rfl, ?_⟩) hHeld ?_ ?_
   rotate_left
   ·rintro w' ⟨s0, s1, s2, s3⟩
    go_simp
    with_reducible rfl
   rotate_left
   ·simp only [Act.put, List.setIfInBounds_toArray, List.set_cons_zero, List.set_cons_succ, i64_w, i32_w]
    rfl
   refine one_ (i := 1) (N := some 7) #[true, true, true, false, false, false] rfl rfl (by kernel_rfl) (by decide) (fun K hK => ?_)
   refine goes_ Tryd.func63 (by kernel_rfl) rfl #[.agg #[.int .i64 a0_0, .int .i64 a0_1]] (by rfl) rfl rfl (by (try simp only [List.map_toArray, List.map_cons, List.map_nil]); first | done | rfl | (simp only [List.length_drop, List.length_take]; rfl)) ?_
   with_reducible refine (num_taken.calls k a0_0 a0_1 t514 t515 _ A3.out).mono ?_
   rintro e w27 ⟨rfl, hb⟩
   refine ⟨_, rfl, ?_⟩
   have n0_ := Aside0.mk (Boxes.below (by (with_reducible repeat (first | apply boxes_drewN | apply boxes_drew | apply boxes_alloc)); exact BX.out) hb)
   have n1_ := Aside0.mk (below_step (by repeat (first | (with_reducible first | exact HB.out | apply below_alloc | apply pw_below_drewN | apply below_drew1 | refine below_set ?_ (Aside0.out (by assumption))) | exact HB.out)) hb)
   clear BX HB
   have BX := n0_
   have HB := n1_
   clear n0_ n1_
   (try clear hb)
   (try clear hb2)
   (try clear hk)
   (try clear hi)
   refine hK.out _ _ ⟨(blk_cell (BX.out.get 2 rfl) 0).trans rfl, (blk_cell (BX.out.get 2 rfl) 1).trans rfl, (blk_cell (BX.out.get 1 rfl) 0).trans rfl, (blk_cell (BX.out.get 1 rfl) 1).trans rfl⟩ (fun hHeld => ?_)
   clear hK K
   refine norm_ (a' := ?_) ?_ ?_
   rotate_left
   ·show Act.put _ (some 7) _ = _
    simp only [Act.put, List.setIfInBounds_toArray, List.set_cons_zero, List.set_cons_succ, i64_w, i32_w]
    rfl
   refine one_ (i := 3) (N := some 9) #[true, true, true, true, false, false] rfl rfl (by kernel_rfl) (by decide) (fun K hK => ?_)
   refine goes_ Tryd.func63 (by kernel_rfl) rfl #[.agg #[.int .i64 a1_0, .int .i64 a1_1]] (by rfl) rfl rfl (by (try simp only [List.map_toArray, List.map_cons, List.map_nil]); first | done | rfl | (simp only [List.length_drop, List.length_take]; rfl)) ?_
   with_reducible refine (num_taken.calls k a1_0 a1_1 t516 t517 _ A4.out).mono ?_
   rintro e w28 ⟨rfl, hb⟩
   refine ⟨_, rfl, ?_⟩
   have n0_ := Aside0.mk (Boxes.below (by (with_reducible repeat (first | apply boxes_drewN | apply boxes_drew | apply boxes_alloc)); exact BX.out) hb)
   have n1_ := Aside0.mk (below_step (by repeat (first | (with_reducible first | exact HB.out | apply below_alloc | apply pw_below_drewN | apply below_drew1 | refine below_set ?_ (Aside0.out (by assumption))) | exact HB.out)) hb)
   clear BX HB
   have BX := n0_
   have HB := n1_
   clear n0_ n1_
   (try clear hb)
   (try clear hb2)
   (try clear hk)
   (try clear hi)
   refine hK.out _ _ ⟨(blk_cell (BX.out.get 2 rfl) 0).trans rfl, (blk_cell (BX.out.get 2 rfl) 1).trans rfl, (blk_cell (BX.out.get 1 rfl) 0).trans rfl, (blk_cell (BX.out.get 1 rfl) 1).trans rfl⟩ (fun hHeld => ?_)
   clear hK K
   refine norm_ (a' := ?_) ?_ ?_
   rotate_left
   ·show Act.put _ (some 9) _ = _
    simp only [Act.put, List.setIfInBounds_toArray, List.set_cons_zero, List.set_cons_succ, i64_w, i32_w]
    rfl
   refine last_ (i := 4) (N := none) #[true, true, true, true, true, false] rfl rfl (by kernel_rfl) (by decide) (fun K hK => ?_)
   have hs29 : w28.cell? ⟨gb511, 0, none⟩ = some (.int .i64 a0_0) := (blk_cell (BX.out.get 2 rfl) 0).trans rfl
   have hfs29 := blk_frozen (BX.out.get 2 rfl) 0
   obtain ⟨⟨hms29_2, hns29_2⟩, ⟨hms29_1, hns29_1⟩, -⟩ := BX.out.apart 2 rfl
   have hs30 : w28.cell? ⟨gb511, 1, none⟩ = some (.int .i64 a0_1) := (blk_cell (BX.out.get 2 rfl) 1).trans rfl
   have hfs30 := blk_frozen (BX.out.get 2 rfl) 1
   obtain ⟨⟨hms30_2, hns30_2⟩, ⟨hms30_1, hns30_1⟩, -⟩ := BX.out.apart 2 rfl
   refine skip_ (w1 := ?_) (by rfl) rfl ?_ ?_
   rotate_left
   ·go_simp
    rfl
   refine hK.out _ _ ?_
   clear hK K
   refine last_ (i := 5) (N := none) #[true, true, true, true, true, true] rfl rfl (by kernel_rfl) (by decide) (fun K hK => ?_)
   have hs31 : w28.cell? ⟨gb512, 0, none⟩ = some (.int .i64 a1_0) := (blk_cell (BX.out.get 1 rfl) 0).trans rfl
   have hfs31 := blk_frozen (BX.out.get 1 rfl) 0
   obtain ⟨⟨hms31_2, hns31_2⟩, ⟨hms31_0, hns31_0⟩, -⟩ := BX.out.apart 1 rfl
   have hs32 : w28.cell? ⟨gb512, 1, none⟩ = some (.int .i64 a1_1) := (blk_cell (BX.out.get 1 rfl) 1).trans rfl
   have hfs32 := blk_frozen (BX.out.get 1 rfl) 1
   obtain ⟨⟨hms32_2, hns32_2⟩, ⟨hms32_0, hns32_0⟩, -⟩ := BX.out.apart 1 rfl
   refine skip_ (w1 := ?_) (by rfl) rfl ?_ ?_
   rotate_left
   ·go_simp
    rfl
   refine hK.out _ _ ?_
   clear hK K
   refine done_ (by kernel_rfl) ?_
   obtain ⟨⟨hnb34, hnc34⟩, ⟨hnb33, hnc33⟩, -⟩ := BX.out.apart 1 rfl
   have hcz35_0 : w28.cell? ⟨gb512, 0, none⟩ = some (.int .i64 a1_0) := (blk_cell (BX.out.get 1 rfl) 0).trans rfl
   have hcz35_1 : w28.cell? ⟨gb512, 1, none⟩ = some (.int .i64 a1_1) := (blk_cell (BX.out.get 1 rfl) 1).trans rfl
   have hfz35_0 := blk_frozen (BX.out.get 1 rfl) 0
   have hfz35_1 := blk_frozen (BX.out.get 1 rfl) 1
   obtain ⟨-, ⟨hnc36, hnb36⟩, -⟩ := BX.out.apart 0 rfl
   have hcz37_0 : w28.cell? ⟨gb511, 0, none⟩ = some (.int .i64 a0_0) := (blk_cell (BX.out.get 2 rfl) 0).trans rfl
   have hcz37_1 : w28.cell? ⟨gb511, 1, none⟩ = some (.int .i64 a0_1) := (blk_cell (BX.out.get 2 rfl) 1).trans rfl
   have hfz37_0 := blk_frozen (BX.out.get 2 rfl) 0
   have hfz37_1 := blk_frozen (BX.out.get 2 rfl) 1
   try go_wp2_with (first | ((with_reducible refine gate_callee (f := 73) rfl ?_); refine goesL_ (some 29) rfl rfl Tryd.func73 (by kernel_rfl) rfl #[.int .i64 t514, .int .i64 t515, .int .i64 (wrap64 (-t517)), .int .i64 (wrap64 (-t516))] rfl (by (try simp only [List.map_toArray, List.map_cons, List.map_nil]); first | done | rfl | (simp only [List.length_drop, List.length_take]; rfl)) ?_; (with_reducible refine (num_product.calls k t514 t515 (wrap64 (-t517)) (wrap64 (-t516)) t518 t519 t520 _ A22.out).mono ?_); rintro e w38 ⟨rfl, hb⟩; refine ⟨_, rfl, ?_⟩; have n0_ : Aside0 (Boxes w.heap.size _ (_ :: (gb512, 23, #[.int .i64 t516, .int .i64 t517]) :: (gb511, 23, #[.int .i64 t514, .int .i64 t515]) :: _)) := ⟨Boxes.below (by (with_reducible repeat (first | apply boxes_drewN | apply boxes_drew | apply boxes_alloc)); apply boxes_put 1; (with_reducible repeat (first | apply boxes_drewN | apply boxes_drew | apply boxes_alloc)); apply boxes_put 1; (with_reducible repeat (first | apply boxes_drewN | apply boxes_drew | apply boxes_alloc)); apply boxes_put 2; (with_reducible repeat (first | apply boxes_drewN | apply boxes_drew | apply boxes_alloc)); apply boxes_put 2; (with_reducible repeat (first | apply boxes_drewN | apply boxes_drew | apply boxes_alloc)); exact BX.out; any_goals rfl) hb⟩; have n1_ := Aside0.mk (below_step (by repeat (first | (with_reducible first | exact HB.out | apply below_alloc | apply pw_below_drewN | apply below_drew1 | refine below_set ?_ (Aside0.out (by assumption))) | exact HB.out)) hb); clear BX HB; have BX := n0_; have HB := n1_; clear n0_ n1_; (try clear hb); (try clear hb2); (try clear hk); (try clear hi); have hcz39_0 : w38.cell? ⟨gb513, 0, none⟩ = some (.int .i64 0) := (blk_cell (BX.out.get 0 rfl) 0).trans rfl; have hcz39_1 : w38.cell? ⟨gb513, 1, none⟩ = some (.int .i64 0) := (blk_cell (BX.out.get 0 rfl) 1).trans rfl; have hfz39_0 := blk_frozen (BX.out.get 0 rfl) 0; have hfz39_1 := blk_frozen (BX.out.get 0 rfl) 1))
   refine bodyPost_ret (results_ct rfl _ _ gb513 23 #[.int .i64 t518, .int .i64 t519] (0, 0) _ rfl (by (with_reducible repeat (first | refine blk_drewN ?_ _ | refine blk_drew ?_ | refine blk_alloc ?_ _)); refine blk_put (cs := #[.int .i64 t518, .int .i64 0]) ?_ 1 _ rfl; (with_reducible repeat (first | refine blk_drewN ?_ _ | refine blk_drew ?_ | refine blk_alloc ?_ _)); refine blk_put (cs := #[.int .i64 0, .int .i64 0]) ?_ 0 _ rfl; (with_reducible repeat (first | refine blk_drewN ?_ _ | refine blk_drew ?_ | refine blk_alloc ?_ _)); exact (BX.out.get 0 rfl)) Tryd.underlying23 rfl (by kernel_rfl)) rfl ?_
   exact ⟨by first | rfl | (simp [errW_none, errW_some] <;> rfl) | (simp [*, errW_none, errW_some] <;> rfl), by repeat (first | (with_reducible first | exact HB.out | apply below_alloc | apply pw_below_drewN | apply below_drew1 | refine below_set ?_ (Aside0.out (by assumption))) | exact HB.out)⟩
  ·rw [if_neg c21] at H
   have c21b0 : decide (t516 < 0) = false := decide_eq_false c21
   clear c21
   replace H := Option.bind_eq_some_iff.mp H
   obtain ⟨⟨t521, t522, t523⟩, A400, H⟩ := H
   replace H : (some (t521, t522, t523)) = some (r1, r2, r3) := H
   have A40 := Aside0.mk A400
   clear A400
   simp only [Option.some.injEq, Prod.mk.injEq] at H
   obtain ⟨rfl, rfl, rfl⟩ := H
   go_enter Tryd.func41, Tryd.ntmps41
   try go_wp2_with (first | ((with_reducible refine gate_dst (N := 2) rfl ?_); refine box_event ?hg (N := 2) ?hd (cs := #[.int .i64 a0_0, .int .i64 a0_1]) (t := 23) ?hr ?_; (case hd => rfl); (case hg => rfl); (case hr => first | (go_simp; done) | (go_simp; rfl)); intro gb511 hg w41 hbox hb; have n0_ := Aside0.mk (Boxes.new (b := w.heap.size) (L := []) trivial hg hbox hb (below_size (by repeat (first | (with_reducible first | exact HB.out | apply below_alloc | apply pw_below_drewN | apply below_drew1 | refine below_set ?_ (Aside0.out (by assumption))) | exact HB.out)))); have n1_ := Aside0.mk (below_step (by repeat (first | (with_reducible first | exact HB.out | apply below_alloc | apply pw_below_drewN | apply below_drew1 | refine below_set ?_ (Aside0.out (by assumption))) | exact HB.out)) hb); have n2_ := Aside0.mk ((by rw [hg]; exact (below_size (by repeat (first | (with_reducible first | exact HB.out | apply below_alloc | apply pw_below_drewN | apply below_drew1 | refine below_set ?_ (Aside0.out (by assumption))) | exact HB.out))) : w.heap.size ≤ gb511)); clear HB; have BX := n0_; have HB := n1_; have GE511 := n2_; clear n0_ n1_ n2_; clear hb hbox hg) | ((with_reducible refine gate_dst (N := 3) rfl ?_); refine box_event ?hg (N := 3) ?hd (cs := #[.int .i64 a1_0, .int .i64 a1_1]) (t := 23) ?hr ?_; (case hd => rfl); (case hg => rfl); (case hr => first | (go_simp; done) | (go_simp; rfl)); intro gb512 hg w42 hbox hb; have n0_ := Aside0.mk (Boxes.new (by (with_reducible repeat (first | apply boxes_drewN | apply boxes_drew | apply boxes_alloc)); exact BX.out) hg hbox hb (below_size (by repeat (first | (with_reducible first | exact HB.out | apply below_alloc | apply pw_below_drewN | apply below_drew1 | refine below_set ?_ (Aside0.out (by assumption))) | exact HB.out)))); have n1_ := Aside0.mk (below_step (by repeat (first | (with_reducible first | exact HB.out | apply below_alloc | apply pw_below_drewN | apply below_drew1 | refine below_set ?_ (Aside0.out (by assumption))) | exact HB.out)) hb); have n2_ := Aside0.mk ((by rw [hg]; exact (below_size (by repeat (first | (with_reducible first | exact HB.out | apply below_alloc | apply pw_below_drewN | apply below_drew1 | refine below_set ?_ (Aside0.out (by assumption))) | exact HB.out))) : w.heap.size ≤ gb512)); clear BX HB; have BX := n0_; have HB := n1_; have GE512 := n2_; clear n0_ n1_ n2_; clear hb hbox hg) | ((with_reducible refine gate_dst (N := 4) rfl ?_); refine box_event ?hg (N := 4) ?hd (cs := #[.int .i64 0, .int .i64 0]) (t := 23) ?hr ?_; (case hd => rfl); (case hg => rfl); (case hr => first | (go_simp; done) | (go_simp; rfl)); intro gb513 hg w43 hbox hb; have n0_ := Aside0.mk (Boxes.new (by (with_reducible repeat (first | apply boxes_drewN | apply boxes_drew | apply boxes_alloc)); exact BX.out) hg hbox hb (below_size (by repeat (first | (with_reducible first | exact HB.out | apply below_alloc | apply pw_below_drewN | apply below_drew1 | refine below_set ?_ (Aside0.out (by assumption))) | exact HB.out)))); have n1_ := Aside0.mk (below_step (by repeat (first | (with_reducible first | exact HB.out | apply below_alloc | apply pw_below_drewN | apply below_drew1 | refine below_set ?_ (Aside0.out (by assumption))) | exact HB.out)) hb); have n2_ := Aside0.mk ((by rw [hg]; exact (below_size (by repeat (first | (with_reducible first | exact HB.out | apply below_alloc | apply pw_below_drewN | apply below_drew1 | refine below_set ?_ (Aside0.out (by assumption))) | exact HB.out))) : w.heap.size ≤ gb513)); clear BX HB; have BX := n0_; have HB := n1_; have GE513 := n2_; clear n0_ n1_ n2_; clear hb hbox hg))
   have n0_ := Aside0.mk (boxes_drew BX.out)
   have n1_ := Aside0.mk (below_drew1 HB.out)
   clear BX HB
   have BX := n0_
   have HB := n1_
   clear n0_ n1_
   refine start_ (n := 6) (S := fun w' => w'.cell? ⟨gb511, 0, none⟩ = some (.int .i64 a0_0) ∧ w'.cell? ⟨gb511, 1, none⟩ = some (.int .i64 a0_1) ∧ w'.cell? ⟨gb512, 0, none⟩ = some (.int .i64 a1_0) ∧ w'.cell? ⟨gb512, 1, none⟩ = some (.int .i64 a1_1)) (ds := [4, 5]) #[false, false, false, false, false, false] (by kernel_rfl) rfl rfl ⟨(blk_cell (BX.out.get 2 rfl) 0).trans rfl, (blk_cell (BX.out.get 2 rfl) 1).trans rfl, (blk_cell (BX.out.get 1 rfl) 0).trans rfl, (blk_cell (BX.out.get 1 rfl) 1).trans rfl⟩ (fun hHeld => ?_)
   generalize w43.drew = w44 at BX HB hHeld ⊢
   refine take_ (i := 0) (N := some 6) (v := ?_) (a' := ?_) #[true, false, false, false, false, false] rfl rfl (by kernel_rfl) (fun _ _ _ h => h) (Or.inl ⟨by rfl, ?_⟩) hHeld ?_ ?_
   rotate_left
   ·rintro w' ⟨s0, s1, s2, s3⟩
    go_simp
    with_reducible rfl
   rotate_left
   ·simp only [Act.put, List.setIfInBounds_toArray, List.set_cons_zero, List.set_cons_succ, i64_w, i32_w]
    rfl
   refine take_ (i := 2) (N := some 8) (v := ?_) (a' := ?_) #[true, false, true, false, false, false] rfl rfl (by kernel_rfl) (fun _ _ _ h => h) (Or.inl ⟨by rfl, ?_⟩) hHeld ?_ ?_
   rotate_left
   ·rintro w' ⟨s0, s1, s2, s3⟩
    go_simp
    with_reducible rfl
   rotate_left
   ·simp only [Act.put, List.setIfInBounds_toArray, List.set_cons_zero, List.set_cons_succ, i64_w, i32_w]
    rfl
   refine one_ (i := 1) (N := some 7) #[true, true, true, false, false, false] rfl rfl (by kernel_rfl) (by decide) (fun K hK => ?_)
   refine goes_ Tryd.func63 (by kernel_rfl) rfl #[.agg #[.int .i64 a0_0, .int .i64 a0_1]] (by rfl) rfl rfl (by (try simp only [List.map_toArray, List.map_cons, List.map_nil]); first | done | rfl | (simp only [List.length_drop, List.length_take]; rfl)) ?_
   with_reducible refine (num_taken.calls k a0_0 a0_1 t514 t515 _ A3.out).mono ?_
   rintro e w45 ⟨rfl, hb⟩
   refine ⟨_, rfl, ?_⟩
   have n0_ := Aside0.mk (Boxes.below (by (with_reducible repeat (first | apply boxes_drewN | apply boxes_drew | apply boxes_alloc)); exact BX.out) hb)
   have n1_ := Aside0.mk (below_step (by repeat (first | (with_reducible first | exact HB.out | apply below_alloc | apply pw_below_drewN | apply below_drew1 | refine below_set ?_ (Aside0.out (by assumption))) | exact HB.out)) hb)
   clear BX HB
   have BX := n0_
   have HB := n1_
   clear n0_ n1_
   (try clear hb)
   (try clear hb2)
   (try clear hk)
   (try clear hi)
   refine hK.out _ _ ⟨(blk_cell (BX.out.get 2 rfl) 0).trans rfl, (blk_cell (BX.out.get 2 rfl) 1).trans rfl, (blk_cell (BX.out.get 1 rfl) 0).trans rfl, (blk_cell (BX.out.get 1 rfl) 1).trans rfl⟩ (fun hHeld => ?_)
   clear hK K
   refine norm_ (a' := ?_) ?_ ?_
   rotate_left
   ·show Act.put _ (some 7) _ = _
    simp only [Act.put, List.setIfInBounds_toArray, List.set_cons_zero, List.set_cons_succ, i64_w, i32_w]
    rfl
   refine one_ (i := 3) (N := some 9) #[true, true, true, true, false, false] rfl rfl (by kernel_rfl) (by decide) (fun K hK => ?_)
   refine goes_ Tryd.func63 (by kernel_rfl) rfl #[.agg #[.int .i64 a1_0, .int .i64 a1_1]] (by rfl) rfl rfl (by (try simp only [List.map_toArray, List.map_cons, List.map_nil]); first | done | rfl | (simp only [List.length_drop, List.length_take]; rfl)) ?_
   with_reducible refine (num_taken.calls k a1_0 a1_1 t516 t517 _ A4.out).mono ?_
   rintro e w46 ⟨rfl, hb⟩
   refine ⟨_, rfl, ?_⟩
   have n0_ := Aside0.mk (Boxes.below (by (with_reducible repeat (first | apply boxes_drewN | apply boxes_drew | apply boxes_alloc)); exact BX.out) hb)
   have n1_ := Aside0.mk (below_step (by repeat (first | (with_reducible first | exact HB.out | apply below_alloc | apply pw_below_drewN | apply below_drew1 | refine below_set ?_ (Aside0.out (by assumption))) | exact HB.out)) hb)
   clear BX HB
   have BX := n0_
   have HB := n1_
   clear n0_ n1_
   (try clear hb)
   (try clear hb2)
   (try clear hk)
   (try clear hi)
   refine hK.out _ _ ⟨(blk_cell (BX.out.get 2 rfl) 0).trans rfl, (blk_cell (BX.out.get 2 rfl) 1).trans rfl, (blk_cell (BX.out.get 1 rfl) 0).trans rfl, (blk_cell (BX.out.get 1 rfl) 1).trans rfl⟩ (fun hHeld => ?_)
   clear hK K
   refine norm_ (a' := ?_) ?_ ?_
   rotate_left
   ·show Act.put _ (some 9) _ = _
    simp only [Act.put, List.setIfInBounds_toArray, List.set_cons_zero, List.set_cons_succ, i64_w, i32_w]
    rfl
   refine last_ (i := 4) (N := none) #[true, true, true, true, true, false] rfl rfl (by kernel_rfl) (by decide) (fun K hK => ?_)
   have hs47 : w46.cell? ⟨gb511, 0, none⟩ = some (.int .i64 a0_0) := (blk_cell (BX.out.get 2 rfl) 0).trans rfl
   have hfs47 := blk_frozen (BX.out.get 2 rfl) 0
   obtain ⟨⟨hms47_2, hns47_2⟩, ⟨hms47_1, hns47_1⟩, -⟩ := BX.out.apart 2 rfl
   have hs48 : w46.cell? ⟨gb511, 1, none⟩ = some (.int .i64 a0_1) := (blk_cell (BX.out.get 2 rfl) 1).trans rfl
   have hfs48 := blk_frozen (BX.out.get 2 rfl) 1
   obtain ⟨⟨hms48_2, hns48_2⟩, ⟨hms48_1, hns48_1⟩, -⟩ := BX.out.apart 2 rfl
   refine skip_ (w1 := ?_) (by rfl) rfl ?_ ?_
   rotate_left
   ·go_simp
    rfl
   refine hK.out _ _ ?_
   clear hK K
   refine last_ (i := 5) (N := none) #[true, true, true, true, true, true] rfl rfl (by kernel_rfl) (by decide) (fun K hK => ?_)
   have hs49 : w46.cell? ⟨gb512, 0, none⟩ = some (.int .i64 a1_0) := (blk_cell (BX.out.get 1 rfl) 0).trans rfl
   have hfs49 := blk_frozen (BX.out.get 1 rfl) 0
   obtain ⟨⟨hms49_2, hns49_2⟩, ⟨hms49_0, hns49_0⟩, -⟩ := BX.out.apart 1 rfl
   have hs50 : w46.cell? ⟨gb512, 1, none⟩ = some (.int .i64 a1_1) := (blk_cell (BX.out.get 1 rfl) 1).trans rfl
   have hfs50 := blk_frozen (BX.out.get 1 rfl) 1
   obtain ⟨⟨hms50_2, hns50_2⟩, ⟨hms50_0, hns50_0⟩, -⟩ := BX.out.apart 1 rfl
   refine skip_ (w1 := ?_) (by rfl) rfl ?_ ?_
   rotate_left
   ·go_simp
    rfl
   refine hK.out _ _ ?_
   clear hK K
   refine done_ (by kernel_rfl) ?_
   obtain ⟨⟨hnb52, hnc52⟩, ⟨hnb51, hnc51⟩, -⟩ := BX.out.apart 1 rfl
   have hcz53_0 : w46.cell? ⟨gb512, 0, none⟩ = some (.int .i64 a1_0) := (blk_cell (BX.out.get 1 rfl) 0).trans rfl
   have hcz53_1 : w46.cell? ⟨gb512, 1, none⟩ = some (.int .i64 a1_1) := (blk_cell (BX.out.get 1 rfl) 1).trans rfl
   have hfz53_0 := blk_frozen (BX.out.get 1 rfl) 0
   have hfz53_1 := blk_frozen (BX.out.get 1 rfl) 1
   obtain ⟨-, ⟨hnc54, hnb54⟩, -⟩ := BX.out.apart 0 rfl
   have hcz55_0 : w46.cell? ⟨gb511, 0, none⟩ = some (.int .i64 a0_0) := (blk_cell (BX.out.get 2 rfl) 0).trans rfl
   have hcz55_1 : w46.cell? ⟨gb511, 1, none⟩ = some (.int .i64 a0_1) := (blk_cell (BX.out.get 2 rfl) 1).trans rfl
   have hfz55_0 := blk_frozen (BX.out.get 2 rfl) 0
   have hfz55_1 := blk_frozen (BX.out.get 2 rfl) 1
   try go_wp2_with (first | ((with_reducible refine gate_callee (f := 73) rfl ?_); refine goesL_ (some 40) rfl rfl Tryd.func73 (by kernel_rfl) rfl #[.int .i64 t514, .int .i64 t515, .int .i64 t517, .int .i64 t516] rfl (by (try simp only [List.map_toArray, List.map_cons, List.map_nil]); first | done | rfl | (simp only [List.length_drop, List.length_take]; rfl)) ?_; (with_reducible refine (num_product.calls k t514 t515 t517 t516 t521 t522 t523 _ A40.out).mono ?_); rintro e w56 ⟨rfl, hb⟩; refine ⟨_, rfl, ?_⟩; have n0_ : Aside0 (Boxes w.heap.size _ (_ :: (gb512, 23, #[.int .i64 t516, .int .i64 t517]) :: (gb511, 23, #[.int .i64 t514, .int .i64 t515]) :: _)) := ⟨Boxes.below (by (with_reducible repeat (first | apply boxes_drewN | apply boxes_drew | apply boxes_alloc)); apply boxes_put 1; (with_reducible repeat (first | apply boxes_drewN | apply boxes_drew | apply boxes_alloc)); apply boxes_put 1; (with_reducible repeat (first | apply boxes_drewN | apply boxes_drew | apply boxes_alloc)); apply boxes_put 2; (with_reducible repeat (first | apply boxes_drewN | apply boxes_drew | apply boxes_alloc)); apply boxes_put 2; (with_reducible repeat (first | apply boxes_drewN | apply boxes_drew | apply boxes_alloc)); exact BX.out; any_goals rfl) hb⟩; have n1_ := Aside0.mk (below_step (by repeat (first | (with_reducible first | exact HB.out | apply below_alloc | apply pw_below_drewN | apply below_drew1 | refine below_set ?_ (Aside0.out (by assumption))) | exact HB.out)) hb); clear BX HB; have BX := n0_; have HB := n1_; clear n0_ n1_; (try clear hb); (try clear hb2); (try clear hk); (try clear hi); have hcz57_0 : w56.cell? ⟨gb513, 0, none⟩ = some (.int .i64 0) := (blk_cell (BX.out.get 0 rfl) 0).trans rfl; have hcz57_1 : w56.cell? ⟨gb513, 1, none⟩ = some (.int .i64 0) := (blk_cell (BX.out.get 0 rfl) 1).trans rfl; have hfz57_0 := blk_frozen (BX.out.get 0 rfl) 0; have hfz57_1 := blk_frozen (BX.out.get 0 rfl) 1))
   refine bodyPost_ret (results_ct rfl _ _ gb513 23 #[.int .i64 t521, .int .i64 t522] (0, 0) _ rfl (by (with_reducible repeat (first | refine blk_drewN ?_ _ | refine blk_drew ?_ | refine blk_alloc ?_ _)); refine blk_put (cs := #[.int .i64 t521, .int .i64 0]) ?_ 1 _ rfl; (with_reducible repeat (first | refine blk_drewN ?_ _ | refine blk_drew ?_ | refine blk_alloc ?_ _)); refine blk_put (cs := #[.int .i64 0, .int .i64 0]) ?_ 0 _ rfl; (with_reducible repeat (first | refine blk_drewN ?_ _ | refine blk_drew ?_ | refine blk_alloc ?_ _)); exact (BX.out.get 0 rfl)) Tryd.underlying23 rfl (by kernel_rfl)) rfl ?_
   exact ⟨by first | rfl | (simp [errW_none, errW_some] <;> rfl) | (simp [*, errW_none, errW_some] <;> rfl), by repeat (first | (with_reducible first | exact HB.out | apply below_alloc | apply pw_below_drewN | apply below_drew1 | refine below_set ?_ (Aside0.out (by assumption))) | exact HB.out)⟩

end Go.Proofs.YtlcjfabbnclalaaDoor.F
