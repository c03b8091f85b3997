-- Laid by program (wip/tools/gen.sh of this repo) out of the translation; Lean checks it.
import Derived.Test.YtlcjfabbnclalaaDoorF0
import Derived.Test.YtlcjfabbnclalaaDoorB0
import Derived.Test.YtlcjfabbnclalaaDoorF2
namespace Go.Proofs.YtlcjfabbnclalaaDoor.F
open Go.RowKit Go.Proofs.YtlcjfabbnclalaaDoorW.PrintWords Go.Proofs.YtlcjfabbnclalaaDoorW.PrintLast Go.Proofs.YtlcjfabbnclalaaDoorW.PrintMore
attribute [local go_sem] max2_int min2_int max_two min_two max_three min_three max_four min_four   -- for this text's walks alone
set_option linter.unusedVariables false
set_option linter.unusedSimpArgs false

/-! ### num_Mod: function 49 -/
def num_Mod.f (k : Nat) (a0_0 : Int) (a0_1 : Int) (a1_0 : Int) (a1_1 : Int) : Option (Int × Int × Bool) := (num_taken.f k a0_0 a0_1).bind fun bt681 => ((num_taken.f k a1_0 a1_1).bind fun bt683 => (if bt683.1 = 0 then (some (0, 0, false)) else (if (wrap64 (bt683.1 * bt681.2)) = 0 then (none) else (if (Int.tmod (wrap64 (bt681.1 * bt683.2)) (wrap64 (bt683.1 * bt681.2))) = 0 then ((num_Make.f k (Int.tmod (wrap64 (bt681.1 * bt683.2)) (wrap64 (bt683.1 * bt681.2))) (wrap64 (bt681.2 * bt683.2))).bind fun bt685 => (some (bt685.1, bt685.2.1, bt685.2.2))) else (if ((decide ((Int.tmod (wrap64 (bt681.1 * bt683.2)) (wrap64 (bt683.1 * bt681.2))) < 0)) != (decide ((wrap64 (bt683.1 * bt681.2)) < 0))) = true then ((num_Make.f k (wrap64 ((Int.tmod (wrap64 (bt681.1 * bt683.2)) (wrap64 (bt683.1 * bt681.2))) + (wrap64 (bt683.1 * bt681.2)))) (wrap64 (bt681.2 * bt683.2))).bind fun bt688 => (some (bt688.1, bt688.2.1, bt688.2.2))) else ((num_Make.f k (Int.tmod (wrap64 (bt681.1 * bt683.2)) (wrap64 (bt683.1 * bt681.2))) (wrap64 (bt681.2 * bt683.2))).bind fun bt691 => (some (bt691.1, bt691.2.1, bt691.2.2))))))))
theorem num_Mod.mono : ∀ a0 a1 a2 a3 k, LeO (num_Mod.f k a0 a1 a2 a3) (num_Mod.f (k + 1) a0 a1 a2 a3) := by
 intro a0 a1 a2 a3 k
 unfold num_Mod.f
 repeat' first
   | (with_reducible exact num_Make.mono _ _ _)
   | (with_reducible exact num_taken.mono _ _ _)
   | (with_reducible exact LeO.refl _)
   | (with_reducible exact LeO.none _)
   | (with_reducible refine LeO.ite ?_ ?_)
   | (with_reducible refine LeO.bind ?_ (fun _ => ?_))
   | exact num_Make.mono _ _ _
   | exact num_taken.mono _ _ _
   | exact LeO.none _
   | refine LeO.ite ?_ ?_
   | refine LeO.bind ?_ (fun _ => ?_)
def num_Mod.T4 : Bool × List (List Nat × List Nat) := (true, [([], []), ([0], [0]), ([], []), ([2], [2]), ([1, 3], [1, 3]), ([], []), ([5], [5]), ([], []), ([7], [7]), ([6, 8], [6, 8]), ([4, 0, 1, 2, 3, 4], [4]), ([9, 10, 0, 1, 2, 3, 4, 5, 6, 7, 8, 9, 10], [9])])
def num_Mod.B4 : List Nat := [0, 1, 0, 4, 15, 0, 32, 0, 128, 480, 31, 2047]
theorem num_Mod.tab4 : rtab .any (opsOf Tryd.f49 4) = num_Mod.T4 := by kernel_rfl
theorem num_Mod.bits4 : waitsOk num_Mod.T4.2 num_Mod.B4 = true := by kernel_rfl
set_option maxHeartbeats 8000000 in
set_option maxRecDepth 100000 in
theorem num_Mod.calls (k : Nat) (a0_0 : Int) (a0_1 : Int) (a1_0 : Int) (a1_1 : Int) (r1 : Int) (r2 : Int) (r3 : Bool) (w : World) (h : num_Mod.f k a0_0 a0_1 a1_0 a1_1 = some (r1, r2, r3)) :
  Calls Tryd.prog 49 #[.agg #[.int .i64 a0_0, .int .i64 a0_1], .agg #[.int .i64 a1_0, .int .i64 a1_1]] w fun e w' => e = .returned (.tuple #[.agg #[.int .i64 r1, .int .i64 r2], .bool r3]) ∧ Below w.heap.size w w' := by
 have hu23 := Tryd.underlying23
 have HB := Aside0.mk (Below.refl w.heap.size w)
 have H : ((num_taken.f k a0_0 a0_1).bind fun bt681 => ((num_taken.f k a1_0 a1_1).bind fun bt683 => (if bt683.1 = 0 then (some (0, 0, false)) else (if (wrap64 (bt683.1 * bt681.2)) = 0 then (none) else (if (Int.tmod (wrap64 (bt681.1 * bt683.2)) (wrap64 (bt683.1 * bt681.2))) = 0 then ((num_Make.f k (Int.tmod (wrap64 (bt681.1 * bt683.2)) (wrap64 (bt683.1 * bt681.2))) (wrap64 (bt681.2 * bt683.2))).bind fun bt685 => (some (bt685.1, bt685.2.1, bt685.2.2))) else (if ((decide ((Int.tmod (wrap64 (bt681.1 * bt683.2)) (wrap64 (bt683.1 * bt681.2))) < 0)) != (decide ((wrap64 (bt683.1 * bt681.2)) < 0))) = true then ((num_Make.f k (wrap64 ((Int.tmod (wrap64 (bt681.1 * bt683.2)) (wrap64 (bt683.1 * bt681.2))) + (wrap64 (bt683.1 * bt681.2)))) (wrap64 (bt681.2 * bt683.2))).bind fun bt688 => (some (bt688.1, bt688.2.1, bt688.2.2))) else ((num_Make.f k (Int.tmod (wrap64 (bt681.1 * bt683.2)) (wrap64 (bt683.1 * bt681.2))) (wrap64 (bt681.2 * bt683.2))).bind fun bt691 => (some (bt691.1, bt691.2.1, bt691.2.2))))))))) = some (r1, r2, r3) := h
 clear h
 replace H := Option.bind_eq_some_iff.mp H
 obtain ⟨⟨t681, t682⟩, A30, H⟩ := H
 have A3 := Aside0.mk A30
 clear A30
 replace H := Option.bind_eq_some_iff.mp H
 obtain ⟨⟨t683, t684⟩, A40, H⟩ := H
 replace H : (if t683 = 0 then (some (0, 0, false)) else (if (wrap64 (t683 * t682)) = 0 then (none) else (if (Int.tmod (wrap64 (t681 * t684)) (wrap64 (t683 * t682))) = 0 then ((num_Make.f k (Int.tmod (wrap64 (t681 * t684)) (wrap64 (t683 * t682))) (wrap64 (t682 * t684))).bind fun bt685 => (some (bt685.1, bt685.2.1, bt685.2.2))) else (if ((decide ((Int.tmod (wrap64 (t681 * t684)) (wrap64 (t683 * t682))) < 0)) != (decide ((wrap64 (t683 * t682)) < 0))) = true then ((num_Make.f k (wrap64 ((Int.tmod (wrap64 (t681 * t684)) (wrap64 (t683 * t682))) + (wrap64 (t683 * t682)))) (wrap64 (t682 * t684))).bind fun bt688 => (some (bt688.1, bt688.2.1, bt688.2.2))) else ((num_Make.f k (Int.tmod (wrap64 (t681 * t684)) (wrap64 (t683 * t682))) (wrap64 (t682 * t684))).bind fun bt691 => (some (bt691.1, bt691.2.1, bt691.2.2))))))) = some (r1, r2, r3) := H
 have A4 := Aside0.mk A40
 clear A40
 by_cases c5 : t683 = 0
 ·rw [if_pos c5] at H
  have c5b0 : (t683 == 0) = true := beq_iff_eq.mpr c5
  have c5b1 : (t683 != 0) = false := bne_eq_false_iff_eq.mpr c5
  clear c5
  simp only [Option.some.injEq, Prod.mk.injEq] at H
  obtain ⟨rfl, rfl, rfl⟩ := H
  go_enter Tryd.func49, Tryd.ntmps49
  try go_wp2_with (first | ((with_reducible refine gate_dst (N := 2) rfl ?_); refine box_event ?hg (N := 2) ?hd (cs := #[.int .i64 a0_0, .int .i64 a0_1]) (t := 23) ?hr ?_; (case hd => rfl); (case hg => rfl); (case hr => first | (go_simp; done) | (go_simp; rfl)); intro gb678 hg w6 hbox hb; have n0_ := Aside0.mk (Boxes.new (b := w.heap.size) (L := []) trivial hg hbox hb (below_size (by repeat (first | (with_reducible first | exact HB.out | apply below_alloc | apply pw_below_drewN | apply below_drew1 | refine below_set ?_ (Aside0.out (by assumption))) | exact HB.out)))); have n1_ := Aside0.mk (below_step (by repeat (first | (with_reducible first | exact HB.out | apply below_alloc | apply pw_below_drewN | apply below_drew1 | refine below_set ?_ (Aside0.out (by assumption))) | exact HB.out)) hb); have n2_ := Aside0.mk ((by rw [hg]; exact (below_size (by repeat (first | (with_reducible first | exact HB.out | apply below_alloc | apply pw_below_drewN | apply below_drew1 | refine below_set ?_ (Aside0.out (by assumption))) | exact HB.out))) : w.heap.size ≤ gb678)); clear HB; have BX := n0_; have HB := n1_; have GE678 := n2_; clear n0_ n1_ n2_; clear hb hbox hg) | ((with_reducible refine gate_dst (N := 3) rfl ?_); refine box_event ?hg (N := 3) ?hd (cs := #[.int .i64 a1_0, .int .i64 a1_1]) (t := 23) ?hr ?_; (case hd => rfl); (case hg => rfl); (case hr => first | (go_simp; done) | (go_simp; rfl)); intro gb679 hg w7 hbox hb; have n0_ := Aside0.mk (Boxes.new (by (with_reducible repeat (first | apply boxes_drewN | apply boxes_drew | apply boxes_alloc)); exact BX.out) hg hbox hb (below_size (by repeat (first | (with_reducible first | exact HB.out | apply below_alloc | apply pw_below_drewN | apply below_drew1 | refine below_set ?_ (Aside0.out (by assumption))) | exact HB.out)))); have n1_ := Aside0.mk (below_step (by repeat (first | (with_reducible first | exact HB.out | apply below_alloc | apply pw_below_drewN | apply below_drew1 | refine below_set ?_ (Aside0.out (by assumption))) | exact HB.out)) hb); have n2_ := Aside0.mk ((by rw [hg]; exact (below_size (by repeat (first | (with_reducible first | exact HB.out | apply below_alloc | apply pw_below_drewN | apply below_drew1 | refine below_set ?_ (Aside0.out (by assumption))) | exact HB.out))) : w.heap.size ≤ gb679)); clear BX HB; have BX := n0_; have HB := n1_; have GE679 := n2_; clear n0_ n1_ n2_; clear hb hbox hg) | ((with_reducible refine gate_dst (N := 4) rfl ?_); refine box_event ?hg (N := 4) ?hd (cs := #[.int .i64 0, .int .i64 0]) (t := 23) ?hr ?_; (case hd => rfl); (case hg => rfl); (case hr => first | (go_simp; done) | (go_simp; rfl)); intro gb680 hg w8 hbox hb; have n0_ := Aside0.mk (Boxes.new (by (with_reducible repeat (first | apply boxes_drewN | apply boxes_drew | apply boxes_alloc)); exact BX.out) hg hbox hb (below_size (by repeat (first | (with_reducible first | exact HB.out | apply below_alloc | apply pw_below_drewN | apply below_drew1 | refine below_set ?_ (Aside0.out (by assumption))) | exact HB.out)))); have n1_ := Aside0.mk (below_step (by repeat (first | (with_reducible first | exact HB.out | apply below_alloc | apply pw_below_drewN | apply below_drew1 | refine below_set ?_ (Aside0.out (by assumption))) | exact HB.out)) hb); have n2_ := Aside0.mk ((by rw [hg]; exact (below_size (by repeat (first | (with_reducible first | exact HB.out | apply below_alloc | apply pw_below_drewN | apply below_drew1 | refine below_set ?_ (Aside0.out (by assumption))) | exact HB.out))) : w.heap.size ≤ gb680)); clear BX HB; have BX := n0_; have HB := n1_; have GE680 := n2_; clear n0_ n1_ n2_; clear hb hbox hg))
  have n0_ := Aside0.mk (boxes_drew BX.out)
  have n1_ := Aside0.mk (below_drew1 HB.out)
  clear BX HB
  have BX := n0_
  have HB := n1_
  clear n0_ n1_
  refine start_ (n := 6) (S := fun w' => w'.cell? ⟨gb678, 0, none⟩ = some (.int .i64 a0_0) ∧ w'.cell? ⟨gb678, 1, none⟩ = some (.int .i64 a0_1) ∧ w'.cell? ⟨gb679, 0, none⟩ = some (.int .i64 a1_0) ∧ w'.cell? ⟨gb679, 1, none⟩ = some (.int .i64 a1_1)) (ds := [4, 5]) #[false, false, false, false, false, false] (by kernel_rfl) rfl rfl ⟨(blk_cell (BX.out.get 2 rfl) 0).trans rfl, (blk_cell (BX.out.get 2 rfl) 1).trans rfl, (blk_cell (BX.out.get 1 rfl) 0).trans rfl, (blk_cell (BX.out.get 1 rfl) 1).trans rfl⟩ (fun hHeld => ?_)
  generalize w8.drew = w9 at BX HB hHeld ⊢
  refine take_ (i := 0) (N := some 9) (v := ?_) (a' := ?_) #[true, false, false, false, false, false] rfl rfl (by kernel_rfl) (fun _ _ _ h => h) (Or.inl ⟨by rfl, ?_⟩) hHeld ?_ ?_
  rotate_left
  ·rintro w' ⟨s0, s1, s2, s3⟩
   go_simp
   with_reducible rfl
  rotate_left
  ·simp only [Act.put, List.setIfInBounds_toArray, List.set_cons_zero, List.set_cons_succ, i64_w, i32_w]
   rfl
  refine take_ (i := 2) (N := some 11) (v := ?_) (a' := ?_) #[true, false, true, false, false, false] rfl rfl (by kernel_rfl) (fun _ _ _ h => h) (Or.inl ⟨by rfl, ?_⟩) hHeld ?_ ?_
  rotate_left
  ·rintro w' ⟨s0, s1, s2, s3⟩
   go_simp
   with_reducible rfl
  rotate_left
  ·simp only [Act.put, List.setIfInBounds_toArray, List.set_cons_zero, List.set_cons_succ, i64_w, i32_w]
   rfl
  refine one_ (i := 1) (N := some 10) #[true, true, true, false, false, false] rfl rfl (by kernel_rfl) (by decide) (fun K hK => ?_)
  refine goes_ Tryd.func63 (by kernel_rfl) rfl #[.agg #[.int .i64 a0_0, .int .i64 a0_1]] (by rfl) rfl rfl (by (try simp only [List.map_toArray, List.map_cons, List.map_nil]); first | done | rfl | (simp only [List.length_drop, List.length_take]; rfl)) ?_
  with_reducible refine (num_taken.calls k a0_0 a0_1 t681 t682 _ A3.out).mono ?_
  rintro e w10 ⟨rfl, hb⟩
  refine ⟨_, rfl, ?_⟩
  have n0_ := Aside0.mk (Boxes.below (by (with_reducible repeat (first | apply boxes_drewN | apply boxes_drew | apply boxes_alloc)); exact BX.out) hb)
  have n1_ := Aside0.mk (below_step (by repeat (first | (with_reducible first | exact HB.out | apply below_alloc | apply pw_below_drewN | apply below_drew1 | refine below_set ?_ (Aside0.out (by assumption))) | exact HB.out)) hb)
  clear BX HB
  have BX := n0_
  have HB := n1_
  clear n0_ n1_
  (try clear hb)
  (try clear hb2)
  (try clear hk)
  (try clear hi)
  refine hK.out _ _ ⟨(blk_cell (BX.out.get 2 rfl) 0).trans rfl, (blk_cell (BX.out.get 2 rfl) 1).trans rfl, (blk_cell (BX.out.get 1 rfl) 0).trans rfl, (blk_cell (BX.out.get 1 rfl) 1).trans rfl⟩ (fun hHeld => ?_)
  clear hK K
  refine norm_ (a' := ?_) ?_ ?_
  rotate_left
  ·show Act.put _ (some 10) _ = _
   simp only [Act.put, List.setIfInBounds_toArray, List.set_cons_zero, List.set_cons_succ, i64_w, i32_w]
   rfl
  refine one_ (i := 3) (N := some 12) #[true, true, true, true, false, false] rfl rfl (by kernel_rfl) (by decide) (fun K hK => ?_)
  refine goes_ Tryd.func63 (by kernel_rfl) rfl #[.agg #[.int .i64 a1_0, .int .i64 a1_1]] (by rfl) rfl rfl (by (try simp only [List.map_toArray, List.map_cons, List.map_nil]); first | done | rfl | (simp only [List.length_drop, List.length_take]; rfl)) ?_
  with_reducible refine (num_taken.calls k a1_0 a1_1 t683 t684 _ A4.out).mono ?_
  rintro e w11 ⟨rfl, hb⟩
  refine ⟨_, rfl, ?_⟩
  have n0_ := Aside0.mk (Boxes.below (by (with_reducible repeat (first | apply boxes_drewN | apply boxes_drew | apply boxes_alloc)); exact BX.out) hb)
  have n1_ := Aside0.mk (below_step (by repeat (first | (with_reducible first | exact HB.out | apply below_alloc | apply pw_below_drewN | apply below_drew1 | refine below_set ?_ (Aside0.out (by assumption))) | exact HB.out)) hb)
  clear BX HB
  have BX := n0_
  have HB := n1_
  clear n0_ n1_
  (try clear hb)
  (try clear hb2)
  (try clear hk)
  (try clear hi)
  refine hK.out _ _ ⟨(blk_cell (BX.out.get 2 rfl) 0).trans rfl, (blk_cell (BX.out.get 2 rfl) 1).trans rfl, (blk_cell (BX.out.get 1 rfl) 0).trans rfl, (blk_cell (BX.out.get 1 rfl) 1).trans rfl⟩ (fun hHeld => ?_)
  clear hK K
  refine norm_ (a' := ?_) ?_ ?_
  rotate_left
  ·show Act.put _ (some 12) _ = _
   simp only [Act.put, List.setIfInBounds_toArray, List.set_cons_zero, List.set_cons_succ, i64_w, i32_w]
   rfl
  refine last_ (i := 4) (N := none) #[true, true, true, true, true, false] rfl rfl (by kernel_rfl) (by decide) (fun K hK => ?_)
  have hs12 : w11.cell? ⟨gb678, 0, none⟩ = some (.int .i64 a0_0) := (blk_cell (BX.out.get 2 rfl) 0).trans rfl
  have hfs12 := blk_frozen (BX.out.get 2 rfl) 0
  obtain ⟨⟨hms12_2, hns12_2⟩, ⟨hms12_1, hns12_1⟩, -⟩ := BX.out.apart 2 rfl
  have hs13 : w11.cell? ⟨gb678, 1, none⟩ = some (.int .i64 a0_1) := (blk_cell (BX.out.get 2 rfl) 1).trans rfl
  have hfs13 := blk_frozen (BX.out.get 2 rfl) 1
  obtain ⟨⟨hms13_2, hns13_2⟩, ⟨hms13_1, hns13_1⟩, -⟩ := BX.out.apart 2 rfl
  refine skip_ (w1 := ?_) (by rfl) rfl ?_ ?_
  rotate_left
  ·go_simp
   rfl
  refine hK.out _ _ ?_
  clear hK K
  refine last_ (i := 5) (N := none) #[true, true, true, true, true, true] rfl rfl (by kernel_rfl) (by decide) (fun K hK => ?_)
  have hs14 : w11.cell? ⟨gb679, 0, none⟩ = some (.int .i64 a1_0) := (blk_cell (BX.out.get 1 rfl) 0).trans rfl
  have hfs14 := blk_frozen (BX.out.get 1 rfl) 0
  obtain ⟨⟨hms14_2, hns14_2⟩, ⟨hms14_0, hns14_0⟩, -⟩ := BX.out.apart 1 rfl
  have hs15 : w11.cell? ⟨gb679, 1, none⟩ = some (.int .i64 a1_1) := (blk_cell (BX.out.get 1 rfl) 1).trans rfl
  have hfs15 := blk_frozen (BX.out.get 1 rfl) 1
  obtain ⟨⟨hms15_2, hns15_2⟩, ⟨hms15_0, hns15_0⟩, -⟩ := BX.out.apart 1 rfl
  refine skip_ (w1 := ?_) (by rfl) rfl ?_ ?_
  rotate_left
  ·go_simp
   rfl
  refine hK.out _ _ ?_
  clear hK K
  refine done_ (by kernel_rfl) ?_
  obtain ⟨⟨hnb17, hnc17⟩, ⟨hnb16, hnc16⟩, -⟩ := BX.out.apart 1 rfl
  have hcz18_0 : w11.cell? ⟨gb679, 0, none⟩ = some (.int .i64 a1_0) := (blk_cell (BX.out.get 1 rfl) 0).trans rfl
  have hcz18_1 : w11.cell? ⟨gb679, 1, none⟩ = some (.int .i64 a1_1) := (blk_cell (BX.out.get 1 rfl) 1).trans rfl
  have hfz18_0 := blk_frozen (BX.out.get 1 rfl) 0
  have hfz18_1 := blk_frozen (BX.out.get 1 rfl) 1
  obtain ⟨-, ⟨hnb19, hnc19⟩, -⟩ := BX.out.apart 0 rfl
  have hcz20_0 : w11.cell? ⟨gb680, 0, none⟩ = some (.int .i64 0) := (blk_cell (BX.out.get 0 rfl) 0).trans rfl
  have hcz20_1 : w11.cell? ⟨gb680, 1, none⟩ = some (.int .i64 0) := (blk_cell (BX.out.get 0 rfl) 1).trans rfl
  have hfz20_0 := blk_frozen (BX.out.get 0 rfl) 0
  have hfz20_1 := blk_frozen (BX.out.get 0 rfl) 1
  try go_wp2
  refine bodyPost_ret (results_ct rfl _ _ gb680 23 #[.int .i64 0, .int .i64 0] (0, 0) _ rfl (by (with_reducible repeat (first | refine blk_drewN ?_ _ | refine blk_drew ?_ | refine blk_alloc ?_ _)); refine blk_put (cs := #[.int .i64 0, .int .i64 0]) ?_ 1 _ rfl; (with_reducible repeat (first | refine blk_drewN ?_ _ | refine blk_drew ?_ | refine blk_alloc ?_ _)); refine blk_put (cs := #[.int .i64 0, .int .i64 0]) ?_ 0 _ rfl; (with_reducible repeat (first | refine blk_drewN ?_ _ | refine blk_drew ?_ | refine blk_alloc ?_ _)); refine blk_far ?_ (BX.out.ne 0 1 rfl rfl (by decide)) _; (with_reducible repeat (first | refine blk_drewN ?_ _ | refine blk_drew ?_ | refine blk_alloc ?_ _)); refine blk_far ?_ (BX.out.ne 0 1 rfl rfl (by decide)) _; (with_reducible repeat (first | refine blk_drewN ?_ _ | refine blk_drew ?_ | refine blk_alloc ?_ _)); refine blk_far ?_ (BX.out.ne 0 2 rfl rfl (by decide)) _; (with_reducible repeat (first | refine blk_drewN ?_ _ | refine blk_drew ?_ | refine blk_alloc ?_ _)); refine blk_far ?_ (BX.out.ne 0 2 rfl rfl (by decide)) _; (with_reducible repeat (first | refine blk_drewN ?_ _ | refine blk_drew ?_ | refine blk_alloc ?_ _)); exact (BX.out.get 0 rfl)) Tryd.underlying23 rfl (by kernel_rfl)) rfl ?_
  exact ⟨by first | rfl | (simp [errW_none, errW_some] <;> rfl) | (simp [*, errW_none, errW_some] <;> rfl), by repeat (first | (with_reducible first | exact HB.out | apply below_alloc | apply pw_below_drewN | apply below_drew1 | refine below_set ?_ (Aside0.out (by assumption))) | exact HB.out)⟩
 ·rw [if_neg c5] at H
  have c5b0 : (t683 == 0) = false := beq_eq_false_iff_ne.mpr c5
  have c5b1 : (t683 != 0) = true := bne_iff_ne.mpr c5
  by_cases c21 : (wrap64 (t683 * t682)) = 0
  ·rw [if_pos c21] at H
   exact absurd H (by simp)
  ·rw [if_neg c21] at H
   have c21b0 : ((wrap64 (t683 * t682)) == 0) = false := beq_eq_false_iff_ne.mpr c21
   have c21b1 : ((wrap64 (t683 * t682)) != 0) = true := bne_iff_ne.mpr c21
   by_cases c22 : (Int.tmod (wrap64 (t681 * t684)) (wrap64 (t683 * t682))) = 0
   ·rw [if_pos c22] at H
    have c22b0 : ((Int.tmod (wrap64 (t681 * t684)) (wrap64 (t683 * t682))) == 0) = true := beq_iff_eq.mpr c22
    have c22b1 : ((Int.tmod (wrap64 (t681 * t684)) (wrap64 (t683 * t682))) != 0) = false := bne_eq_false_iff_eq.mpr c22
    clear c22
    replace H := Option.bind_eq_some_iff.mp H
    obtain ⟨⟨t685, t686, t687⟩, A230, H⟩ := H
    replace H : (some (t685, t686, t687)) = some (r1, r2, r3) := H
    have A23 := Aside0.mk A230
    clear A230
    simp only [Option.some.injEq, Prod.mk.injEq] at H
    obtain ⟨rfl, rfl, rfl⟩ := H
    go_enter Tryd.func49, Tryd.ntmps49
    try go_wp2_with (first | ((with_reducible refine gate_dst (N := 2) rfl ?_); refine box_event ?hg (N := 2) ?hd (cs := #[.int .i64 a0_0, .int .i64 a0_1]) (t := 23) ?hr ?_; (case hd => rfl); (case hg => rfl); (case hr => first | (go_simp; done) | (go_simp; rfl)); intro gb678 hg w24 hbox hb; have n0_ := Aside0.mk (Boxes.new (b := w.heap.size) (L := []) trivial hg hbox hb (below_size (by repeat (first | (with_reducible first | exact HB.out | apply below_alloc | apply pw_below_drewN | apply below_drew1 | refine below_set ?_ (Aside0.out (by assumption))) | exact HB.out)))); have n1_ := Aside0.mk (below_step (by repeat (first | (with_reducible first | exact HB.out | apply below_alloc | apply pw_below_drewN | apply below_drew1 | refine below_set ?_ (Aside0.out (by assumption))) | exact HB.out)) hb); have n2_ := Aside0.mk ((by rw [hg]; exact (below_size (by repeat (first | (with_reducible first | exact HB.out | apply below_alloc | apply pw_below_drewN | apply below_drew1 | refine below_set ?_ (Aside0.out (by assumption))) | exact HB.out))) : w.heap.size ≤ gb678)); clear HB; have BX := n0_; have HB := n1_; have GE678 := n2_; clear n0_ n1_ n2_; clear hb hbox hg) | ((with_reducible refine gate_dst (N := 3) rfl ?_); refine box_event ?hg (N := 3) ?hd (cs := #[.int .i64 a1_0, .int .i64 a1_1]) (t := 23) ?hr ?_; (case hd => rfl); (case hg => rfl); (case hr => first | (go_simp; done) | (go_simp; rfl)); intro gb679 hg w25 hbox hb; have n0_ := Aside0.mk (Boxes.new (by (with_reducible repeat (first | apply boxes_drewN | apply boxes_drew | apply boxes_alloc)); exact BX.out) hg hbox hb (below_size (by repeat (first | (with_reducible first | exact HB.out | apply below_alloc | apply pw_below_drewN | apply below_drew1 | refine below_set ?_ (Aside0.out (by assumption))) | exact HB.out)))); have n1_ := Aside0.mk (below_step (by repeat (first | (with_reducible first | exact HB.out | apply below_alloc | apply pw_below_drewN | apply below_drew1 | refine below_set ?_ (Aside0.out (by assumption))) | exact HB.out)) hb); have n2_ := Aside0.mk ((by rw [hg]; exact (below_size (by repeat (first | (with_reducible first | exact HB.out | apply below_alloc | apply pw_below_drewN | apply below_drew1 | refine below_set ?_ (Aside0.out (by assumption))) | exact HB.out))) : w.heap.size ≤ gb679)); clear BX HB; have BX := n0_; have HB := n1_; have GE679 := n2_; clear n0_ n1_ n2_; clear hb hbox hg) | ((with_reducible refine gate_dst (N := 4) rfl ?_); refine box_event ?hg (N := 4) ?hd (cs := #[.int .i64 0, .int .i64 0]) (t := 23) ?hr ?_; (case hd => rfl); (case hg => rfl); (case hr => first | (go_simp; done) | (go_simp; rfl)); intro gb680 hg w26 hbox hb; have n0_ := Aside0.mk (Boxes.new (by (with_reducible repeat (first | apply boxes_drewN | apply boxes_drew | apply boxes_alloc)); exact BX.out) hg hbox hb (below_size (by repeat (first | (with_reducible first | exact HB.out | apply below_alloc | apply pw_below_drewN | apply below_drew1 | refine below_set ?_ (Aside0.out (by assumption))) | exact HB.out)))); have n1_ := Aside0.mk (below_step (by repeat (first | (with_reducible first | exact HB.out | apply below_alloc | apply pw_below_drewN | apply below_drew1 | refine below_set ?_ (Aside0.out (by assumption))) | exact HB.out)) hb); have n2_ := Aside0.mk ((by rw [hg]; exact (below_size (by repeat (first | (with_reducible first | exact HB.out | apply below_alloc | apply pw_below_drewN | apply below_drew1 | refine below_set ?_ (Aside0.out (by assumption))) | exact HB.out))) : w.heap.size ≤ gb680)); clear BX HB; have BX := n0_; have HB := n1_; have GE680 := n2_; clear n0_ n1_ n2_; clear hb hbox hg))
    have n0_ := Aside0.mk (boxes_drew BX.out)
    have n1_ := Aside0.mk (below_drew1 HB.out)
    clear BX HB
    have BX := n0_
    have HB := n1_
    clear n0_ n1_
    refine start_ (n := 6) (S := fun w' => w'.cell? ⟨gb678, 0, none⟩ = some (.int .i64 a0_0) ∧ w'.cell? ⟨gb678, 1, none⟩ = some (.int .i64 a0_1) ∧ w'.cell? ⟨gb679, 0, none⟩ = some (.int .i64 a1_0) ∧ w'.cell? ⟨gb679, 1, none⟩ = some (.int .i64 a1_1)) (ds := [4, 5]) #[false, false, false, false, false, false] (by kernel_rfl) rfl rfl ⟨(blk_cell (BX.out.get 2 rfl) 0).trans rfl, (blk_cell (BX.out.get 2 rfl) 1).trans rfl, (blk_cell (BX.out.get 1 rfl) 0).trans rfl, (blk_cell (BX.out.get 1 rfl) 1).trans rfl⟩ (fun hHeld => ?_)
    generalize w26.drew = w27 at BX HB hHeld ⊢
    refine take_ (i := 0) (N := some 9) (v := ?_) (a' := ?_) #[true, false, false, false, false, false] rfl rfl (by kernel_rfl) (fun _ _ _ h => h) (Or.inl ⟨by rfl, ?_⟩) hHeld ?_ ?_
    rotate_left
    ·rintro w' ⟨s0, s1, s2, s3⟩
     go_simp
     with_reducible rfl
    rotate_left
    ·simp only [Act.put, List.setIfInBounds_toArray, List.set_cons_zero, List.set_cons_succ, i64_w, i32_w]
     rfl
    refine take_ (i := 2) (N := some 11) (v := ?_) (a' := ?_) #[true, false, true, false, false, false] rfl rfl (by kernel_rfl) (fun _ _ _ h => h) (Or.inl ⟨by rfl, ?_⟩) hHeld ?_ ?_
    rotate_left
    ·rintro w' ⟨s0, s1, s2, s3⟩
     go_simp
     with_reducible rfl
    rotate_left
    ·simp only [Act.put, List.setIfInBounds_toArray, List.set_cons_zero, List.set_cons_succ, i64_w, i32_w]
     rfl
    refine one_ (i := 1) (N := some 10) #[true, true, true, false, false, false] rfl rfl (by kernel_rfl) (by decide) (fun K hK => ?_)
    refine goes_ Tryd.func63 (by kernel_rfl) rfl #[.agg #[.int .i64 a0_0, .int .i64 a0_1]] (by rfl) rfl rfl (by (try simp only [List.map_toArray, List.map_cons, List.map_nil]); first | done | rfl | (simp only [List.length_drop, List.length_take]; rfl)) ?_
    with_reducible refine (num_taken.calls k a0_0 a0_1 t681 t682 _ A3.out).mono ?_
    rintro e w28 ⟨rfl, hb⟩
    refine ⟨_, rfl, ?_⟩
    have n0_ := Aside0.mk (Boxes.below (by (with_reducible repeat (first | apply boxes_drewN | apply boxes_drew | apply boxes_alloc)); exact BX.out) hb)
    have n1_ := Aside0.mk (below_step (by repeat (first | (with_reducible first | exact HB.out | apply below_alloc | apply pw_below_drewN | apply below_drew1 | refine below_set ?_ (Aside0.out (by assumption))) | exact HB.out)) hb)
    clear BX HB
    have BX := n0_
    have HB := n1_
    clear n0_ n1_
    (try clear hb)
    (try clear hb2)
    (try clear hk)
    (try clear hi)
    refine hK.out _ _ ⟨(blk_cell (BX.out.get 2 rfl) 0).trans rfl, (blk_cell (BX.out.get 2 rfl) 1).trans rfl, (blk_cell (BX.out.get 1 rfl) 0).trans rfl, (blk_cell (BX.out.get 1 rfl) 1).trans rfl⟩ (fun hHeld => ?_)
    clear hK K
    refine norm_ (a' := ?_) ?_ ?_
    rotate_left
    ·show Act.put _ (some 10) _ = _
     simp only [Act.put, List.setIfInBounds_toArray, List.set_cons_zero, List.set_cons_succ, i64_w, i32_w]
     rfl
    refine one_ (i := 3) (N := some 12) #[true, true, true, true, false, false] rfl rfl (by kernel_rfl) (by decide) (fun K hK => ?_)
    refine goes_ Tryd.func63 (by kernel_rfl) rfl #[.agg #[.int .i64 a1_0, .int .i64 a1_1]] (by rfl) rfl rfl (by (try simp only [List.map_toArray, List.map_cons, List.map_nil]); first | done | rfl | (simp only [List.length_drop, List.length_take]; rfl)) ?_
    with_reducible refine (num_taken.calls k a1_0 a1_1 t683 t684 _ A4.out).mono ?_
    rintro e w29 ⟨rfl, hb⟩
    refine ⟨_, rfl, ?_⟩
    have n0_ := Aside0.mk (Boxes.below (by (with_reducible repeat (first | apply boxes_drewN | apply boxes_drew | apply boxes_alloc)); exact BX.out) hb)
    have n1_ := Aside0.mk (below_step (by repeat (first | (with_reducible first | exact HB.out | apply below_alloc | apply pw_below_drewN | apply below_drew1 | refine below_set ?_ (Aside0.out (by assumption))) | exact HB.out)) hb)
    clear BX HB
    have BX := n0_
    have HB := n1_
    clear n0_ n1_
    (try clear hb)
    (try clear hb2)
    (try clear hk)
    (try clear hi)
    refine hK.out _ _ ⟨(blk_cell (BX.out.get 2 rfl) 0).trans rfl, (blk_cell (BX.out.get 2 rfl) 1).trans rfl, (blk_cell (BX.out.get 1 rfl) 0).trans rfl, (blk_cell (BX.out.get 1 rfl) 1).trans rfl⟩ (fun hHeld => ?_)
    clear hK K
    refine norm_ (a' := ?_) ?_ ?_
    rotate_left
    ·show Act.put _ (some 12) _ = _
     simp only [Act.put, List.setIfInBounds_toArray, List.set_cons_zero, List.set_cons_succ, i64_w, i32_w]
     rfl
    refine last_ (i := 4) (N := none) #[true, true, true, true, true, false] rfl rfl (by kernel_rfl) (by decide) (fun K hK => ?_)
    have hs30 : w29.cell? ⟨gb678, 0, none⟩ = some (.int .i64 a0_0) := (blk_cell (BX.out.get 2 rfl) 0).trans rfl
    have hfs30 := blk_frozen (BX.out.get 2 rfl) 0
    obtain ⟨⟨hms30_2, hns30_2⟩, ⟨hms30_1, hns30_1⟩, -⟩ := BX.out.apart 2 rfl
    have hs31 : w29.cell? ⟨gb678, 1, none⟩ = some (.int .i64 a0_1) := (blk_cell (BX.out.get 2 rfl) 1).trans rfl
    have hfs31 := blk_frozen (BX.out.get 2 rfl) 1
    obtain ⟨⟨hms31_2, hns31_2⟩, ⟨hms31_1, hns31_1⟩, -⟩ := BX.out.apart 2 rfl
    refine skip_ (w1 := ?_) (by rfl) rfl ?_ ?_
    rotate_left
    ·go_simp
     rfl
    refine hK.out _ _ ?_
    clear hK K
    refine last_ (i := 5) (N := none) #[true, true, true, true, true, true] rfl rfl (by kernel_rfl) (by decide) (fun K hK => ?_)
    have hs32 : w29.cell? ⟨gb679, 0, none⟩ = some (.int .i64 a1_0) := (blk_cell (BX.out.get 1 rfl) 0).trans rfl
    have hfs32 := blk_frozen (BX.out.get 1 rfl) 0
    obtain ⟨⟨hms32_2, hns32_2⟩, ⟨hms32_0, hns32_0⟩, -⟩ := BX.out.apart 1 rfl
    have hs33 : w29.cell? ⟨gb679, 1, none⟩ = some (.int .i64 a1_1) := (blk_cell (BX.out.get 1 rfl) 1).trans rfl
    have hfs33 := blk_frozen (BX.out.get 1 rfl) 1
    obtain ⟨⟨hms33_2, hns33_2⟩, ⟨hms33_0, hns33_0⟩, -⟩ := BX.out.apart 1 rfl
    refine skip_ (w1 := ?_) (by rfl) rfl ?_ ?_
    rotate_left
    ·go_simp
     rfl
    refine hK.out _ _ ?_
    clear hK K
    refine done_ (by kernel_rfl) ?_
    obtain ⟨⟨hnb35, hnc35⟩, ⟨hnb34, hnc34⟩, -⟩ := BX.out.apart 1 rfl
    have hcz36_0 : w29.cell? ⟨gb679, 0, none⟩ = some (.int .i64 a1_0) := (blk_cell (BX.out.get 1 rfl) 0).trans rfl
    have hcz36_1 : w29.cell? ⟨gb679, 1, none⟩ = some (.int .i64 a1_1) := (blk_cell (BX.out.get 1 rfl) 1).trans rfl
    have hfz36_0 := blk_frozen (BX.out.get 1 rfl) 0
    have hfz36_1 := blk_frozen (BX.out.get 1 rfl) 1
    try go_wp2
    have n0_ : Aside0 (Boxes w.heap.size ((((w29.setCell ⟨gb678, 0, none⟩ (.int .i64 t681)).setCell ⟨gb678, 1, none⟩ (.int .i64 t682)).setCell ⟨gb679, 0, none⟩ (.int .i64 t683)).setCell ⟨gb679, 1, none⟩ (.int .i64 t684)) (_ :: (gb679, 23, #[.int .i64 t683, .int .i64 t684]) :: (gb678, 23, #[.int .i64 t681, .int .i64 t682]) :: _)) := ⟨by (with_reducible repeat (first | apply boxes_drewN | apply boxes_drew | apply boxes_alloc)); apply boxes_put 1; (with_reducible repeat (first | apply boxes_drewN | apply boxes_drew | apply boxes_alloc)); apply boxes_put 1; (with_reducible repeat (first | apply boxes_drewN | apply boxes_drew | apply boxes_alloc)); apply boxes_put 2; (with_reducible repeat (first | apply boxes_drewN | apply boxes_drew | apply boxes_alloc)); apply boxes_put 2; (with_reducible repeat (first | apply boxes_drewN | apply boxes_drew | apply boxes_alloc)); exact BX.out; any_goals rfl⟩
    have n1_ : Aside0 (Below w.heap.size w ((((w29.setCell ⟨gb678, 0, none⟩ (.int .i64 t681)).setCell ⟨gb678, 1, none⟩ (.int .i64 t682)).setCell ⟨gb679, 0, none⟩ (.int .i64 t683)).setCell ⟨gb679, 1, none⟩ (.int .i64 t684))) := ⟨by repeat (first | (with_reducible first | exact HB.out | apply below_alloc | apply pw_below_drewN | apply below_drew1 | refine below_set ?_ (Aside0.out (by assumption))) | exact HB.out)⟩
    (try clear BX)
    (try clear HB)
    generalize ((((w29.setCell ⟨gb678, 0, none⟩ (.int .i64 t681)).setCell ⟨gb678, 1, none⟩ (.int .i64 t682)).setCell ⟨gb679, 0, none⟩ (.int .i64 t683)).setCell ⟨gb679, 1, none⟩ (.int .i64 t684)) = w37 at n0_ n1_ ⊢
    have BX := n0_
    have HB := n1_
    clear n0_ n1_
    have n0_ := Aside0.mk (boxes_drew BX.out)
    have n1_ := Aside0.mk (below_drew1 HB.out)
    clear BX HB
    have BX := n0_
    have HB := n1_
    clear n0_ n1_
    refine start_ (n := 12) (S := fun w' => w'.cell? ⟨gb678, 0, none⟩ = some (.int .i64 t681) ∧ w'.cell? ⟨gb678, 1, none⟩ = some (.int .i64 t682) ∧ w'.cell? ⟨gb679, 0, none⟩ = some (.int .i64 t683) ∧ w'.cell? ⟨gb679, 1, none⟩ = some (.int .i64 t684)) (ds := []) #[false, false, false, false, false, false, false, false, false, false, false, false] (by kernel_rfl) rfl rfl ⟨(blk_cell (BX.out.get 2 rfl) 0).trans rfl, (blk_cell (BX.out.get 2 rfl) 1).trans rfl, (blk_cell (BX.out.get 1 rfl) 0).trans rfl, (blk_cell (BX.out.get 1 rfl) 1).trans rfl⟩ (fun hHeld => ?_); refine with_tabW num_Mod.tab4 num_Mod.bits4 (fun HT_ HW_ => ?_)
    generalize w37.drew = w38 at BX HB hHeld ⊢
    refine pure_ (i := 0) (N := some 17) (v := ?_) (a' := ?_) #[true, false, false, false, false, false, false, false, false, false, false, false] rfl rfl (any_of HT_.out (by kernel_rfl)) (fun _ _ _ h => h) (Or.inl ⟨by rfl, ?_⟩) ?_ ?_
    rotate_left
    ·intro w'
     go_simp
     with_reducible rfl
    rotate_left
    ·simp only [Act.put, List.setIfInBounds_toArray, List.set_cons_zero, List.set_cons_succ, i64_w, i32_w]
     rfl
    refine pure_ (i := 2) (N := some 19) (v := ?_) (a' := ?_) #[true, false, true, false, false, false, false, false, false, false, false, false] rfl rfl (any_of HT_.out (by kernel_rfl)) (fun _ _ _ h => h) (Or.inl ⟨by rfl, ?_⟩) ?_ ?_
    rotate_left
    ·intro w'
     go_simp
     with_reducible rfl
    rotate_left
    ·simp only [Act.put, List.setIfInBounds_toArray, List.set_cons_zero, List.set_cons_succ, i64_w, i32_w]
     rfl
    refine pure_ (i := 5) (N := some 22) (v := ?_) (a' := ?_) #[true, false, true, false, false, true, false, false, false, false, false, false] rfl rfl (any_of HT_.out (by kernel_rfl)) (fun _ _ _ h => h) (Or.inl ⟨by rfl, ?_⟩) ?_ ?_
    rotate_left
    ·intro w'
     go_simp
     with_reducible rfl
    rotate_left
    ·simp only [Act.put, List.setIfInBounds_toArray, List.set_cons_zero, List.set_cons_succ, i64_w, i32_w]
     rfl
    refine pure_ (i := 7) (N := some 24) (v := ?_) (a' := ?_) #[true, false, true, false, false, true, false, true, false, false, false, false] rfl rfl (any_of HT_.out (by kernel_rfl)) (fun _ _ _ h => h) (Or.inl ⟨by rfl, ?_⟩) ?_ ?_
    rotate_left
    ·intro w'
     go_simp
     with_reducible rfl
    rotate_left
    ·simp only [Act.put, List.setIfInBounds_toArray, List.set_cons_zero, List.set_cons_succ, i64_w, i32_w]
     rfl
    refine take_ (i := 1) (N := some 18) (v := ?_) (a' := ?_) #[true, true, true, false, false, true, false, true, false, false, false, false] rfl rfl (take_ofW HT_.out HW_.out (by kernel_rfl)) (fun _ _ _ h => h) (Or.inl ⟨by rfl, ?_⟩) hHeld ?_ ?_
    rotate_left
    ·rintro w' ⟨s0, s1, s2, s3⟩
     go_simp
     with_reducible rfl
    rotate_left
    ·simp only [Act.put, List.setIfInBounds_toArray, List.set_cons_zero, List.set_cons_succ, i64_w, i32_w]
     rfl
    refine take_ (i := 3) (N := some 20) (v := ?_) (a' := ?_) #[true, true, true, true, false, true, false, true, false, false, false, false] rfl rfl (take_ofW HT_.out HW_.out (by kernel_rfl)) (fun _ _ _ h => h) (Or.inl ⟨by rfl, ?_⟩) hHeld ?_ ?_
    rotate_left
    ·rintro w' ⟨s0, s1, s2, s3⟩
     go_simp
     with_reducible rfl
    rotate_left
    ·simp only [Act.put, List.setIfInBounds_toArray, List.set_cons_zero, List.set_cons_succ, i64_w, i32_w]
     rfl
    refine pure_ (i := 4) (N := some 21) (v := ?_) (a' := ?_) #[true, true, true, true, true, true, false, true, false, false, false, false] rfl rfl (any_of HT_.out (by kernel_rfl)) (fun _ _ _ h => h) (Or.inl ⟨by rfl, ?_⟩) ?_ ?_
    rotate_left
    ·intro w'
     go_simp
     with_reducible rfl
    rotate_left
    ·simp only [Act.put, List.setIfInBounds_toArray, List.set_cons_zero, List.set_cons_succ, i64_w, i32_w]
     rfl
    refine pure_ (i := 10) (N := some 6) (v := ?_) (a' := ?_) #[true, true, true, true, true, true, false, true, false, false, true, false] rfl rfl (any_of HT_.out (by kernel_rfl)) (fun _ _ _ h => h) (Or.inl ⟨by rfl, ?_⟩) ?_ ?_
    rotate_left
    ·intro w'
     go_simp
     with_reducible rfl
    rotate_left
    ·simp only [Act.put, List.setIfInBounds_toArray, List.set_cons_zero, List.set_cons_succ, i64_w, i32_w]
     rfl
    refine take_ (i := 6) (N := some 23) (v := ?_) (a' := ?_) #[true, true, true, true, true, true, true, true, false, false, true, false] rfl rfl (take_ofW HT_.out HW_.out (by kernel_rfl)) (fun _ _ _ h => h) (Or.inl ⟨by rfl, ?_⟩) hHeld ?_ ?_
    rotate_left
    ·rintro w' ⟨s0, s1, s2, s3⟩
     go_simp
     with_reducible rfl
    rotate_left
    ·simp only [Act.put, List.setIfInBounds_toArray, List.set_cons_zero, List.set_cons_succ, i64_w, i32_w]
     rfl
    refine take_ (i := 8) (N := some 25) (v := ?_) (a' := ?_) #[true, true, true, true, true, true, true, true, true, false, true, false] rfl rfl (take_ofW HT_.out HW_.out (by kernel_rfl)) (fun _ _ _ h => h) (Or.inl ⟨by rfl, ?_⟩) hHeld ?_ ?_
    rotate_left
    ·rintro w' ⟨s0, s1, s2, s3⟩
     go_simp
     with_reducible rfl
    rotate_left
    ·simp only [Act.put, List.setIfInBounds_toArray, List.set_cons_zero, List.set_cons_succ, i64_w, i32_w]
     rfl
    refine pure_ (i := 9) (N := some 26) (v := ?_) (a' := ?_) #[true, true, true, true, true, true, true, true, true, true, true, false] rfl rfl (any_of HT_.out (by kernel_rfl)) (fun _ _ _ h => h) (Or.inl ⟨by rfl, ?_⟩) ?_ ?_
    rotate_left
    ·intro w'
     go_simp
     with_reducible rfl
    rotate_left
    ·simp only [Act.put, List.setIfInBounds_toArray, List.set_cons_zero, List.set_cons_succ, i64_w, i32_w]
     rfl
    refine pure_ (i := 11) (N := some 7) (v := ?_) (a' := ?_) #[true, true, true, true, true, true, true, true, true, true, true, true] rfl rfl (any_of HT_.out (by kernel_rfl)) (fun _ _ _ h => h) (Or.inl ⟨by rfl, ?_⟩) ?_ ?_
    rotate_left
    ·intro w'
     go_simp
     with_reducible rfl
    rotate_left
    ·simp only [Act.put, List.setIfInBounds_toArray, List.set_cons_zero, List.set_cons_succ, i64_w, i32_w]
     rfl
    refine done_ (done_of HT_.out (by kernel_rfl)) ?_
    obtain ⟨-, ⟨hnc39, hnb39⟩, -⟩ := BX.out.apart 0 rfl
    have hcz40_0 : w38.cell? ⟨gb678, 0, none⟩ = some (.int .i64 t681) := (blk_cell (BX.out.get 2 rfl) 0).trans rfl
    have hcz40_1 : w38.cell? ⟨gb678, 1, none⟩ = some (.int .i64 t682) := (blk_cell (BX.out.get 2 rfl) 1).trans rfl
    have hfz40_0 := blk_frozen (BX.out.get 2 rfl) 0
    have hfz40_1 := blk_frozen (BX.out.get 2 rfl) 1
    have hcz41_0 : w38.cell? ⟨gb679, 0, none⟩ = some (.int .i64 t683) := (blk_cell (BX.out.get 1 rfl) 0).trans rfl
    have hcz41_1 : w38.cell? ⟨gb679, 1, none⟩ = some (.int .i64 t684) := (blk_cell (BX.out.get 1 rfl) 1).trans rfl
    have hfz41_0 := blk_frozen (BX.out.get 1 rfl) 0
    have hfz41_1 := blk_frozen (BX.out.get 1 rfl) 1
    try go_wp2_with (first | ((with_reducible refine gate_callee (f := 20) rfl ?_); refine goesL_ (some 48) rfl rfl Tryd.func20 (by kernel_rfl) rfl #[.int .i64 (Int.tmod (wrap64 (t681 * t684)) (wrap64 (t683 * t682))), .int .i64 (wrap64 (t682 * t684))] rfl (by (try simp only [List.map_toArray, List.map_cons, List.map_nil]); first | done | rfl | (simp only [List.length_drop, List.length_take]; rfl)) ?_; (with_reducible refine (num_Make.calls k (Int.tmod (wrap64 (t681 * t684)) (wrap64 (t683 * t682))) (wrap64 (t682 * t684)) t685 t686 t687 _ A23.out).mono ?_); rintro e w42 ⟨rfl, hb⟩; refine ⟨_, rfl, ?_⟩; have n0_ := Aside0.mk (Boxes.below (by (with_reducible repeat (first | apply boxes_drewN | apply boxes_drew | apply boxes_alloc)); exact BX.out) hb); have n1_ := Aside0.mk (below_step (by repeat (first | (with_reducible first | exact HB.out | apply below_alloc | apply pw_below_drewN | apply below_drew1 | refine below_set ?_ (Aside0.out (by assumption))) | exact HB.out)) hb); clear BX HB; have BX := n0_; have HB := n1_; clear n0_ n1_; (try clear hb); (try clear hb2); (try clear hk); (try clear hi); have hcz43_0 : w42.cell? ⟨gb680, 0, none⟩ = some (.int .i64 0) := (blk_cell (BX.out.get 0 rfl) 0).trans rfl; have hcz43_1 : w42.cell? ⟨gb680, 1, none⟩ = some (.int .i64 0) := (blk_cell (BX.out.get 0 rfl) 1).trans rfl; have hfz43_0 := blk_frozen (BX.out.get 0 rfl) 0; have hfz43_1 := blk_frozen (BX.out.get 0 rfl) 1))
    refine bodyPost_ret (results_ct rfl _ _ gb680 23 #[.int .i64 t685, .int .i64 t686] (0, 0) _ rfl (by (with_reducible repeat (first | refine blk_drewN ?_ _ | refine blk_drew ?_ | refine blk_alloc ?_ _)); refine blk_put (cs := #[.int .i64 t685, .int .i64 0]) ?_ 1 _ rfl; (with_reducible repeat (first | refine blk_drewN ?_ _ | refine blk_drew ?_ | refine blk_alloc ?_ _)); refine blk_put (cs := #[.int .i64 0, .int .i64 0]) ?_ 0 _ rfl; (with_reducible repeat (first | refine blk_drewN ?_ _ | refine blk_drew ?_ | refine blk_alloc ?_ _)); exact (BX.out.get 0 rfl)) Tryd.underlying23 rfl (by kernel_rfl)) rfl ?_
    exact ⟨by first | rfl | (simp [errW_none, errW_some] <;> rfl) | (simp [*, errW_none, errW_some] <;> rfl), by repeat (first | (with_reducible first | exact HB.out | apply below_alloc | apply pw_below_drewN | apply below_drew1 | refine below_set ?_ (Aside0.out (by assumption))) | exact HB.out)⟩
   ·rw [if_neg c22] at H
    have c22b0 : ((Int.tmod (wrap64 (t681 * t684)) (wrap64 (t683 * t682))) == 0) = false := beq_eq_false_iff_ne.mpr c22
    have c22b1 : ((Int.tmod (wrap64 (t681 * t684)) (wrap64 (t683 * t682))) != 0) = true := bne_iff_ne.mpr c22
    by_cases c44 : ((decide ((Int.tmod (wrap64 (t681 * t684)) (wrap64 (t683 * t682))) < 0)) != (decide ((wrap64 (t683 * t682)) < 0))) = true
    ·rw [if_pos c44] at H
     have c44b0 : ((decide ((Int.tmod (wrap64 (t681 * t684)) (wrap64 (t683 * t682))) < 0)) != (decide ((wrap64 (t683 * t682)) < 0))) = true := c44
     (try (have c44b1 : decide ((decide ((Int.tmod (wrap64 (t681 * t684)) (wrap64 (t683 * t682))) < 0)) = (decide ((wrap64 (t683 * t682)) < 0))) = false := by simpa using c44))
     (try (have c44b2 : ((decide ((Int.tmod (wrap64 (t681 * t684)) (wrap64 (t683 * t682))) < 0)) == (decide ((wrap64 (t683 * t682)) < 0))) = false := by simpa using c44))
     (try (have c44b3 : ¬ ((decide ((Int.tmod (wrap64 (t681 * t684)) (wrap64 (t683 * t682))) < 0)) = (decide ((wrap64 (t683 * t682)) < 0))) := by simpa using c44))
     clear c44
     replace H := Option.bind_eq_some_iff.mp H
     obtain ⟨⟨t688, t689, t690⟩, A450, H⟩ := H
     replace H : (some (t688, t689, t690)) = some (r1, r2, r3) := H
     have A45 := Aside0.mk A450
     clear A450
     simp only [Option.some.injEq, Prod.mk.injEq] at H
     obtain ⟨rfl, rfl, rfl⟩ := H
     go_enter Tryd.func49, Tryd.ntmps49
     try go_wp2_with (first | ((with_reducible refine gate_dst (N := 2) rfl ?_); refine box_event ?hg (N := 2) ?hd (cs := #[.int .i64 a0_0, .int .i64 a0_1]) (t := 23) ?hr ?_; (case hd => rfl); (case hg => rfl); (case hr => first | (go_simp; done) | (go_simp; rfl)); intro gb678 hg w46 hbox hb; have n0_ := Aside0.mk (Boxes.new (b := w.heap.size) (L := []) trivial hg hbox hb (below_size (by repeat (first | (with_reducible first | exact HB.out | apply below_alloc | apply pw_below_drewN | apply below_drew1 | refine below_set ?_ (Aside0.out (by assumption))) | exact HB.out)))); have n1_ := Aside0.mk (below_step (by repeat (first | (with_reducible first | exact HB.out | apply below_alloc | apply pw_below_drewN | apply below_drew1 | refine below_set ?_ (Aside0.out (by assumption))) | exact HB.out)) hb); have n2_ := Aside0.mk ((by rw [hg]; exact (below_size (by repeat (first | (with_reducible first | exact HB.out | apply below_alloc | apply pw_below_drewN | apply below_drew1 | refine below_set ?_ (Aside0.out (by assumption))) | exact HB.out))) : w.heap.size ≤ gb678)); clear HB; have BX := n0_; have HB := n1_; have GE678 := n2_; clear n0_ n1_ n2_; clear hb hbox hg) | ((with_reducible refine gate_dst (N := 3) rfl ?_); refine box_event ?hg (N := 3) ?hd (cs := #[.int .i64 a1_0, .int .i64 a1_1]) (t := 23) ?hr ?_; (case hd => rfl); (case hg => rfl); (case hr => first | (go_simp; done) | (go_simp; rfl)); intro gb679 hg w47 hbox hb; have n0_ := Aside0.mk (Boxes.new (by (with_reducible repeat (first | apply boxes_drewN | apply boxes_drew | apply boxes_alloc)); exact BX.out) hg hbox hb (below_size (by repeat (first | (with_reducible first | exact HB.out | apply below_alloc | apply pw_below_drewN | apply below_drew1 | refine below_set ?_ (Aside0.out (by assumption))) | exact HB.out)))); have n1_ := Aside0.mk (below_step (by repeat (first | (with_reducible first | exact HB.out | apply below_alloc | apply pw_below_drewN | apply below_drew1 | refine below_set ?_ (Aside0.out (by assumption))) | exact HB.out)) hb); have n2_ := Aside0.mk ((by rw [hg]; exact (below_size (by repeat (first | (with_reducible first | exact HB.out | apply below_alloc | apply pw_below_drewN | apply below_drew1 | refine below_set ?_ (Aside0.out (by assumption))) | exact HB.out))) : w.heap.size ≤ gb679)); clear BX HB; have BX := n0_; have HB := n1_; have GE679 := n2_; clear n0_ n1_ n2_; clear hb hbox hg) | ((with_reducible refine gate_dst (N := 4) rfl ?_); refine box_event ?hg (N := 4) ?hd (cs := #[.int .i64 0, .int .i64 0]) (t := 23) ?hr ?_; (case hd => rfl); (case hg => rfl); (case hr => first | (go_simp; done) | (go_simp; rfl)); intro gb680 hg w48 hbox hb; have n0_ := Aside0.mk (Boxes.new (by (with_reducible repeat (first | apply boxes_drewN | apply boxes_drew | apply boxes_alloc)); exact BX.out) hg hbox hb (below_size (by repeat (first | (with_reducible first | exact HB.out | apply below_alloc | apply pw_below_drewN | apply below_drew1 | refine below_set ?_ (Aside0.out (by assumption))) | exact HB.out)))); have n1_ := Aside0.mk (below_step (by repeat (first | (with_reducible first | exact HB.out | apply below_alloc | apply pw_below_drewN | apply below_drew1 | refine below_set ?_ (Aside0.out (by assumption))) | exact HB.out)) hb); have n2_ := Aside0.mk ((by rw [hg]; exact (below_size (by repeat (first | (with_reducible first | exact HB.out | apply below_alloc | apply pw_below_drewN | apply below_drew1 | refine below_set ?_ (Aside0.out (by assumption))) | exact HB.out))) : w.heap.size ≤ gb680)); clear BX HB; have BX := n0_; have HB := n1_; have GE680 := n2_; clear n0_ n1_ n2_; clear hb hbox hg))
     have n0_ := Aside0.mk (boxes_drew BX.out)
     have n1_ := Aside0.mk (below_drew1 HB.out)
     clear BX HB
     have BX := n0_
     have HB := n1_
     clear n0_ n1_
     refine start_ (n := 6) (S := fun w' => w'.cell? ⟨gb678, 0, none⟩ = some (.int .i64 a0_0) ∧ w'.cell? ⟨gb678, 1, none⟩ = some (.int .i64 a0_1) ∧ w'.cell? ⟨gb679, 0, none⟩ = some (.int .i64 a1_0) ∧ w'.cell? ⟨gb679, 1, none⟩ = some (.int .i64 a1_1)) (ds := [4, 5]) #[false, false, false, false, false, false] (by kernel_rfl) rfl rfl ⟨(blk_cell (BX.out.get 2 rfl) 0).trans rfl, (blk_cell (BX.out.get 2 rfl) 1).trans rfl, (blk_cell (BX.out.get 1 rfl) 0).trans rfl, (blk_cell (BX.out.get 1 rfl) 1).trans rfl⟩ (fun hHeld => ?_)
     generalize w48.drew = w49 at BX HB hHeld ⊢
     refine take_ (i := 0) (N := some 9) (v := ?_) (a' := ?_) #[true, false, false, false, false, false] rfl rfl (by kernel_rfl) (fun _ _ _ h => h) (Or.inl ⟨by rfl, ?_⟩) hHeld ?_ ?_
     rotate_left
     ·rintro w' ⟨s0, s1, s2, s3⟩
      go_simp
      with_reducible rfl
     rotate_left
     ·simp only [Act.put, List.setIfInBounds_toArray, List.set_cons_zero, List.set_cons_succ, i64_w, i32_w]
      rfl
     refine take_ (i := 2) (N := some 11) (v := ?_) (a' := ?_) #[true, false, true, false, false, false] rfl rfl (by kernel_rfl) (fun _ _ _ h => h) (Or.inl ⟨by rfl, ?_⟩) hHeld ?_ ?_
     rotate_left
     ·rintro w' ⟨s0, s1, s2, s3⟩
      go_simp
      with_reducible rfl
     rotate_left
     ·simp only [Act.put, List.setIfInBounds_toArray, List.set_cons_zero, List.set_cons_succ, i64_w, i32_w]
      rfl
     refine one_ (i := 1) (N := some 10) #[true, true, true, false, false, false] rfl rfl (by kernel_rfl) (by decide) (fun K hK => ?_)
     refine goes_ Tryd.func63 (by kernel_rfl) rfl #[.agg #[.int .i64 a0_0, .int .i64 a0_1]] (by rfl) rfl rfl (by (try simp only [List.map_toArray, List.map_cons, List.map_nil]); first | done | rfl | (simp only [List.length_drop, List.length_take]; rfl)) ?_
     with_reducible refine (num_taken.calls k a0_0 a0_1 t681 t682 _ A3.out).mono ?_
     rintro e w50 ⟨rfl, hb⟩
     refine ⟨_, rfl, ?_⟩
     have n0_ := Aside0.mk (Boxes.below (by (with_reducible repeat (first | apply boxes_drewN | apply boxes_drew | apply boxes_alloc)); exact BX.out) hb)
     have n1_ := Aside0.mk (below_step (by repeat (first | (with_reducible first | exact HB.out | apply below_alloc | apply pw_below_drewN | apply below_drew1 | refine below_set ?_ (Aside0.out (by assumption))) | exact HB.out)) hb)
     clear BX HB
     have BX := n0_
     have HB := n1_
     clear n0_ n1_
     (try clear hb)
     (try clear hb2)
     (try clear hk)
     (try clear hi)
     refine hK.out _ _ ⟨(blk_cell (BX.out.get 2 rfl) 0).trans rfl, (blk_cell (BX.out.get 2 rfl) 1).trans rfl, (blk_cell (BX.out.get 1 rfl) 0).trans rfl, (blk_cell (BX.out.get 1 rfl) 1).trans rfl⟩ (fun hHeld => ?_)
     clear hK K
     refine norm_ (a' := ?_) ?_ ?_
     rotate_left
     ·show Act.put _ (some 10) _ = _
      simp only [Act.put, List.setIfInBounds_toArray, List.set_cons_zero, List.set_cons_succ, i64_w, i32_w]
      rfl
     refine one_ (i := 3) (N := some 12) #[true, true, true, true, false, false] rfl rfl (by kernel_rfl) (by decide) (fun K hK => ?_)
     refine goes_ Tryd.func63 (by kernel_rfl) rfl #[.agg #[.int .i64 a1_0, .int .i64 a1_1]] (by rfl) rfl rfl (by (try simp only [List.map_toArray, List.map_cons, List.map_nil]); first | done | rfl | (simp only [List.length_drop, List.length_take]; rfl)) ?_
     with_reducible refine (num_taken.calls k a1_0 a1_1 t683 t684 _ A4.out).mono ?_
     rintro e w51 ⟨rfl, hb⟩
     refine ⟨_, rfl, ?_⟩
     have n0_ := Aside0.mk (Boxes.below (by (with_reducible repeat (first | apply boxes_drewN | apply boxes_drew | apply boxes_alloc)); exact BX.out) hb)
     have n1_ := Aside0.mk (below_step (by repeat (first | (with_reducible first | exact HB.out | apply below_alloc | apply pw_below_drewN | apply below_drew1 | refine below_set ?_ (Aside0.out (by assumption))) | exact HB.out)) hb)
     clear BX HB
     have BX := n0_
     have HB := n1_
     clear n0_ n1_
     (try clear hb)
     (try clear hb2)
     (try clear hk)
     (try clear hi)
     refine hK.out _ _ ⟨(blk_cell (BX.out.get 2 rfl) 0).trans rfl, (blk_cell (BX.out.get 2 rfl) 1).trans rfl, (blk_cell (BX.out.get 1 rfl) 0).trans rfl, (blk_cell (BX.out.get 1 rfl) 1).trans rfl⟩ (fun hHeld => ?_)
     clear hK K
     refine norm_ (a' := ?_) ?_ ?_
     rotate_left
     ·show Act.put _ (some 12) _ = _
      simp only [Act.put, List.setIfInBounds_toArray, List.set_cons_zero, List.set_cons_succ, i64_w, i32_w]
      rfl
     refine last_ (i := 4) (N := none) #[true, true, true, true, true, false] rfl rfl (by kernel_rfl) (by decide) (fun K hK => ?_)
     have hs52 : w51.cell? ⟨gb678, 0, none⟩ = some (.int .i64 a0_0) := (blk_cell (BX.out.get 2 rfl) 0).trans rfl
     have hfs52 := blk_frozen (BX.out.get 2 rfl) 0
     obtain ⟨⟨hms52_2, hns52_2⟩, ⟨hms52_1, hns52_1⟩, -⟩ := BX.out.apart 2 rfl
     have hs53 : w51.cell? ⟨gb678, 1, none⟩ = some (.int .i64 a0_1) := (blk_cell (BX.out.get 2 rfl) 1).trans rfl
     have hfs53 := blk_frozen (BX.out.get 2 rfl) 1
     obtain ⟨⟨hms53_2, hns53_2⟩, ⟨hms53_1, hns53_1⟩, -⟩ := BX.out.apart 2 rfl
     refine skip_ (w1 := ?_) (by rfl) rfl ?_ ?_
     rotate_left
     ·go_simp
      rfl
     refine hK.out _ _ ?_
     clear hK K
     refine last_ (i := 5) (N := none) #[true, true, true, true, true, true] rfl rfl (by kernel_rfl) (by decide) (fun K hK => ?_)
     have hs54 : w51.cell? ⟨gb679, 0, none⟩ = some (.int .i64 a1_0) := (blk_cell (BX.out.get 1 rfl) 0).trans rfl
     have hfs54 := blk_frozen (BX.out.get 1 rfl) 0
     obtain ⟨⟨hms54_2, hns54_2⟩, ⟨hms54_0, hns54_0⟩, -⟩ := BX.out.apart 1 rfl
     have hs55 : w51.cell? ⟨gb679, 1, none⟩ = some (.int .i64 a1_1) := (blk_cell (BX.out.get 1 rfl) 1).trans rfl
     have hfs55 := blk_frozen (BX.out.get 1 rfl) 1
     obtain ⟨⟨hms55_2, hns55_2⟩, ⟨hms55_0, hns55_0⟩, -⟩ := BX.out.apart 1 rfl
     refine skip_ (w1 := ?_) (by rfl) rfl ?_ ?_
     rotate_left
     ·go_simp
      rfl
     refine hK.out _ _ ?_
     clear hK K
     refine done_ (by kernel_rfl) ?_
     obtain ⟨⟨hnb57, hnc57⟩, ⟨hnb56, hnc56⟩, -⟩ := BX.out.apart 1 rfl
     have hcz58_0 : w51.cell? ⟨gb679, 0, none⟩ = some (.int .i64 a1_0) := (blk_cell (BX.out.get 1 rfl) 0).trans rfl
     have hcz58_1 : w51.cell? ⟨gb679, 1, none⟩ = some (.int .i64 a1_1) := (blk_cell (BX.out.get 1 rfl) 1).trans rfl
     have hfz58_0 := blk_frozen (BX.out.get 1 rfl) 0
     have hfz58_1 := blk_frozen (BX.out.get 1 rfl) 1
     try go_wp2
     have n0_ : Aside0 (Boxes w.heap.size ((((w51.setCell ⟨gb678, 0, none⟩ (.int .i64 t681)).setCell ⟨gb678, 1, none⟩ (.int .i64 t682)).setCell ⟨gb679, 0, none⟩ (.int .i64 t683)).setCell ⟨gb679, 1, none⟩ (.int .i64 t684)) (_ :: (gb679, 23, #[.int .i64 t683, .int .i64 t684]) :: (gb678, 23, #[.int .i64 t681, .int .i64 t682]) :: _)) := ⟨by (with_reducible repeat (first | apply boxes_drewN | apply boxes_drew | apply boxes_alloc)); apply boxes_put 1; (with_reducible repeat (first | apply boxes_drewN | apply boxes_drew | apply boxes_alloc)); apply boxes_put 1; (with_reducible repeat (first | apply boxes_drewN | apply boxes_drew | apply boxes_alloc)); apply boxes_put 2; (with_reducible repeat (first | apply boxes_drewN | apply boxes_drew | apply boxes_alloc)); apply boxes_put 2; (with_reducible repeat (first | apply boxes_drewN | apply boxes_drew | apply boxes_alloc)); exact BX.out; any_goals rfl⟩
     have n1_ : Aside0 (Below w.heap.size w ((((w51.setCell ⟨gb678, 0, none⟩ (.int .i64 t681)).setCell ⟨gb678, 1, none⟩ (.int .i64 t682)).setCell ⟨gb679, 0, none⟩ (.int .i64 t683)).setCell ⟨gb679, 1, none⟩ (.int .i64 t684))) := ⟨by repeat (first | (with_reducible first | exact HB.out | apply below_alloc | apply pw_below_drewN | apply below_drew1 | refine below_set ?_ (Aside0.out (by assumption))) | exact HB.out)⟩
     (try clear BX)
     (try clear HB)
     generalize ((((w51.setCell ⟨gb678, 0, none⟩ (.int .i64 t681)).setCell ⟨gb678, 1, none⟩ (.int .i64 t682)).setCell ⟨gb679, 0, none⟩ (.int .i64 t683)).setCell ⟨gb679, 1, none⟩ (.int .i64 t684)) = w59 at n0_ n1_ ⊢
     have BX := n0_
     have HB := n1_
     clear n0_ n1_
     have n0_ := Aside0.mk (boxes_drew BX.out)
     have n1_ := Aside0.mk (below_drew1 HB.out)
     clear BX HB
     have BX := n0_
     have HB := n1_
     clear n0_ n1_
     refine start_ (n := 12) (S := fun w' => w'.cell? ⟨gb678, 0, none⟩ = some (.int .i64 t681) ∧ w'.cell? ⟨gb678, 1, none⟩ = some (.int .i64 t682) ∧ w'.cell? ⟨gb679, 0, none⟩ = some (.int .i64 t683) ∧ w'.cell? ⟨gb679, 1, none⟩ = some (.int .i64 t684)) (ds := []) #[false, false, false, false, false, false, false, false, false, false, false, false] (by kernel_rfl) rfl rfl ⟨(blk_cell (BX.out.get 2 rfl) 0).trans rfl, (blk_cell (BX.out.get 2 rfl) 1).trans rfl, (blk_cell (BX.out.get 1 rfl) 0).trans rfl, (blk_cell (BX.out.get 1 rfl) 1).trans rfl⟩ (fun hHeld => ?_); refine with_tabW num_Mod.tab4 num_Mod.bits4 (fun HT_ HW_ => ?_)
     generalize w59.drew = w60 at BX HB hHeld ⊢
     refine pure_ (i := 0) (N := some 17) (v := ?_) (a' := ?_) #[true, false, false, false, false, false, false, false, false, false, false, false] rfl rfl (any_of HT_.out (by kernel_rfl)) (fun _ _ _ h => h) (Or.inl ⟨by rfl, ?_⟩) ?_ ?_
     rotate_left
     ·intro w'
      go_simp
      with_reducible rfl
     rotate_left
     ·simp only [Act.put, List.setIfInBounds_toArray, List.set_cons_zero, List.set_cons_succ, i64_w, i32_w]
      rfl
     refine pure_ (i := 2) (N := some 19) (v := ?_) (a' := ?_) #[true, false, true, false, false, false, false, false, false, false, false, false] rfl rfl (any_of HT_.out (by kernel_rfl)) (fun _ _ _ h => h) (Or.inl ⟨by rfl, ?_⟩) ?_ ?_
     rotate_left
     ·intro w'
      go_simp
      with_reducible rfl
     rotate_left
     ·simp only [Act.put, List.setIfInBounds_toArray, List.set_cons_zero, List.set_cons_succ, i64_w, i32_w]
      rfl
     refine pure_ (i := 5) (N := some 22) (v := ?_) (a' := ?_) #[true, false, true, false, false, true, false, false, false, false, false, false] rfl rfl (any_of HT_.out (by kernel_rfl)) (fun _ _ _ h => h) (Or.inl ⟨by rfl, ?_⟩) ?_ ?_
     rotate_left
     ·intro w'
      go_simp
      with_reducible rfl
     rotate_left
     ·simp only [Act.put, List.setIfInBounds_toArray, List.set_cons_zero, List.set_cons_succ, i64_w, i32_w]
      rfl
     refine pure_ (i := 7) (N := some 24) (v := ?_) (a' := ?_) #[true, false, true, false, false, true, false, true, false, false, false, false] rfl rfl (any_of HT_.out (by kernel_rfl)) (fun _ _ _ h => h) (Or.inl ⟨by rfl, ?_⟩) ?_ ?_
     rotate_left
     ·intro w'
      go_simp
      with_reducible rfl
     rotate_left
     ·simp only [Act.put, List.setIfInBounds_toArray, List.set_cons_zero, List.set_cons_succ, i64_w, i32_w]
      rfl
     refine take_ (i := 1) (N := some 18) (v := ?_) (a' := ?_) #[true, true, true, false, false, true, false, true, false, false, false, false] rfl rfl (take_ofW HT_.out HW_.out (by kernel_rfl)) (fun _ _ _ h => h) (Or.inl ⟨by rfl, ?_⟩) hHeld ?_ ?_
     rotate_left
     ·rintro w' ⟨s0, s1, s2, s3⟩
      go_simp
      with_reducible rfl
     rotate_left
     ·simp only [Act.put, List.setIfInBounds_toArray, List.set_cons_zero, List.set_cons_succ, i64_w, i32_w]
      rfl
     refine take_ (i := 3) (N := some 20) (v := ?_) (a' := ?_) #[true, true, true, true, false, true, false, true, false, false, false, false] rfl rfl (take_ofW HT_.out HW_.out (by kernel_rfl)) (fun _ _ _ h => h) (Or.inl ⟨by rfl, ?_⟩) hHeld ?_ ?_
     rotate_left
     ·rintro w' ⟨s0, s1, s2, s3⟩
      go_simp
      with_reducible rfl
     rotate_left
     ·simp only [Act.put, List.setIfInBounds_toArray, List.set_cons_zero, List.set_cons_succ, i64_w, i32_w]
      rfl
     refine pure_ (i := 4) (N := some 21) (v := ?_) (a' := ?_) #[true, true, true, true, true, true, false, true, false, false, false, false] rfl rfl (any_of HT_.out (by kernel_rfl)) (fun _ _ _ h => h) (Or.inl ⟨by rfl, ?_⟩) ?_ ?_
     rotate_left
     ·intro w'
      go_simp
      with_reducible rfl
     rotate_left
     ·simp only [Act.put, List.setIfInBounds_toArray, List.set_cons_zero, List.set_cons_succ, i64_w, i32_w]
      rfl
     refine pure_ (i := 10) (N := some 6) (v := ?_) (a' := ?_) #[true, true, true, true, true, true, false, true, false, false, true, false] rfl rfl (any_of HT_.out (by kernel_rfl)) (fun _ _ _ h => h) (Or.inl ⟨by rfl, ?_⟩) ?_ ?_
     rotate_left
     ·intro w'
      go_simp
      with_reducible rfl
     rotate_left
     ·simp only [Act.put, List.setIfInBounds_toArray, List.set_cons_zero, List.set_cons_succ, i64_w, i32_w]
      rfl
     refine take_ (i := 6) (N := some 23) (v := ?_) (a' := ?_) #[true, true, true, true, true, true, true, true, false, false, true, false] rfl rfl (take_ofW HT_.out HW_.out (by kernel_rfl)) (fun _ _ _ h => h) (Or.inl ⟨by rfl, ?_⟩) hHeld ?_ ?_
     rotate_left
     ·rintro w' ⟨s0, s1, s2, s3⟩
      go_simp
      with_reducible rfl
     rotate_left
     ·simp only [Act.put, List.setIfInBounds_toArray, List.set_cons_zero, List.set_cons_succ, i64_w, i32_w]
      rfl
     refine take_ (i := 8) (N := some 25) (v := ?_) (a' := ?_) #[true, true, true, true, true, true, true, true, true, false, true, false] rfl rfl (take_ofW HT_.out HW_.out (by kernel_rfl)) (fun _ _ _ h => h) (Or.inl ⟨by rfl, ?_⟩) hHeld ?_ ?_
     rotate_left
     ·rintro w' ⟨s0, s1, s2, s3⟩
      go_simp
      with_reducible rfl
     rotate_left
     ·simp only [Act.put, List.setIfInBounds_toArray, List.set_cons_zero, List.set_cons_succ, i64_w, i32_w]
      rfl
     refine pure_ (i := 9) (N := some 26) (v := ?_) (a' := ?_) #[true, true, true, true, true, true, true, true, true, true, true, false] rfl rfl (any_of HT_.out (by kernel_rfl)) (fun _ _ _ h => h) (Or.inl ⟨by rfl, ?_⟩) ?_ ?_
     rotate_left
     ·intro w'
      go_simp
      with_reducible rfl
     rotate_left
     ·simp only [Act.put, List.setIfInBounds_toArray, List.set_cons_zero, List.set_cons_succ, i64_w, i32_w]
      rfl
     refine pure_ (i := 11) (N := some 7) (v := ?_) (a' := ?_) #[true, true, true, true, true, true, true, true, true, true, true, true] rfl rfl (any_of HT_.out (by kernel_rfl)) (fun _ _ _ h => h) (Or.inl ⟨by rfl, ?_⟩) ?_ ?_
     rotate_left
     ·intro w'
      go_simp
      with_reducible rfl
     rotate_left
     ·simp only [Act.put, List.setIfInBounds_toArray, List.set_cons_zero, List.set_cons_succ, i64_w, i32_w]
      rfl
     refine done_ (done_of HT_.out (by kernel_rfl)) ?_
     obtain ⟨-, ⟨hnc61, hnb61⟩, -⟩ := BX.out.apart 0 rfl
     have hcz62_0 : w60.cell? ⟨gb678, 0, none⟩ = some (.int .i64 t681) := (blk_cell (BX.out.get 2 rfl) 0).trans rfl
     have hcz62_1 : w60.cell? ⟨gb678, 1, none⟩ = some (.int .i64 t682) := (blk_cell (BX.out.get 2 rfl) 1).trans rfl
     have hfz62_0 := blk_frozen (BX.out.get 2 rfl) 0
     have hfz62_1 := blk_frozen (BX.out.get 2 rfl) 1
     have hcz63_0 : w60.cell? ⟨gb679, 0, none⟩ = some (.int .i64 t683) := (blk_cell (BX.out.get 1 rfl) 0).trans rfl
     have hcz63_1 : w60.cell? ⟨gb679, 1, none⟩ = some (.int .i64 t684) := (blk_cell (BX.out.get 1 rfl) 1).trans rfl
     have hfz63_0 := blk_frozen (BX.out.get 1 rfl) 0
     have hfz63_1 := blk_frozen (BX.out.get 1 rfl) 1
     try go_wp2_with (first | ((with_reducible refine gate_callee (f := 20) rfl ?_); refine goesL_ (some 48) rfl rfl Tryd.func20 (by kernel_rfl) rfl #[.int .i64 (wrap64 ((Int.tmod (wrap64 (t681 * t684)) (wrap64 (t683 * t682))) + (wrap64 (t683 * t682)))), .int .i64 (wrap64 (t682 * t684))] rfl (by (try simp only [List.map_toArray, List.map_cons, List.map_nil]); first | done | rfl | (simp only [List.length_drop, List.length_take]; rfl)) ?_; (with_reducible refine (num_Make.calls k (wrap64 ((Int.tmod (wrap64 (t681 * t684)) (wrap64 (t683 * t682))) + (wrap64 (t683 * t682)))) (wrap64 (t682 * t684)) t688 t689 t690 _ A45.out).mono ?_); rintro e w64 ⟨rfl, hb⟩; refine ⟨_, rfl, ?_⟩; have n0_ := Aside0.mk (Boxes.below (by (with_reducible repeat (first | apply boxes_drewN | apply boxes_drew | apply boxes_alloc)); exact BX.out) hb); have n1_ := Aside0.mk (below_step (by repeat (first | (with_reducible first | exact HB.out | apply below_alloc | apply pw_below_drewN | apply below_drew1 | refine below_set ?_ (Aside0.out (by assumption))) | exact HB.out)) hb); clear BX HB; have BX := n0_; have HB := n1_; clear n0_ n1_; (try clear hb); (try clear hb2); (try clear hk); (try clear hi); have hcz65_0 : w64.cell? ⟨gb680, 0, none⟩ = some (.int .i64 0) := (blk_cell (BX.out.get 0 rfl) 0).trans rfl; have hcz65_1 : w64.cell? ⟨gb680, 1, none⟩ = some (.int .i64 0) := (blk_cell (BX.out.get 0 rfl) 1).trans rfl; have hfz65_0 := blk_frozen (BX.out.get 0 rfl) 0; have hfz65_1 := blk_frozen (BX.out.get 0 rfl) 1))
     refine bodyPost_ret (results_ct rfl _ _ gb680 23 #[.int .i64 t688, .int .i64 t689] (0, 0) _ rfl (by (with_reducible repeat (first | refine blk_drewN ?_ _ | refine blk_drew ?_ | refine blk_alloc ?_ _)); refine blk_put (cs := #[.int .i64 t688, .int .i64 0]) ?_ 1 _ rfl; (with_reducible repeat (first | refine blk_drewN ?_ _ | refine blk_drew ?_ | refine blk_alloc ?_ _)); refine blk_put (cs := #[.int .i64 0, .int .i64 0]) ?_ 0 _ rfl; (with_reducible repeat (first | refine blk_drewN ?_ _ | refine blk_drew ?_ | refine blk_alloc ?_ _)); exact (BX.out.get 0 rfl)) Tryd.underlying23 rfl (by kernel_rfl)) rfl ?_
     exact ⟨by first | rfl | (simp [errW_none, errW_some] <;> rfl) | (simp [*, errW_none, errW_some] <;> rfl), by repeat (first | (with_reducible first | exact HB.out | apply below_alloc | apply pw_below_drewN | apply below_drew1 | refine below_set ?_ (Aside0.out (by assumption))) | exact HB.out)⟩
    ·rw [if_neg c44] at H
     have c44b0 : ((decide ((Int.tmod (wrap64 (t681 * t684)) (wrap64 (t683 * t682))) < 0)) != (decide ((wrap64 (t683 * t682)) < 0))) = false := by simpa using c44
     (try (have c44b1 : decide ((decide ((Int.tmod (wrap64 (t681 * t684)) (wrap64 (t683 * t682))) < 0)) = (decide ((wrap64 (t683 * t682)) < 0))) = true := by simpa using c44))
     (try (have c44b2 : ((decide ((Int.tmod (wrap64 (t681 * t684)) (wrap64 (t683 * t682))) < 0)) == (decide ((wrap64 (t683 * t682)) < 0))) = true := by simpa using c44))
     clear c44
     replace H := Option.bind_eq_some_iff.mp H
     obtain ⟨⟨t691, t692, t693⟩, A660, H⟩ := H
     replace H : (some (t691, t692, t693)) = some (r1, r2, r3) := H
     have A66 := Aside0.mk A660
     clear A660
     simp only [Option.some.injEq, Prod.mk.injEq] at H
     obtain ⟨rfl, rfl, rfl⟩ := H
     go_enter Tryd.func49, Tryd.ntmps49
     try go_wp2_with (first | ((with_reducible refine gate_dst (N := 2) rfl ?_); refine box_event ?hg (N := 2) ?hd (cs := #[.int .i64 a0_0, .int .i64 a0_1]) (t := 23) ?hr ?_; (case hd => rfl); (case hg => rfl); (case hr => first | (go_simp; done) | (go_simp; rfl)); intro gb678 hg w67 hbox hb; have n0_ := Aside0.mk (Boxes.new (b := w.heap.size) (L := []) trivial hg hbox hb (below_size (by repeat (first | (with_reducible first | exact HB.out | apply below_alloc | apply pw_below_drewN | apply below_drew1 | refine below_set ?_ (Aside0.out (by assumption))) | exact HB.out)))); have n1_ := Aside0.mk (below_step (by repeat (first | (with_reducible first | exact HB.out | apply below_alloc | apply pw_below_drewN | apply below_drew1 | refine below_set ?_ (Aside0.out (by assumption))) | exact HB.out)) hb); have n2_ := Aside0.mk ((by rw [hg]; exact (below_size (by repeat (first | (with_reducible first | exact HB.out | apply below_alloc | apply pw_below_drewN | apply below_drew1 | refine below_set ?_ (Aside0.out (by assumption))) | exact HB.out))) : w.heap.size ≤ gb678)); clear HB; have BX := n0_; have HB := n1_; have GE678 := n2_; clear n0_ n1_ n2_; clear hb hbox hg) | ((with_reducible refine gate_dst (N := 3) rfl ?_); refine box_event ?hg (N := 3) ?hd (cs := #[.int .i64 a1_0, .int .i64 a1_1]) (t := 23) ?hr ?_; (case hd => rfl); (case hg => rfl); (case hr => first | (go_simp; done) | (go_simp; rfl)); intro gb679 hg w68 hbox hb; have n0_ := Aside0.mk (Boxes.new (by (with_reducible repeat (first | apply boxes_drewN | apply boxes_drew | apply boxes_alloc)); exact BX.out) hg hbox hb (below_size (by repeat (first | (with_reducible first | exact HB.out | apply below_alloc | apply pw_below_drewN | apply below_drew1 | refine below_set ?_ (Aside0.out (by assumption))) | exact HB.out)))); have n1_ := Aside0.mk (below_step (by repeat (first | (with_reducible first | exact HB.out | apply below_alloc | apply pw_below_drewN | apply below_drew1 | refine below_set ?_ (Aside0.out (by assumption))) | exact HB.out)) hb); have n2_ := Aside0.mk ((by rw [hg]; exact (below_size (by repeat (first | (with_reducible first | exact HB.out | apply below_alloc | apply pw_below_drewN | apply below_drew1 | refine below_set ?_ (Aside0.out (by assumption))) | exact HB.out))) : w.heap.size ≤ gb679)); clear BX HB; have BX := n0_; have HB := n1_; have GE679 := n2_; clear n0_ n1_ n2_; clear hb hbox hg) | ((with_reducible refine gate_dst (N := 4) rfl ?_); refine box_event ?hg (N := 4) ?hd (cs := #[.int .i64 0, .int .i64 0]) (t := 23) ?hr ?_; (case hd => rfl); (case hg => rfl); (case hr => first | (go_simp; done) | (go_simp; rfl)); intro gb680 hg w69 hbox hb; have n0_ := Aside0.mk (Boxes.new (by (with_reducible repeat (first | apply boxes_drewN | apply boxes_drew | apply boxes_alloc)); exact BX.out) hg hbox hb (below_size (by repeat (first | (with_reducible first | exact HB.out | apply below_alloc | apply pw_below_drewN | apply below_drew1 | refine below_set ?_ (Aside0.out (by assumption))) | exact HB.out)))); have n1_ := Aside0.mk (below_step (by repeat (first | (with_reducible first | exact HB.out | apply below_alloc | apply pw_below_drewN | apply below_drew1 | refine below_set ?_ (Aside0.out (by assumption))) | exact HB.out)) hb); have n2_ := Aside0.mk ((by rw [hg]; exact (below_size (by repeat (first | (with_reducible first | exact HB.out | apply below_alloc | apply pw_below_drewN | apply below_drew1 | refine below_set ?_ (Aside0.out (by assumption))) | exact HB.out))) : w.heap.size ≤ gb680)); clear BX HB; have BX := n0_; have HB := n1_; have GE680 := n2_; clear n0_ n1_ n2_; clear hb hbox hg))
     have n0_ := Aside0.mk (boxes_drew BX.out)
     have n1_ := Aside0.mk (below_drew1 HB.out)
     clear BX HB
     have BX := n0_
     have HB := n1_
     clear n0_ n1_
     refine start_ (n := 6) (S := fun w' => w'.cell? ⟨gb678, 0, none⟩ = some (.int .i64 a0_0) ∧ w'.cell? ⟨gb678, 1, none⟩ = some (.int .i64 a0_1) ∧ w'.cell? ⟨gb679, 0, none⟩ = some (.int .i64 a1_0) ∧ w'.cell? ⟨gb679, 1, none⟩ = some (.int .i64 a1_1)) (ds := [4, 5]) #[false, false, false, false, false, false] (by kernel_rfl) rfl rfl ⟨(blk_cell (BX.out.get 2 rfl) 0).trans rfl, (blk_cell (BX.out.get 2 rfl) 1).trans rfl, (blk_cell (BX.out.get 1 rfl) 0).trans rfl, (blk_cell (BX.out.get 1 rfl) 1).trans rfl⟩ (fun hHeld => ?_)
     generalize w69.drew = w70 at BX HB hHeld ⊢
     refine take_ (i := 0) (N := some 9) (v := ?_) (a' := ?_) #[true, false, false, false, false, false] rfl rfl (by kernel_rfl) (fun _ _ _ h => h) (Or.inl ⟨by rfl, ?_⟩) hHeld ?_ ?_
     rotate_left
     ·rintro w' ⟨s0, s1, s2, s3⟩
      go_simp
      with_reducible rfl
     rotate_left
     ·simp only [Act.put, List.setIfInBounds_toArray, List.set_cons_zero, List.set_cons_succ, i64_w, i32_w]
      rfl
     refine take_ (i := 2) (N := some 11) (v := ?_) (a' := ?_) #[true, false, true, false, false, false] rfl rfl (by kernel_rfl) (fun _ _ _ h => h) (Or.inl ⟨by rfl, ?_⟩) hHeld ?_ ?_
     rotate_left
     ·rintro w' ⟨s0, s1, s2, s3⟩
      go_simp
      with_reducible rfl
     rotate_left
     ·simp only [Act.put, List.setIfInBounds_toArray, List.set_cons_zero, List.set_cons_succ, i64_w, i32_w]
      rfl
     refine one_ (i := 1) (N := some 10) #[true, true, true, false, false, false] rfl rfl (by kernel_rfl) (by decide) (fun K hK => ?_)
     refine goes_ Tryd.func63 (by kernel_rfl) rfl #[.agg #[.int .i64 a0_0, .int .i64 a0_1]] (by rfl) rfl rfl (by (try simp only [List.map_toArray, List.map_cons, List.map_nil]); first | done | rfl | (simp only [List.length_drop, List.length_take]; rfl)) ?_
     with_reducible refine (num_taken.calls k a0_0 a0_1 t681 t682 _ A3.out).mono ?_
     rintro e w71 ⟨rfl, hb⟩
     refine ⟨_, rfl, ?_⟩
     have n0_ := Aside0.mk (Boxes.below (by (with_reducible repeat (first | apply boxes_drewN | apply boxes_drew | apply boxes_alloc)); exact BX.out) hb)
     have n1_ := Aside0.mk (below_step (by repeat (first | (with_reducible first | exact HB.out | apply below_alloc | apply pw_below_drewN | apply below_drew1 | refine below_set ?_ (Aside0.out (by assumption))) | exact HB.out)) hb)
     clear BX HB
     have BX := n0_
     have HB := n1_
     clear n0_ n1_
     (try clear hb)
     (try clear hb2)
     (try clear hk)
     (try clear hi)
     refine hK.out _ _ ⟨(blk_cell (BX.out.get 2 rfl) 0).trans rfl, (blk_cell (BX.out.get 2 rfl) 1).trans rfl, (blk_cell (BX.out.get 1 rfl) 0).trans rfl, (blk_cell (BX.out.get 1 rfl) 1).trans rfl⟩ (fun hHeld => ?_)
     clear hK K
     refine norm_ (a' := ?_) ?_ ?_
     rotate_left
     ·show Act.put _ (some 10) _ = _
      simp only [Act.put, List.setIfInBounds_toArray, List.set_cons_zero, List.set_cons_succ, i64_w, i32_w]
      rfl
     refine one_ (i := 3) (N := some 12) #[true, true, true, true, false, false] rfl rfl (by kernel_rfl) (by decide) (fun K hK => ?_)
     refine goes_ Tryd.func63 (by kernel_rfl) rfl #[.agg #[.int .i64 a1_0, .int .i64 a1_1]] (by rfl) rfl rfl (by (try simp only [List.map_toArray, List.map_cons, List.map_nil]); first | done | rfl | (simp only [List.length_drop, List.length_take]; rfl)) ?_
     with_reducible refine (num_taken.calls k a1_0 a1_1 t683 t684 _ A4.out).mono ?_
     rintro e w72 ⟨rfl, hb⟩
     refine ⟨_, rfl, ?_⟩
     have n0_ := Aside0.mk (Boxes.below (by (with_reducible repeat (first | apply boxes_drewN | apply boxes_drew | apply boxes_alloc)); exact BX.out) hb)
     have n1_ := Aside0.mk (below_step (by repeat (first | (with_reducible first | exact HB.out | apply below_alloc | apply pw_below_drewN | apply below_drew1 | refine below_set ?_ (Aside0.out (by assumption))) | exact HB.out)) hb)
     clear BX HB
     have BX := n0_
     have HB := n1_
     clear n0_ n1_
     (try clear hb)
     (try clear hb2)
     (try clear hk)
     (try clear hi)
     refine hK.out _ _ ⟨(blk_cell (BX.out.get 2 rfl) 0).trans rfl, (blk_cell (BX.out.get 2 rfl) 1).trans rfl, (blk_cell (BX.out.get 1 rfl) 0).trans rfl, (blk_cell (BX.out.get 1 rfl) 1).trans rfl⟩ (fun hHeld => ?_)
     clear hK K
     refine norm_ (a' := ?_) ?_ ?_
     rotate_left
     ·show Act.put _ (some 12) _ = _
      simp only [Act.put, List.setIfInBounds_toArray, List.set_cons_zero, List.set_cons_succ, i64_w, i32_w]
      rfl
     refine last_ (i := 4) (N := none) #[true, true, true, true, true, false] rfl rfl (by kernel_rfl) (by decide) (fun K hK => ?_)
     have hs73 : w72.cell? ⟨gb678, 0, none⟩ = some (.int .i64 a0_0) := (blk_cell (BX.out.get 2 rfl) 0).trans rfl
     have hfs73 := blk_frozen (BX.out.get 2 rfl) 0
     obtain ⟨⟨hms73_2, hns73_2⟩, ⟨hms73_1, hns73_1⟩, -⟩ := BX.out.apart 2 rfl
     have hs74 : w72.cell? ⟨gb678, 1, none⟩ = some (.int .i64 a0_1) := (blk_cell (BX.out.get 2 rfl) 1).trans rfl
     have hfs74 := blk_frozen (BX.out.get 2 rfl) 1
     obtain ⟨⟨hms74_2, hns74_2⟩, ⟨hms74_1, hns74_1⟩, -⟩ := BX.out.apart 2 rfl
     refine skip_ (w1 := ?_) (by rfl) rfl ?_ ?_
     rotate_left
     ·go_simp
      rfl
     refine hK.out _ _ ?_
     clear hK K
     refine last_ (i := 5) (N := none) #[true, true, true, true, true, true] rfl rfl (by kernel_rfl) (by decide) (fun K hK => ?_)
     have hs75 : w72.cell? ⟨gb679, 0, none⟩ = some (.int .i64 a1_0) := (blk_cell (BX.out.get 1 rfl) 0).trans rfl
     have hfs75 := blk_frozen (BX.out.get 1 rfl) 0
     obtain ⟨⟨hms75_2, hns75_2⟩, ⟨hms75_0, hns75_0⟩, -⟩ := BX.out.apart 1 rfl
     have hs76 : w72.cell? ⟨gb679, 1, none⟩ = some (.int .i64 a1_1) := (blk_cell (BX.out.get 1 rfl) 1).trans rfl
     have hfs76 := blk_frozen (BX.out.get 1 rfl) 1
     obtain ⟨⟨hms76_2, hns76_2⟩, ⟨hms76_0, hns76_0⟩, -⟩ := BX.out.apart 1 rfl
     refine skip_ (w1 := ?_) (by rfl) rfl ?_ ?_
     rotate_left
     ·go_simp
      rfl
     refine hK.out _ _ ?_
     clear hK K
     refine done_ (by kernel_rfl) ?_
     obtain ⟨⟨hnb78, hnc78⟩, ⟨hnb77, hnc77⟩, -⟩ := BX.out.apart 1 rfl
     have hcz79_0 : w72.cell? ⟨gb679, 0, none⟩ = some (.int .i64 a1_0) := (blk_cell (BX.out.get 1 rfl) 0).trans rfl
     have hcz79_1 : w72.cell? ⟨gb679, 1, none⟩ = some (.int .i64 a1_1) := (blk_cell (BX.out.get 1 rfl) 1).trans rfl
     have hfz79_0 := blk_frozen (BX.out.get 1 rfl) 0
     have hfz79_1 := blk_frozen (BX.out.get 1 rfl) 1
     try go_wp2
     have n0_ : Aside0 (Boxes w.heap.size ((((w72.setCell ⟨gb678, 0, none⟩ (.int .i64 t681)).setCell ⟨gb678, 1, none⟩ (.int .i64 t682)).setCell ⟨gb679, 0, none⟩ (.int .i64 t683)).setCell ⟨gb679, 1, none⟩ (.int .i64 t684)) (_ :: (gb679, 23, #[.int .i64 t683, .int .i64 t684]) :: (gb678, 23, #[.int .i64 t681, .int .i64 t682]) :: _)) := ⟨by (with_reducible repeat (first | apply boxes_drewN | apply boxes_drew | apply boxes_alloc)); apply boxes_put 1; (with_reducible repeat (first | apply boxes_drewN | apply boxes_drew | apply boxes_alloc)); apply boxes_put 1; (with_reducible repeat (first | apply boxes_drewN | apply boxes_drew | apply boxes_alloc)); apply boxes_put 2; (with_reducible repeat (first | apply boxes_drewN | apply boxes_drew | apply boxes_alloc)); apply boxes_put 2; (with_reducible repeat (first | apply boxes_drewN | apply boxes_drew | apply boxes_alloc)); exact BX.out; any_goals rfl⟩
     have n1_ : Aside0 (Below w.heap.size w ((((w72.setCell ⟨gb678, 0, none⟩ (.int .i64 t681)).setCell ⟨gb678, 1, none⟩ (.int .i64 t682)).setCell ⟨gb679, 0, none⟩ (.int .i64 t683)).setCell ⟨gb679, 1, none⟩ (.int .i64 t684))) := ⟨by repeat (first | (with_reducible first | exact HB.out | apply below_alloc | apply pw_below_drewN | apply below_drew1 | refine below_set ?_ (Aside0.out (by assumption))) | exact HB.out)⟩
     (try clear BX)
     (try clear HB)
     generalize ((((w72.setCell ⟨gb678, 0, none⟩ (.int .i64 t681)).setCell ⟨gb678, 1, none⟩ (.int .i64 t682)).setCell ⟨gb679, 0, none⟩ (.int .i64 t683)).setCell ⟨gb679, 1, none⟩ (.int .i64 t684)) = w80 at n0_ n1_ ⊢
     have BX := n0_
     have HB := n1_
     clear n0_ n1_
     have n0_ := Aside0.mk (boxes_drew BX.out)
     have n1_ := Aside0.mk (below_drew1 HB.out)
     clear BX HB
     have BX := n0_
     have HB := n1_
     clear n0_ n1_
     refine start_ (n := 12) (S := fun w' => w'.cell? ⟨gb678, 0, none⟩ = some (.int .i64 t681) ∧ w'.cell? ⟨gb678, 1, none⟩ = some (.int .i64 t682) ∧ w'.cell? ⟨gb679, 0, none⟩ = some (.int .i64 t683) ∧ w'.cell? ⟨gb679, 1, none⟩ = some (.int .i64 t684)) (ds := []) #[false, false, false, false, false, false, false, false, false, false, false, false] (by kernel_rfl) rfl rfl ⟨(blk_cell (BX.out.get 2 rfl) 0).trans rfl, (blk_cell (BX.out.get 2 rfl) 1).trans rfl, (blk_cell (BX.out.get 1 rfl) 0).trans rfl, (blk_cell (BX.out.get 1 rfl) 1).trans rfl⟩ (fun hHeld => ?_); refine with_tabW num_Mod.tab4 num_Mod.bits4 (fun HT_ HW_ => ?_)
     generalize w80.drew = w81 at BX HB hHeld ⊢
     refine pure_ (i := 0) (N := some 17) (v := ?_) (a' := ?_) #[true, false, false, false, false, false, false, false, false, false, false, false] rfl rfl (any_of HT_.out (by kernel_rfl)) (fun _ _ _ h => h) (Or.inl ⟨by rfl, ?_⟩) ?_ ?_
     rotate_left
     ·intro w'
      go_simp
      with_reducible rfl
     rotate_left
     ·simp only [Act.put, List.setIfInBounds_toArray, List.set_cons_zero, List.set_cons_succ, i64_w, i32_w]
      rfl
     refine pure_ (i := 2) (N := some 19) (v := ?_) (a' := ?_) #[true, false, true, false, false, false, false, false, false, false, false, false] rfl rfl (any_of HT_.out (by kernel_rfl)) (fun _ _ _ h => h) (Or.inl ⟨by rfl, ?_⟩) ?_ ?_
     rotate_left
     ·intro w'
      go_simp
      with_reducible rfl
     rotate_left
     ·simp only [Act.put, List.setIfInBounds_toArray, List.set_cons_zero, List.set_cons_succ, i64_w, i32_w]
      rfl
     refine pure_ (i := 5) (N := some 22) (v := ?_) (a' := ?_) #[true, false, true, false, false, true, false, false, false, false, false, false] rfl rfl (any_of HT_.out (by kernel_rfl)) (fun _ _ _ h => h) (Or.inl ⟨by rfl, ?_⟩) ?_ ?_
     rotate_left
     ·intro w'
      go_simp
      with_reducible rfl
     rotate_left
     ·simp only [Act.put, List.setIfInBounds_toArray, List.set_cons_zero, List.set_cons_succ, i64_w, i32_w]
      rfl
     refine pure_ (i := 7) (N := some 24) (v := ?_) (a' := ?_) #[true, false, true, false, false, true, false, true, false, false, false, false] rfl rfl (any_of HT_.out (by kernel_rfl)) (fun _ _ _ h => h) (Or.inl ⟨by rfl, ?_⟩) ?_ ?_
     rotate_left
     ·intro w'
      go_simp
      with_reducible rfl
     rotate_left
     ·simp only [Act.put, List.setIfInBounds_toArray, List.set_cons_zero, List.set_cons_succ, i64_w, i32_w]
      rfl
     refine take_ (i := 1) (N := some 18) (v := ?_) (a' := ?_) #[true, true, true, false, false, true, false, true, false, false, false, false] rfl rfl (take_ofW HT_.out HW_.out (by kernel_rfl)) (fun _ _ _ h => h) (Or.inl ⟨by rfl, ?_⟩) hHeld ?_ ?_
     rotate_left
     ·rintro w' ⟨s0, s1, s2, s3⟩
      go_simp
      with_reducible rfl
     rotate_left
     ·simp only [Act.put, List.setIfInBounds_toArray, List.set_cons_zero, List.set_cons_succ, i64_w, i32_w]
      rfl
     refine take_ (i := 3) (N := some 20) (v := ?_) (a' := ?_) #[true, true, true, true, false, true, false, true, false, false, false, false] rfl rfl (take_ofW HT_.out HW_.out (by kernel_rfl)) (fun _ _ _ h => h) (Or.inl ⟨by rfl, ?_⟩) hHeld ?_ ?_
     rotate_left
     ·rintro w' ⟨s0, s1, s2, s3⟩
      go_simp
      with_reducible rfl
     rotate_left
     ·simp only [Act.put, List.setIfInBounds_toArray, List.set_cons_zero, List.set_cons_succ, i64_w, i32_w]
      rfl
     refine pure_ (i := 4) (N := some 21) (v := ?_) (a' := ?_) #[true, true, true, true, true, true, false, true, false, false, false, false] rfl rfl (any_of HT_.out (by kernel_rfl)) (fun _ _ _ h => h) (Or.inl ⟨by rfl, ?_⟩) ?_ ?_
     rotate_left
     ·intro w'
      go_simp
      with_reducible rfl
     rotate_left
     ·simp only [Act.put, List.setIfInBounds_toArray, List.set_cons_zero, List.set_cons_succ, i64_w, i32_w]
      rfl
     refine pure_ (i := 10) (N := some 6) (v := ?_) (a' := ?_) #[true, true, true, true, true, true, false, true, false, false, true, false] rfl rfl (any_of HT_.out (by kernel_rfl)) (fun _ _ _ h => h) (Or.inl ⟨by rfl, ?_⟩) ?_ ?_
     rotate_left
     ·intro w'
      go_simp
      with_reducible rfl
     rotate_left
     ·simp only [Act.put, List.setIfInBounds_toArray, List.set_cons_zero, List.set_cons_succ, i64_w, i32_w]
      rfl
     refine take_ (i := 6) (N := some 23) (v := ?_) (a' := ?_) #[true, true, true, true, true, true, true, true, false, false, true, false] rfl rfl (take_ofW HT_.out HW_.out (by kernel_rfl)) (fun _ _ _ h => h) (Or.inl ⟨by rfl, ?_⟩) hHeld ?_ ?_
     rotate_left
     ·rintro w' ⟨s0, s1, s2, s3⟩
      go_simp
      with_reducible rfl
     rotate_left
     ·simp only [Act.put, List.setIfInBounds_toArray, List.set_cons_zero, List.set_cons_succ, i64_w, i32_w]
      rfl
     refine take_ (i := 8) (N := some 25) (v := ?_) (a' := ?_) #[true, true, true, true, true, true, true, true, true, false, true, false] rfl rfl (take_ofW HT_.out HW_.out (by kernel_rfl)) (fun _ _ _ h => h) (Or.inl ⟨by rfl, ?_⟩) hHeld ?_ ?_
     rotate_left
     ·rintro w' ⟨s0, s1, s2, s3⟩
      go_simp
      with_reducible rfl
     rotate_left
     ·simp only [Act.put, List.setIfInBounds_toArray, List.set_cons_zero, List.set_cons_succ, i64_w, i32_w]
      rfl
     refine pure_ (i := 9) (N := some 26) (v := ?_) (a' := ?_) #[true, true, true, true, true, true, true, true, true, true, true, false] rfl rfl (any_of HT_.out (by kernel_rfl)) (fun _ _ _ h => h) (Or.inl ⟨by rfl, ?_⟩) ?_ ?_
     rotate_left
     ·intro w'
      go_simp
      with_reducible rfl
     rotate_left
     ·simp only [Act.put, List.setIfInBounds_toArray, List.set_cons_zero, List.set_cons_succ, i64_w, i32_w]
      rfl
     refine pure_ (i := 11) (N := some 7) (v := ?_) (a' := ?_) #[true, true, true, true, true, true, true, true, true, true, true, true] rfl rfl (any_of HT_.out (by kernel_rfl)) (fun _ _ _ h => h) (Or.inl ⟨by rfl, ?_⟩) ?_ ?_
     rotate_left
     ·intro w'
      go_simp
      with_reducible rfl
     rotate_left
     ·simp only [Act.put, List.setIfInBounds_toArray, List.set_cons_zero, List.set_cons_succ, i64_w, i32_w]
      rfl
     refine done_ (done_of HT_.out (by kernel_rfl)) ?_
     obtain ⟨-, ⟨hnc82, hnb82⟩, -⟩ := BX.out.apart 0 rfl
     have hcz83_0 : w81.cell? ⟨gb678, 0, none⟩ = some (.int .i64 t681) := (blk_cell (BX.out.get 2 rfl) 0).trans rfl
     have hcz83_1 : w81.cell? ⟨gb678, 1, none⟩ = some (.int .i64 t682) := (blk_cell (BX.out.get 2 rfl) 1).trans rfl
     have hfz83_0 := blk_frozen (BX.out.get 2 rfl) 0
     have hfz83_1 := blk_frozen (BX.out.get 2 rfl) 1
     have hcz84_0 : w81.cell? ⟨gb679, 0, none⟩ = some (.int .i64 t683) := (blk_cell (BX.out.get 1 rfl) 0).trans rfl
     have hcz84_1 : w81.cell? ⟨gb679, 1, none⟩ = some (.int .i64 t684) := (blk_cell (BX.out.get 1 rfl) 1).trans rfl
     have hfz84_0 := blk_frozen (BX.out.get 1 rfl) 0
     have hfz84_1 := blk_frozen (BX.out.get 1 rfl) 1
     try go_wp2_with (first | ((with_reducible refine gate_callee (f := 20) rfl ?_); refine goesL_ (some 48) rfl rfl Tryd.func20 (by kernel_rfl) rfl #[.int .i64 (Int.tmod (wrap64 (t681 * t684)) (wrap64 (t683 * t682))), .int .i64 (wrap64 (t682 * t684))] rfl (by (try simp only [List.map_toArray, List.map_cons, List.map_nil]); first | done | rfl | (simp only [List.length_drop, List.length_take]; rfl)) ?_; (with_reducible refine (num_Make.calls k (Int.tmod (wrap64 (t681 * t684)) (wrap64 (t683 * t682))) (wrap64 (t682 * t684)) t691 t692 t693 _ A66.out).mono ?_); rintro e w85 ⟨rfl, hb⟩; refine ⟨_, rfl, ?_⟩; have n0_ := Aside0.mk (Boxes.below (by (with_reducible repeat (first | apply boxes_drewN | apply boxes_drew | apply boxes_alloc)); exact BX.out) hb); have n1_ := Aside0.mk (below_step (by repeat (first | (with_reducible first | exact HB.out | apply below_alloc | apply pw_below_drewN | apply below_drew1 | refine below_set ?_ (Aside0.out (by assumption))) | exact HB.out)) hb); clear BX HB; have BX := n0_; have HB := n1_; clear n0_ n1_; (try clear hb); (try clear hb2); (try clear hk); (try clear hi); have hcz86_0 : w85.cell? ⟨gb680, 0, none⟩ = some (.int .i64 0) := (blk_cell (BX.out.get 0 rfl) 0).trans rfl; have hcz86_1 : w85.cell? ⟨gb680, 1, none⟩ = some (.int .i64 0) := (blk_cell (BX.out.get 0 rfl) 1).trans rfl; have hfz86_0 := blk_frozen (BX.out.get 0 rfl) 0; have hfz86_1 := blk_frozen (BX.out.get 0 rfl) 1))
     refine bodyPost_ret (results_ct rfl _ _ gb680 23 #[.int .i64 t691, .int .i64 t692] (0, 0) _ rfl (by (with_reducible repeat (first | refine blk_drewN ?_ _ | refine blk_drew ?_ | refine blk_alloc ?_ _)); refine blk_put (cs := #[.int .i64 t691, .int .i64 0]) ?_ 1 _ rfl; (with_reducible repeat (first | refine blk_drewN ?_ _ | refine blk_drew ?_ | refine blk_alloc ?_ _)); refine blk_put (cs := #[.int .i64 0, .int .i64 0]) ?_ 0 _ rfl; (with_reducible repeat (first | refine blk_drewN ?_ _ | refine blk_drew ?_ | refine blk_alloc ?_ _)); exact (BX.out.get 0 rfl)) Tryd.underlying23 rfl (by kernel_rfl)) rfl ?_
     exact ⟨by first | rfl | (simp [errW_none, errW_some] <;> rfl) | (simp [*, errW_none, errW_some] <;> rfl), by repeat (first | (with_reducible first | exact HB.out | apply below_alloc | apply pw_below_drewN | apply below_drew1 | refine below_set ?_ (Aside0.out (by assumption))) | exact HB.out)⟩

end Go.Proofs.YtlcjfabbnclalaaDoor.F
