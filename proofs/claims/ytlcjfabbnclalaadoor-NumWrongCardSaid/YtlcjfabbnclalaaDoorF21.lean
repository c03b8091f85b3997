-- Laid by program (wip/tools/gen.sh of this repo) out of the translation; Lean checks it.
import Derived.Test.YtlcjfabbnclalaaDoorF0
import Derived.Test.YtlcjfabbnclalaaDoorB0
import Derived.Test.YtlcjfabbnclalaaDoorF2
namespace Go.Proofs.YtlcjfabbnclalaaDoor.F
open Go.RowKit Go.Proofs.YtlcjfabbnclalaaDoorW.PrintWords Go.Proofs.YtlcjfabbnclalaaDoorW.PrintLast Go.Proofs.YtlcjfabbnclalaaDoorW.PrintMore
attribute [local go_sem] max2_int min2_int max_two min_two max_three min_three max_four min_four   -- for this text's walks alone
set_option linter.unusedVariables false
set_option linter.unusedSimpArgs false

/-! ### num_product: function 73 -/
def num_product.j0 : Nat → Int → Int → Int → Int → Bool → Option (Int × Int × Bool)
 | 0, _, _, _, _, _ => none
 | k + 1, x0, x1, x2, x3, x51 => if x51 = true then (some (0, 0, false)) else (if (wrap64 (x0 * x2)) = 0 then (some (0, 1, true)) else (some (wrap64 (x0 * x2), wrap64 (x1 * x3), true)))
def num_product.f (k : Nat) (a0 : Int) (a1 : Int) (a2 : Int) (a3 : Int) : Option (Int × Int × Bool) := (num_size.f a0).bind fun t391 => ((num_gcd.f k t391 (IntKind.u64.wrap (a3))).bind fun t392 => ((num_size.f a2).bind fun t393 => ((num_gcd.f k t393 (IntKind.u64.wrap (a1))).bind fun t394 => (if (wrap64 (t392)) = 0 then (none) else (if (wrap64 (t394)) = 0 then (none) else (if (wrap64 (Int.tdiv a2 (wrap64 (t394)))) = 0 then (num_product.j0 k (wrap64 (Int.tdiv a0 (wrap64 (t392)))) (wrap64 (Int.tdiv a1 (wrap64 (t394)))) (wrap64 (Int.tdiv a2 (wrap64 (t394)))) (wrap64 (Int.tdiv a3 (wrap64 (t392)))) (decide ((wrap64 ((wrap64 (Int.tdiv a1 (wrap64 (t394)))) * (wrap64 (Int.tdiv a3 (wrap64 (t392)))))) > 1000000))) else ((num_size.f (wrap64 (Int.tdiv a0 (wrap64 (t392))))).bind fun t395 => ((num_size.f (wrap64 (Int.tdiv a2 (wrap64 (t394))))).bind fun t396 => (if t396 = 0 then (none) else (if t395 > (IntKind.u64.wrap (Int.tdiv (1000000000000 : Int) t396)) then (num_product.j0 k (wrap64 (Int.tdiv a0 (wrap64 (t392)))) (wrap64 (Int.tdiv a1 (wrap64 (t394)))) (wrap64 (Int.tdiv a2 (wrap64 (t394)))) (wrap64 (Int.tdiv a3 (wrap64 (t392)))) true) else (num_product.j0 k (wrap64 (Int.tdiv a0 (wrap64 (t392)))) (wrap64 (Int.tdiv a1 (wrap64 (t394)))) (wrap64 (Int.tdiv a2 (wrap64 (t394)))) (wrap64 (Int.tdiv a3 (wrap64 (t392)))) (decide ((wrap64 ((wrap64 (Int.tdiv a1 (wrap64 (t394)))) * (wrap64 (Int.tdiv a3 (wrap64 (t392)))))) > 1000000)))))))))))))
theorem num_product.mono_l : ∀ k, (∀ y0 y1 y2 y3 y4, LeO (num_product.j0 k y0 y1 y2 y3 y4) (num_product.j0 (k + 1) y0 y1 y2 y3 y4))
 | 0 => fun _ _ _ _ _ r h => by simp [num_product.j0] at h
 | k + 1 => by
  have ih0 := num_product.mono_l k
  ·intro y0 y1 y2 y3 y4
   unfold num_product.j0
   repeat' first
   | (with_reducible exact ih0 _ _ _ _ _)
   | (with_reducible exact num_gcd.mono _ _ _)
   | (with_reducible exact LeO.refl _)
   | (with_reducible exact LeO.none _)
   | (with_reducible refine LeO.ite ?_ ?_)
   | (with_reducible refine LeO.bind ?_ (fun _ => ?_))
   | exact ih0 _ _ _ _ _
   | exact num_gcd.mono _ _ _
   | exact LeO.none _
   | refine LeO.ite ?_ ?_
   | refine LeO.bind ?_ (fun _ => ?_)
theorem num_product.mono : ∀ a0 a1 a2 a3 k, LeO (num_product.f k a0 a1 a2 a3) (num_product.f (k + 1) a0 a1 a2 a3) := by
 intro a0 a1 a2 a3 k
 have ih0 := num_product.mono_l k
 unfold num_product.f
 repeat' first
   | (with_reducible exact ih0 _ _ _ _ _)
   | (with_reducible exact num_gcd.mono _ _ _)
   | (with_reducible exact LeO.refl _)
   | (with_reducible exact LeO.none _)
   | (with_reducible refine LeO.ite ?_ ?_)
   | (with_reducible refine LeO.bind ?_ (fun _ => ?_))
   | exact ih0 _ _ _ _ _
   | exact num_gcd.mono _ _ _
   | exact LeO.none _
   | refine LeO.ite ?_ ?_
   | refine LeO.bind ?_ (fun _ => ?_)
set_option maxHeartbeats 8000000 in
set_option maxRecDepth 100000 in
theorem num_product.calls (k : Nat) (a0 : Int) (a1 : Int) (a2 : Int) (a3 : Int) (r1 : Int) (r2 : Int) (r3 : Bool) (w : World) (h : num_product.f k a0 a1 a2 a3 = some (r1, r2, r3)) :
  Calls Tryd.prog 73 #[.int .i64 a0, .int .i64 a1, .int .i64 a2, .int .i64 a3] w fun e w' => e = .returned (.tuple #[.agg #[.int .i64 r1, .int .i64 r2], .bool r3]) ∧ Below w.heap.size w w' := by
 have hu23 := Tryd.underlying23
 have HB := Aside0.mk (Below.refl w.heap.size w)
 have H : ((num_size.f a0).bind fun t391 => ((num_gcd.f k t391 (IntKind.u64.wrap (a3))).bind fun t392 => ((num_size.f a2).bind fun t393 => ((num_gcd.f k t393 (IntKind.u64.wrap (a1))).bind fun t394 => (if (wrap64 (t392)) = 0 then (none) else (if (wrap64 (t394)) = 0 then (none) else (if (wrap64 (Int.tdiv a2 (wrap64 (t394)))) = 0 then (num_product.j0 k (wrap64 (Int.tdiv a0 (wrap64 (t392)))) (wrap64 (Int.tdiv a1 (wrap64 (t394)))) (wrap64 (Int.tdiv a2 (wrap64 (t394)))) (wrap64 (Int.tdiv a3 (wrap64 (t392)))) (decide ((wrap64 ((wrap64 (Int.tdiv a1 (wrap64 (t394)))) * (wrap64 (Int.tdiv a3 (wrap64 (t392)))))) > 1000000))) else ((num_size.f (wrap64 (Int.tdiv a0 (wrap64 (t392))))).bind fun t395 => ((num_size.f (wrap64 (Int.tdiv a2 (wrap64 (t394))))).bind fun t396 => (if t396 = 0 then (none) else (if t395 > (IntKind.u64.wrap (Int.tdiv (1000000000000 : Int) t396)) then (num_product.j0 k (wrap64 (Int.tdiv a0 (wrap64 (t392)))) (wrap64 (Int.tdiv a1 (wrap64 (t394)))) (wrap64 (Int.tdiv a2 (wrap64 (t394)))) (wrap64 (Int.tdiv a3 (wrap64 (t392)))) true) else (num_product.j0 k (wrap64 (Int.tdiv a0 (wrap64 (t392)))) (wrap64 (Int.tdiv a1 (wrap64 (t394)))) (wrap64 (Int.tdiv a2 (wrap64 (t394)))) (wrap64 (Int.tdiv a3 (wrap64 (t392)))) (decide ((wrap64 ((wrap64 (Int.tdiv a1 (wrap64 (t394)))) * (wrap64 (Int.tdiv a3 (wrap64 (t392)))))) > 1000000)))))))))))))) = some (r1, r2, r3) := h
 clear h
 replace H := Option.bind_eq_some_iff.mp H
 obtain ⟨t391, A50, H⟩ := H
 have A5 := Aside0.mk A50
 clear A50
 replace H := Option.bind_eq_some_iff.mp H
 obtain ⟨t392, A60, H⟩ := H
 have A6 := Aside0.mk A60
 clear A60
 replace H := Option.bind_eq_some_iff.mp H
 obtain ⟨t393, A70, H⟩ := H
 have A7 := Aside0.mk A70
 clear A70
 replace H := Option.bind_eq_some_iff.mp H
 obtain ⟨t394, A80, H⟩ := H
 replace H : (if (wrap64 (t392)) = 0 then (none) else (if (wrap64 (t394)) = 0 then (none) else (if (wrap64 (Int.tdiv a2 (wrap64 (t394)))) = 0 then (num_product.j0 k (wrap64 (Int.tdiv a0 (wrap64 (t392)))) (wrap64 (Int.tdiv a1 (wrap64 (t394)))) (wrap64 (Int.tdiv a2 (wrap64 (t394)))) (wrap64 (Int.tdiv a3 (wrap64 (t392)))) (decide ((wrap64 ((wrap64 (Int.tdiv a1 (wrap64 (t394)))) * (wrap64 (Int.tdiv a3 (wrap64 (t392)))))) > 1000000))) else ((num_size.f (wrap64 (Int.tdiv a0 (wrap64 (t392))))).bind fun t395 => ((num_size.f (wrap64 (Int.tdiv a2 (wrap64 (t394))))).bind fun t396 => (if t396 = 0 then (none) else (if t395 > (IntKind.u64.wrap (Int.tdiv (1000000000000 : Int) t396)) then (num_product.j0 k (wrap64 (Int.tdiv a0 (wrap64 (t392)))) (wrap64 (Int.tdiv a1 (wrap64 (t394)))) (wrap64 (Int.tdiv a2 (wrap64 (t394)))) (wrap64 (Int.tdiv a3 (wrap64 (t392)))) true) else (num_product.j0 k (wrap64 (Int.tdiv a0 (wrap64 (t392)))) (wrap64 (Int.tdiv a1 (wrap64 (t394)))) (wrap64 (Int.tdiv a2 (wrap64 (t394)))) (wrap64 (Int.tdiv a3 (wrap64 (t392)))) (decide ((wrap64 ((wrap64 (Int.tdiv a1 (wrap64 (t394)))) * (wrap64 (Int.tdiv a3 (wrap64 (t392)))))) > 1000000)))))))))) = some (r1, r2, r3) := H
 have A8 := Aside0.mk A80
 clear A80
 by_cases c9 : (wrap64 (t392)) = 0
 ·rw [if_pos c9] at H
  exact absurd H (by simp)
 ·rw [if_neg c9] at H
  have c9b0 : ((wrap64 (t392)) == 0) = false := beq_eq_false_iff_ne.mpr c9
  have c9b1 : ((wrap64 (t392)) != 0) = true := bne_iff_ne.mpr c9
  by_cases c10 : (wrap64 (t394)) = 0
  ·rw [if_pos c10] at H
   exact absurd H (by simp)
  ·rw [if_neg c10] at H
   have c10b0 : ((wrap64 (t394)) == 0) = false := beq_eq_false_iff_ne.mpr c10
   have c10b1 : ((wrap64 (t394)) != 0) = true := bne_iff_ne.mpr c10
   have HC11 := Aside0.mk H
   clear H
   go_enter Tryd.func73, Tryd.ntmps73
   go_upto_region 3 with (first | ((with_reducible refine gate_dst (N := 8) rfl ?_); refine box_event ?hg (N := 8) ?hd (cs := #[.int .i64 0, .int .i64 0]) (t := 23) ?hr ?_; (case hd => rfl); (case hg => rfl); (case hr => first | (go_simp; done) | (go_simp; rfl)); intro gb390 hg w12 hbox hb; have n0_ := Aside0.mk (Boxes.new (b := w.heap.size) (L := []) trivial hg hbox hb (below_size (by repeat (first | (with_reducible first | exact HB.out | apply below_alloc | apply pw_below_drewN | apply below_drew1 | refine below_set ?_ (Aside0.out (by assumption))) | exact HB.out)))); have n1_ := Aside0.mk (below_step (by repeat (first | (with_reducible first | exact HB.out | apply below_alloc | apply pw_below_drewN | apply below_drew1 | refine below_set ?_ (Aside0.out (by assumption))) | exact HB.out)) hb); have n2_ := Aside0.mk ((by rw [hg]; exact (below_size (by repeat (first | (with_reducible first | exact HB.out | apply below_alloc | apply pw_below_drewN | apply below_drew1 | refine below_set ?_ (Aside0.out (by assumption))) | exact HB.out))) : w.heap.size ≤ gb390)); clear HB; have BX := n0_; have HB := n1_; have GE390 := n2_; clear n0_ n1_ n2_; clear hb hbox hg) | (go_at_call 58; (with_reducible refine (num_size.calls a0 t391 _ A5.out).mono ?_); rintro e w' ⟨rfl, ⟨nd, rfl⟩⟩; (try first | exact ⟨rfl, _, World.drewN_drewN _ _ _⟩ | exact ⟨rfl, _, Eq.trans (World.drewN_drewN _ _ _) (congrArg (World.drewN _) (Nat.add_assoc _ _ _))⟩)) | (go_at_call 59; (with_reducible refine (num_gcd.calls k t391 (IntKind.u64.wrap (a3)) t392 _ A6.out).mono ?_); rintro e w' ⟨rfl, ⟨nd, rfl⟩⟩; (try first | exact ⟨rfl, _, World.drewN_drewN _ _ _⟩ | exact ⟨rfl, _, Eq.trans (World.drewN_drewN _ _ _) (congrArg (World.drewN _) (Nat.add_assoc _ _ _))⟩)) | (go_at_call 58; (with_reducible refine (num_size.calls a2 t393 _ A7.out).mono ?_); rintro e w' ⟨rfl, ⟨nd, rfl⟩⟩; (try first | exact ⟨rfl, _, World.drewN_drewN _ _ _⟩ | exact ⟨rfl, _, Eq.trans (World.drewN_drewN _ _ _) (congrArg (World.drewN _) (Nat.add_assoc _ _ _))⟩)) | (go_at_call 59; (with_reducible refine (num_gcd.calls k t393 (IntKind.u64.wrap (a1)) t394 _ A8.out).mono ?_); rintro e w' ⟨rfl, ⟨nd, rfl⟩⟩; (try first | exact ⟨rfl, _, World.drewN_drewN _ _ _⟩ | exact ⟨rfl, _, Eq.trans (World.drewN_drewN _ _ _) (congrArg (World.drewN _) (Nat.add_assoc _ _ _))⟩)))
   repeat (go_quiet (first | ((with_reducible refine gate_dst (N := 8) rfl ?_); refine box_event ?hg (N := 8) ?hd (cs := #[.int .i64 0, .int .i64 0]) (t := 23) ?hr ?_; (case hd => rfl); (case hg => rfl); (case hr => first | (go_simp; done) | (go_simp; rfl)); intro gb390 hg w12 hbox hb; have n0_ := Aside0.mk (Boxes.new (b := w.heap.size) (L := []) trivial hg hbox hb (below_size (by repeat (first | (with_reducible first | exact HB.out | apply below_alloc | apply pw_below_drewN | apply below_drew1 | refine below_set ?_ (Aside0.out (by assumption))) | exact HB.out)))); have n1_ := Aside0.mk (below_step (by repeat (first | (with_reducible first | exact HB.out | apply below_alloc | apply pw_below_drewN | apply below_drew1 | refine below_set ?_ (Aside0.out (by assumption))) | exact HB.out)) hb); have n2_ := Aside0.mk ((by rw [hg]; exact (below_size (by repeat (first | (with_reducible first | exact HB.out | apply below_alloc | apply pw_below_drewN | apply below_drew1 | refine below_set ?_ (Aside0.out (by assumption))) | exact HB.out))) : w.heap.size ≤ gb390)); clear HB; have BX := n0_; have HB := n1_; have GE390 := n2_; clear n0_ n1_ n2_; clear hb hbox hg) | (go_at_call 58; (with_reducible refine (num_size.calls a0 t391 _ A5.out).mono ?_); rintro e w' ⟨rfl, ⟨nd, rfl⟩⟩; (try first | exact ⟨rfl, _, World.drewN_drewN _ _ _⟩ | exact ⟨rfl, _, Eq.trans (World.drewN_drewN _ _ _) (congrArg (World.drewN _) (Nat.add_assoc _ _ _))⟩)) | (go_at_call 59; (with_reducible refine (num_gcd.calls k t391 (IntKind.u64.wrap (a3)) t392 _ A6.out).mono ?_); rintro e w' ⟨rfl, ⟨nd, rfl⟩⟩; (try first | exact ⟨rfl, _, World.drewN_drewN _ _ _⟩ | exact ⟨rfl, _, Eq.trans (World.drewN_drewN _ _ _) (congrArg (World.drewN _) (Nat.add_assoc _ _ _))⟩)) | (go_at_call 58; (with_reducible refine (num_size.calls a2 t393 _ A7.out).mono ?_); rintro e w' ⟨rfl, ⟨nd, rfl⟩⟩; (try first | exact ⟨rfl, _, World.drewN_drewN _ _ _⟩ | exact ⟨rfl, _, Eq.trans (World.drewN_drewN _ _ _) (congrArg (World.drewN _) (Nat.add_assoc _ _ _))⟩)) | (go_at_call 59; (with_reducible refine (num_gcd.calls k t393 (IntKind.u64.wrap (a1)) t394 _ A8.out).mono ?_); rintro e w' ⟨rfl, ⟨nd, rfl⟩⟩; (try first | exact ⟨rfl, _, World.drewN_drewN _ _ _⟩ | exact ⟨rfl, _, Eq.trans (World.drewN_drewN _ _ _) (congrArg (World.drewN _) (Nat.add_assoc _ _ _))⟩))); go_upto_region 3 with (first | ((with_reducible refine gate_dst (N := 8) rfl ?_); refine box_event ?hg (N := 8) ?hd (cs := #[.int .i64 0, .int .i64 0]) (t := 23) ?hr ?_; (case hd => rfl); (case hg => rfl); (case hr => first | (go_simp; done) | (go_simp; rfl)); intro gb390 hg w12 hbox hb; have n0_ := Aside0.mk (Boxes.new (b := w.heap.size) (L := []) trivial hg hbox hb (below_size (by repeat (first | (with_reducible first | exact HB.out | apply below_alloc | apply pw_below_drewN | apply below_drew1 | refine below_set ?_ (Aside0.out (by assumption))) | exact HB.out)))); have n1_ := Aside0.mk (below_step (by repeat (first | (with_reducible first | exact HB.out | apply below_alloc | apply pw_below_drewN | apply below_drew1 | refine below_set ?_ (Aside0.out (by assumption))) | exact HB.out)) hb); have n2_ := Aside0.mk ((by rw [hg]; exact (below_size (by repeat (first | (with_reducible first | exact HB.out | apply below_alloc | apply pw_below_drewN | apply below_drew1 | refine below_set ?_ (Aside0.out (by assumption))) | exact HB.out))) : w.heap.size ≤ gb390)); clear HB; have BX := n0_; have HB := n1_; have GE390 := n2_; clear n0_ n1_ n2_; clear hb hbox hg) | (go_at_call 58; (with_reducible refine (num_size.calls a0 t391 _ A5.out).mono ?_); rintro e w' ⟨rfl, ⟨nd, rfl⟩⟩; (try first | exact ⟨rfl, _, World.drewN_drewN _ _ _⟩ | exact ⟨rfl, _, Eq.trans (World.drewN_drewN _ _ _) (congrArg (World.drewN _) (Nat.add_assoc _ _ _))⟩)) | (go_at_call 59; (with_reducible refine (num_gcd.calls k t391 (IntKind.u64.wrap (a3)) t392 _ A6.out).mono ?_); rintro e w' ⟨rfl, ⟨nd, rfl⟩⟩; (try first | exact ⟨rfl, _, World.drewN_drewN _ _ _⟩ | exact ⟨rfl, _, Eq.trans (World.drewN_drewN _ _ _) (congrArg (World.drewN _) (Nat.add_assoc _ _ _))⟩)) | (go_at_call 58; (with_reducible refine (num_size.calls a2 t393 _ A7.out).mono ?_); rintro e w' ⟨rfl, ⟨nd, rfl⟩⟩; (try first | exact ⟨rfl, _, World.drewN_drewN _ _ _⟩ | exact ⟨rfl, _, Eq.trans (World.drewN_drewN _ _ _) (congrArg (World.drewN _) (Nat.add_assoc _ _ _))⟩)) | (go_at_call 59; (with_reducible refine (num_gcd.calls k t393 (IntKind.u64.wrap (a1)) t394 _ A8.out).mono ?_); rintro e w' ⟨rfl, ⟨nd, rfl⟩⟩; (try first | exact ⟨rfl, _, World.drewN_drewN _ _ _⟩ | exact ⟨rfl, _, Eq.trans (World.drewN_drewN _ _ _) (congrArg (World.drewN _) (Nat.add_assoc _ _ _))⟩))))
   (try simp only [Act.put, List.setIfInBounds_toArray, List.set_cons_zero, List.set_cons_succ])
   go_cut [51] (fun v51 wc => ∃ (kq : Nat) (x51_10 : Bool), v51 = .bool x51_10 ∧ Aside0 (num_product.j0 kq (wrap64 (Int.tdiv a0 (wrap64 (t392)))) (wrap64 (Int.tdiv a1 (wrap64 (t394)))) (wrap64 (Int.tdiv a2 (wrap64 (t394)))) (wrap64 (Int.tdiv a3 (wrap64 (t392)))) x51_10 = some (r1, r2, r3)) ∧ Aside0 (kq ≤ k) ∧ Aside0 (Boxes w.heap.size wc [(gb390, 23, #[.int .i64 0, .int .i64 0])]) ∧ Aside0 (Below w.heap.size w wc))
   case first =>
    have H := HC11.out
    clear HC11
    by_cases c13 : (wrap64 (Int.tdiv a2 (wrap64 (t394)))) = 0
    ·rw [if_pos c13] at H
     have c13b0 : ((wrap64 (Int.tdiv a2 (wrap64 (t394)))) == 0) = true := beq_iff_eq.mpr c13
     have c13b1 : ((wrap64 (Int.tdiv a2 (wrap64 (t394)))) != 0) = false := bne_eq_false_iff_eq.mpr c13
     clear c13
     (first | rw [c13b0] | (simp only [i64_w, i32_w]; rw [c13b0]) | skip)
     have H' := Aside0.mk H
     clear H
     go_wp2
     repeat (go_quiet (fail); try go_wp2)
     go_meet
     case rel => exact ⟨_, (decide ((wrap64 ((wrap64 (Int.tdiv a1 (wrap64 (t394)))) * (wrap64 (Int.tdiv a3 (wrap64 (t392)))))) > 1000000)), (by first | rfl | (simp; done) | (simp [*]; done) | (simp [bne_nil]; done)), H', ⟨by first | omega | exact Nat.le_refl _⟩, ⟨by (with_reducible repeat (first | apply boxes_drewN | apply boxes_drew | apply boxes_alloc)); exact BX.out⟩, ⟨by repeat (first | (with_reducible first | exact HB.out | apply below_alloc | apply pw_below_drewN | apply below_drew1 | refine below_set ?_ (Aside0.out (by assumption))) | exact HB.out)⟩⟩
    ·rw [if_neg c13] at H
     have c13b0 : ((wrap64 (Int.tdiv a2 (wrap64 (t394)))) == 0) = false := beq_eq_false_iff_ne.mpr c13
     have c13b1 : ((wrap64 (Int.tdiv a2 (wrap64 (t394)))) != 0) = true := bne_iff_ne.mpr c13
     (first | rw [c13b0] | (simp only [i64_w, i32_w]; rw [c13b0]) | skip)
     replace H := Option.bind_eq_some_iff.mp H
     obtain ⟨t395, A140, H⟩ := H
     have A14 := Aside0.mk A140
     clear A140
     replace H := Option.bind_eq_some_iff.mp H
     obtain ⟨t396, A150, H⟩ := H
     replace H : (if t396 = 0 then (none) else (if t395 > (IntKind.u64.wrap (Int.tdiv (1000000000000 : Int) t396)) then (num_product.j0 k (wrap64 (Int.tdiv a0 (wrap64 (t392)))) (wrap64 (Int.tdiv a1 (wrap64 (t394)))) (wrap64 (Int.tdiv a2 (wrap64 (t394)))) (wrap64 (Int.tdiv a3 (wrap64 (t392)))) true) else (num_product.j0 k (wrap64 (Int.tdiv a0 (wrap64 (t392)))) (wrap64 (Int.tdiv a1 (wrap64 (t394)))) (wrap64 (Int.tdiv a2 (wrap64 (t394)))) (wrap64 (Int.tdiv a3 (wrap64 (t392)))) (decide ((wrap64 ((wrap64 (Int.tdiv a1 (wrap64 (t394)))) * (wrap64 (Int.tdiv a3 (wrap64 (t392)))))) > 1000000))))) = some (r1, r2, r3) := H
     have A15 := Aside0.mk A150
     clear A150
     by_cases c16 : t396 = 0
     ·rw [if_pos c16] at H
      exact absurd H (by simp)
     ·rw [if_neg c16] at H
      have c16b0 : (t396 == 0) = false := beq_eq_false_iff_ne.mpr c16
      have c16b1 : (t396 != 0) = true := bne_iff_ne.mpr c16
      by_cases c17 : t395 > (IntKind.u64.wrap (Int.tdiv (1000000000000 : Int) t396))
      ·rw [if_pos c17] at H
       have c17b0 : decide ((IntKind.u64.wrap (Int.tdiv (1000000000000 : Int) t396)) < t395) = true := decide_eq_true c17
       clear c17
       have H' := Aside0.mk H
       clear H
       go_wp2_with (first | (go_at_call 58; (with_reducible refine (num_size.calls (wrap64 (Int.tdiv a0 (wrap64 (t392)))) t395 _ A14.out).mono ?_); rintro e w' ⟨rfl, ⟨nd, rfl⟩⟩; (try first | exact ⟨rfl, _, World.drewN_drewN _ _ _⟩ | exact ⟨rfl, _, Eq.trans (World.drewN_drewN _ _ _) (congrArg (World.drewN _) (Nat.add_assoc _ _ _))⟩)) | (go_at_call 58; (with_reducible refine (num_size.calls (wrap64 (Int.tdiv a2 (wrap64 (t394)))) t396 _ A15.out).mono ?_); rintro e w' ⟨rfl, ⟨nd, rfl⟩⟩; (try first | exact ⟨rfl, _, World.drewN_drewN _ _ _⟩ | exact ⟨rfl, _, Eq.trans (World.drewN_drewN _ _ _) (congrArg (World.drewN _) (Nat.add_assoc _ _ _))⟩)))
       repeat (go_quiet (first | (go_at_call 58; (with_reducible refine (num_size.calls (wrap64 (Int.tdiv a0 (wrap64 (t392)))) t395 _ A14.out).mono ?_); rintro e w' ⟨rfl, ⟨nd, rfl⟩⟩; (try first | exact ⟨rfl, _, World.drewN_drewN _ _ _⟩ | exact ⟨rfl, _, Eq.trans (World.drewN_drewN _ _ _) (congrArg (World.drewN _) (Nat.add_assoc _ _ _))⟩)) | (go_at_call 58; (with_reducible refine (num_size.calls (wrap64 (Int.tdiv a2 (wrap64 (t394)))) t396 _ A15.out).mono ?_); rintro e w' ⟨rfl, ⟨nd, rfl⟩⟩; (try first | exact ⟨rfl, _, World.drewN_drewN _ _ _⟩ | exact ⟨rfl, _, Eq.trans (World.drewN_drewN _ _ _) (congrArg (World.drewN _) (Nat.add_assoc _ _ _))⟩))); try go_wp2_with (first | (go_at_call 58; (with_reducible refine (num_size.calls (wrap64 (Int.tdiv a0 (wrap64 (t392)))) t395 _ A14.out).mono ?_); rintro e w' ⟨rfl, ⟨nd, rfl⟩⟩; (try first | exact ⟨rfl, _, World.drewN_drewN _ _ _⟩ | exact ⟨rfl, _, Eq.trans (World.drewN_drewN _ _ _) (congrArg (World.drewN _) (Nat.add_assoc _ _ _))⟩)) | (go_at_call 58; (with_reducible refine (num_size.calls (wrap64 (Int.tdiv a2 (wrap64 (t394)))) t396 _ A15.out).mono ?_); rintro e w' ⟨rfl, ⟨nd, rfl⟩⟩; (try first | exact ⟨rfl, _, World.drewN_drewN _ _ _⟩ | exact ⟨rfl, _, Eq.trans (World.drewN_drewN _ _ _) (congrArg (World.drewN _) (Nat.add_assoc _ _ _))⟩))))
       go_meet
       case rel => exact ⟨_, (true), (by first | rfl | (simp; done) | (simp [*]; done) | (simp [bne_nil]; done)), H', ⟨by first | omega | exact Nat.le_refl _⟩, ⟨by (with_reducible repeat (first | apply boxes_drewN | apply boxes_drew | apply boxes_alloc)); exact BX.out⟩, ⟨by repeat (first | (with_reducible first | exact HB.out | apply below_alloc | apply pw_below_drewN | apply below_drew1 | refine below_set ?_ (Aside0.out (by assumption))) | exact HB.out)⟩⟩
      ·rw [if_neg c17] at H
       have c17b0 : decide ((IntKind.u64.wrap (Int.tdiv (1000000000000 : Int) t396)) < t395) = false := decide_eq_false c17
       clear c17
       have H' := Aside0.mk H
       clear H
       go_wp2_with (first | (go_at_call 58; (with_reducible refine (num_size.calls (wrap64 (Int.tdiv a0 (wrap64 (t392)))) t395 _ A14.out).mono ?_); rintro e w' ⟨rfl, ⟨nd, rfl⟩⟩; (try first | exact ⟨rfl, _, World.drewN_drewN _ _ _⟩ | exact ⟨rfl, _, Eq.trans (World.drewN_drewN _ _ _) (congrArg (World.drewN _) (Nat.add_assoc _ _ _))⟩)) | (go_at_call 58; (with_reducible refine (num_size.calls (wrap64 (Int.tdiv a2 (wrap64 (t394)))) t396 _ A15.out).mono ?_); rintro e w' ⟨rfl, ⟨nd, rfl⟩⟩; (try first | exact ⟨rfl, _, World.drewN_drewN _ _ _⟩ | exact ⟨rfl, _, Eq.trans (World.drewN_drewN _ _ _) (congrArg (World.drewN _) (Nat.add_assoc _ _ _))⟩)))
       repeat (go_quiet (first | (go_at_call 58; (with_reducible refine (num_size.calls (wrap64 (Int.tdiv a0 (wrap64 (t392)))) t395 _ A14.out).mono ?_); rintro e w' ⟨rfl, ⟨nd, rfl⟩⟩; (try first | exact ⟨rfl, _, World.drewN_drewN _ _ _⟩ | exact ⟨rfl, _, Eq.trans (World.drewN_drewN _ _ _) (congrArg (World.drewN _) (Nat.add_assoc _ _ _))⟩)) | (go_at_call 58; (with_reducible refine (num_size.calls (wrap64 (Int.tdiv a2 (wrap64 (t394)))) t396 _ A15.out).mono ?_); rintro e w' ⟨rfl, ⟨nd, rfl⟩⟩; (try first | exact ⟨rfl, _, World.drewN_drewN _ _ _⟩ | exact ⟨rfl, _, Eq.trans (World.drewN_drewN _ _ _) (congrArg (World.drewN _) (Nat.add_assoc _ _ _))⟩))); try go_wp2_with (first | (go_at_call 58; (with_reducible refine (num_size.calls (wrap64 (Int.tdiv a0 (wrap64 (t392)))) t395 _ A14.out).mono ?_); rintro e w' ⟨rfl, ⟨nd, rfl⟩⟩; (try first | exact ⟨rfl, _, World.drewN_drewN _ _ _⟩ | exact ⟨rfl, _, Eq.trans (World.drewN_drewN _ _ _) (congrArg (World.drewN _) (Nat.add_assoc _ _ _))⟩)) | (go_at_call 58; (with_reducible refine (num_size.calls (wrap64 (Int.tdiv a2 (wrap64 (t394)))) t396 _ A15.out).mono ?_); rintro e w' ⟨rfl, ⟨nd, rfl⟩⟩; (try first | exact ⟨rfl, _, World.drewN_drewN _ _ _⟩ | exact ⟨rfl, _, Eq.trans (World.drewN_drewN _ _ _) (congrArg (World.drewN _) (Nat.add_assoc _ _ _))⟩))))
       go_meet
       case rel => exact ⟨_, (decide ((wrap64 ((wrap64 (Int.tdiv a1 (wrap64 (t394)))) * (wrap64 (Int.tdiv a3 (wrap64 (t392)))))) > 1000000)), (by first | rfl | (simp; done) | (simp [*]; done) | (simp [bne_nil]; done)), H', ⟨by first | omega | exact Nat.le_refl _⟩, ⟨by (with_reducible repeat (first | apply boxes_drewN | apply boxes_drew | apply boxes_alloc)); exact BX.out⟩, ⟨by repeat (first | (with_reducible first | exact HB.out | apply below_alloc | apply pw_below_drewN | apply below_drew1 | refine below_set ?_ (Aside0.out (by assumption))) | exact HB.out)⟩⟩
   case rest =>
    clear HC11
    try clear c1
    try clear p2
    try clear p6
    try clear c7
    try clear c9
    try clear c9b0
    try clear c9b1
    try clear c10
    try clear c10b0
    try clear c10b1
    try clear c13
    try clear c13b0
    try clear c13b1
    try clear c16
    try clear c16b0
    try clear c16b1
    try clear c17
    try clear c17b0
    obtain ⟨kq, x51_10, rfl, HA, HJ10, BX, HB⟩ := hcut
    cases kq with
    | zero => exact absurd HA.out (by simp [num_product.j0])
    | succ kj10 =>
     have H := HA.out
     clear HA
     simp only [num_product.j0] at H
     by_cases c18 : x51_10 = true
     ·subst c18
      have H1 : (some (0, 0, false)) = some (r1, r2, r3) := by rw [if_pos rfl] at H; exact H
      clear H
      have H := H1
      clear H1
      simp only [Option.some.injEq, Prod.mk.injEq] at H
      obtain ⟨rfl, rfl, rfl⟩ := H
      have hcz19_0 : wc.cell? ⟨gb390, 0, none⟩ = some (.int .i64 0) := (blk_cell (BX.out.get 0 rfl) 0).trans rfl
      have hcz19_1 : wc.cell? ⟨gb390, 1, none⟩ = some (.int .i64 0) := (blk_cell (BX.out.get 0 rfl) 1).trans rfl
      have hfz19_0 := blk_frozen (BX.out.get 0 rfl) 0
      have hfz19_1 := blk_frozen (BX.out.get 0 rfl) 1
      go_wp2
      repeat (go_quiet (fail); try go_wp2)
      refine bodyPost_ret (results_ct rfl _ _ gb390 23 #[.int .i64 0, .int .i64 0] (0, 0) _ rfl (by (with_reducible repeat (first | refine blk_drewN ?_ _ | refine blk_drew ?_ | refine blk_alloc ?_ _)); refine blk_put (cs := #[.int .i64 0, .int .i64 0]) ?_ 1 _ rfl; (with_reducible repeat (first | refine blk_drewN ?_ _ | refine blk_drew ?_ | refine blk_alloc ?_ _)); refine blk_put (cs := #[.int .i64 0, .int .i64 0]) ?_ 0 _ rfl; (with_reducible repeat (first | refine blk_drewN ?_ _ | refine blk_drew ?_ | refine blk_alloc ?_ _)); exact (BX.out.get 0 rfl)) Tryd.underlying23 rfl (by kernel_rfl)) rfl ?_
      exact ⟨by first | rfl | (simp [errW_none, errW_some] <;> rfl) | (simp [*, errW_none, errW_some] <;> rfl), by repeat (first | (with_reducible first | exact HB.out | apply below_alloc | apply pw_below_drewN | apply below_drew1 | refine below_set ?_ (Aside0.out (by assumption))) | exact HB.out)⟩
     ·replace c18 := Bool.eq_false_iff.mpr c18
      subst c18
      have H1 : (if (wrap64 ((wrap64 (Int.tdiv a0 (wrap64 (t392)))) * (wrap64 (Int.tdiv a2 (wrap64 (t394)))))) = 0 then (some (0, 1, true)) else (some (wrap64 ((wrap64 (Int.tdiv a0 (wrap64 (t392)))) * (wrap64 (Int.tdiv a2 (wrap64 (t394))))), wrap64 ((wrap64 (Int.tdiv a1 (wrap64 (t394)))) * (wrap64 (Int.tdiv a3 (wrap64 (t392))))), true))) = some (r1, r2, r3) := by rw [if_neg (show ¬ (false = true) by decide)] at H; exact H
      clear H
      have H := H1
      clear H1
      by_cases c20 : (wrap64 ((wrap64 (Int.tdiv a0 (wrap64 (t392)))) * (wrap64 (Int.tdiv a2 (wrap64 (t394)))))) = 0
      ·rw [if_pos c20] at H
       have c20b0 : ((wrap64 ((wrap64 (Int.tdiv a0 (wrap64 (t392)))) * (wrap64 (Int.tdiv a2 (wrap64 (t394)))))) == 0) = true := beq_iff_eq.mpr c20
       have c20b1 : ((wrap64 ((wrap64 (Int.tdiv a0 (wrap64 (t392)))) * (wrap64 (Int.tdiv a2 (wrap64 (t394)))))) != 0) = false := bne_eq_false_iff_eq.mpr c20
       clear c20
       simp only [Option.some.injEq, Prod.mk.injEq] at H
       obtain ⟨rfl, rfl, rfl⟩ := H
       have hcz21_0 : wc.cell? ⟨gb390, 0, none⟩ = some (.int .i64 0) := (blk_cell (BX.out.get 0 rfl) 0).trans rfl
       have hcz21_1 : wc.cell? ⟨gb390, 1, none⟩ = some (.int .i64 0) := (blk_cell (BX.out.get 0 rfl) 1).trans rfl
       have hfz21_0 := blk_frozen (BX.out.get 0 rfl) 0
       have hfz21_1 := blk_frozen (BX.out.get 0 rfl) 1
       go_wp2
       repeat (go_quiet (fail); try go_wp2)
       refine bodyPost_ret (results_ct rfl _ _ gb390 23 #[.int .i64 0, .int .i64 1] (0, 0) _ rfl (by (with_reducible repeat (first | refine blk_drewN ?_ _ | refine blk_drew ?_ | refine blk_alloc ?_ _)); refine blk_put (cs := #[.int .i64 0, .int .i64 0]) ?_ 1 _ rfl; (with_reducible repeat (first | refine blk_drewN ?_ _ | refine blk_drew ?_ | refine blk_alloc ?_ _)); refine blk_put (cs := #[.int .i64 0, .int .i64 0]) ?_ 0 _ rfl; (with_reducible repeat (first | refine blk_drewN ?_ _ | refine blk_drew ?_ | refine blk_alloc ?_ _)); exact (BX.out.get 0 rfl)) Tryd.underlying23 rfl (by kernel_rfl)) rfl ?_
       exact ⟨by first | rfl | (simp [errW_none, errW_some] <;> rfl) | (simp [*, errW_none, errW_some] <;> rfl), by repeat (first | (with_reducible first | exact HB.out | apply below_alloc | apply pw_below_drewN | apply below_drew1 | refine below_set ?_ (Aside0.out (by assumption))) | exact HB.out)⟩
      ·rw [if_neg c20] at H
       have c20b0 : ((wrap64 ((wrap64 (Int.tdiv a0 (wrap64 (t392)))) * (wrap64 (Int.tdiv a2 (wrap64 (t394)))))) == 0) = false := beq_eq_false_iff_ne.mpr c20
       have c20b1 : ((wrap64 ((wrap64 (Int.tdiv a0 (wrap64 (t392)))) * (wrap64 (Int.tdiv a2 (wrap64 (t394)))))) != 0) = true := bne_iff_ne.mpr c20
       simp only [Option.some.injEq, Prod.mk.injEq] at H
       obtain ⟨rfl, rfl, rfl⟩ := H
       have hcz22_0 : wc.cell? ⟨gb390, 0, none⟩ = some (.int .i64 0) := (blk_cell (BX.out.get 0 rfl) 0).trans rfl
       have hcz22_1 : wc.cell? ⟨gb390, 1, none⟩ = some (.int .i64 0) := (blk_cell (BX.out.get 0 rfl) 1).trans rfl
       have hfz22_0 := blk_frozen (BX.out.get 0 rfl) 0
       have hfz22_1 := blk_frozen (BX.out.get 0 rfl) 1
       go_wp2
       repeat (go_quiet (fail); try go_wp2)
       refine bodyPost_ret (results_ct rfl _ _ gb390 23 #[.int .i64 (wrap64 ((wrap64 (Int.tdiv a0 (wrap64 (t392)))) * (wrap64 (Int.tdiv a2 (wrap64 (t394)))))), .int .i64 (wrap64 ((wrap64 (Int.tdiv a1 (wrap64 (t394)))) * (wrap64 (Int.tdiv a3 (wrap64 (t392))))))] (0, 0) _ rfl (by (with_reducible repeat (first | refine blk_drewN ?_ _ | refine blk_drew ?_ | refine blk_alloc ?_ _)); refine blk_put (cs := #[.int .i64 (wrap64 ((wrap64 (Int.tdiv a0 (wrap64 (t392)))) * (wrap64 (Int.tdiv a2 (wrap64 (t394)))))), .int .i64 0]) ?_ 1 _ rfl; (with_reducible repeat (first | refine blk_drewN ?_ _ | refine blk_drew ?_ | refine blk_alloc ?_ _)); refine blk_put (cs := #[.int .i64 0, .int .i64 0]) ?_ 0 _ rfl; (with_reducible repeat (first | refine blk_drewN ?_ _ | refine blk_drew ?_ | refine blk_alloc ?_ _)); exact (BX.out.get 0 rfl)) Tryd.underlying23 rfl (by kernel_rfl)) rfl ?_
       exact ⟨by first | rfl | (simp [errW_none, errW_some] <;> rfl) | (simp [*, errW_none, errW_some] <;> rfl), by repeat (first | (with_reducible first | exact HB.out | apply below_alloc | apply pw_below_drewN | apply below_drew1 | refine below_set ?_ (Aside0.out (by assumption))) | exact HB.out)⟩

/-! ### num_Mul: function 39 -/
def num_Mul.f (k : Nat) (a0_0 : Int) (a0_1 : Int) (a1_0 : Int) (a1_1 : Int) : Option (Int × Int × Bool) := (num_taken.f k a0_0 a0_1).bind fun bt400 => ((num_taken.f k a1_0 a1_1).bind fun bt402 => ((num_product.f k bt400.1 bt400.2 bt402.1 bt402.2).bind fun bt404 => (some (bt404.1, bt404.2.1, bt404.2.2))))
theorem num_Mul.mono : ∀ a0 a1 a2 a3 k, LeO (num_Mul.f k a0 a1 a2 a3) (num_Mul.f (k + 1) a0 a1 a2 a3) := by
 intro a0 a1 a2 a3 k
 unfold num_Mul.f
 repeat' first
   | (with_reducible exact num_product.mono _ _ _ _ _)
   | (with_reducible exact num_taken.mono _ _ _)
   | (with_reducible exact LeO.refl _)
   | (with_reducible exact LeO.none _)
   | (with_reducible refine LeO.ite ?_ ?_)
   | (with_reducible refine LeO.bind ?_ (fun _ => ?_))
   | exact num_product.mono _ _ _ _ _
   | exact num_taken.mono _ _ _
   | exact LeO.none _
   | refine LeO.ite ?_ ?_
   | refine LeO.bind ?_ (fun _ => ?_)
set_option maxHeartbeats 8000000 in
set_option maxRecDepth 100000 in
theorem num_Mul.calls (k : Nat) (a0_0 : Int) (a0_1 : Int) (a1_0 : Int) (a1_1 : Int) (r1 : Int) (r2 : Int) (r3 : Bool) (w : World) (h : num_Mul.f k a0_0 a0_1 a1_0 a1_1 = some (r1, r2, r3)) :
  Calls Tryd.prog 39 #[.agg #[.int .i64 a0_0, .int .i64 a0_1], .agg #[.int .i64 a1_0, .int .i64 a1_1]] w fun e w' => e = .returned (.tuple #[.agg #[.int .i64 r1, .int .i64 r2], .bool r3]) ∧ Below w.heap.size w w' := by
 have hu23 := Tryd.underlying23
 have HB := Aside0.mk (Below.refl w.heap.size w)
 have H : ((num_taken.f k a0_0 a0_1).bind fun bt400 => ((num_taken.f k a1_0 a1_1).bind fun bt402 => ((num_product.f k bt400.1 bt400.2 bt402.1 bt402.2).bind fun bt404 => (some (bt404.1, bt404.2.1, bt404.2.2))))) = some (r1, r2, r3) := h
 clear h
 replace H := Option.bind_eq_some_iff.mp H
 obtain ⟨⟨t400, t401⟩, A30, H⟩ := H
 have A3 := Aside0.mk A30
 clear A30
 replace H := Option.bind_eq_some_iff.mp H
 obtain ⟨⟨t402, t403⟩, A40, H⟩ := H
 have A4 := Aside0.mk A40
 clear A40
 replace H := Option.bind_eq_some_iff.mp H
 obtain ⟨⟨t404, t405, t406⟩, A50, H⟩ := H
 replace H : (some (t404, t405, t406)) = some (r1, r2, r3) := H
 have A5 := Aside0.mk A50
 clear A50
 simp only [Option.some.injEq, Prod.mk.injEq] at H
 obtain ⟨rfl, rfl, rfl⟩ := H
 go_enter Tryd.func39, Tryd.ntmps39
 try go_wp2_with (first | ((with_reducible refine gate_dst (N := 2) rfl ?_); refine box_event ?hg (N := 2) ?hd (cs := #[.int .i64 a0_0, .int .i64 a0_1]) (t := 23) ?hr ?_; (case hd => rfl); (case hg => rfl); (case hr => first | (go_simp; done) | (go_simp; rfl)); intro gb397 hg w6 hbox hb; have n0_ := Aside0.mk (Boxes.new (b := w.heap.size) (L := []) trivial hg hbox hb (below_size (by repeat (first | (with_reducible first | exact HB.out | apply below_alloc | apply pw_below_drewN | apply below_drew1 | refine below_set ?_ (Aside0.out (by assumption))) | exact HB.out)))); have n1_ := Aside0.mk (below_step (by repeat (first | (with_reducible first | exact HB.out | apply below_alloc | apply pw_below_drewN | apply below_drew1 | refine below_set ?_ (Aside0.out (by assumption))) | exact HB.out)) hb); have n2_ := Aside0.mk ((by rw [hg]; exact (below_size (by repeat (first | (with_reducible first | exact HB.out | apply below_alloc | apply pw_below_drewN | apply below_drew1 | refine below_set ?_ (Aside0.out (by assumption))) | exact HB.out))) : w.heap.size ≤ gb397)); clear HB; have BX := n0_; have HB := n1_; have GE397 := n2_; clear n0_ n1_ n2_; clear hb hbox hg) | ((with_reducible refine gate_dst (N := 3) rfl ?_); refine box_event ?hg (N := 3) ?hd (cs := #[.int .i64 a1_0, .int .i64 a1_1]) (t := 23) ?hr ?_; (case hd => rfl); (case hg => rfl); (case hr => first | (go_simp; done) | (go_simp; rfl)); intro gb398 hg w7 hbox hb; have n0_ := Aside0.mk (Boxes.new (by (with_reducible repeat (first | apply boxes_drewN | apply boxes_drew | apply boxes_alloc)); exact BX.out) hg hbox hb (below_size (by repeat (first | (with_reducible first | exact HB.out | apply below_alloc | apply pw_below_drewN | apply below_drew1 | refine below_set ?_ (Aside0.out (by assumption))) | exact HB.out)))); have n1_ := Aside0.mk (below_step (by repeat (first | (with_reducible first | exact HB.out | apply below_alloc | apply pw_below_drewN | apply below_drew1 | refine below_set ?_ (Aside0.out (by assumption))) | exact HB.out)) hb); have n2_ := Aside0.mk ((by rw [hg]; exact (below_size (by repeat (first | (with_reducible first | exact HB.out | apply below_alloc | apply pw_below_drewN | apply below_drew1 | refine below_set ?_ (Aside0.out (by assumption))) | exact HB.out))) : w.heap.size ≤ gb398)); clear BX HB; have BX := n0_; have HB := n1_; have GE398 := n2_; clear n0_ n1_ n2_; clear hb hbox hg) | ((with_reducible refine gate_dst (N := 4) rfl ?_); refine box_event ?hg (N := 4) ?hd (cs := #[.int .i64 0, .int .i64 0]) (t := 23) ?hr ?_; (case hd => rfl); (case hg => rfl); (case hr => first | (go_simp; done) | (go_simp; rfl)); intro gb399 hg w8 hbox hb; have n0_ := Aside0.mk (Boxes.new (by (with_reducible repeat (first | apply boxes_drewN | apply boxes_drew | apply boxes_alloc)); exact BX.out) hg hbox hb (below_size (by repeat (first | (with_reducible first | exact HB.out | apply below_alloc | apply pw_below_drewN | apply below_drew1 | refine below_set ?_ (Aside0.out (by assumption))) | exact HB.out)))); have n1_ := Aside0.mk (below_step (by repeat (first | (with_reducible first | exact HB.out | apply below_alloc | apply pw_below_drewN | apply below_drew1 | refine below_set ?_ (Aside0.out (by assumption))) | exact HB.out)) hb); have n2_ := Aside0.mk ((by rw [hg]; exact (below_size (by repeat (first | (with_reducible first | exact HB.out | apply below_alloc | apply pw_below_drewN | apply below_drew1 | refine below_set ?_ (Aside0.out (by assumption))) | exact HB.out))) : w.heap.size ≤ gb399)); clear BX HB; have BX := n0_; have HB := n1_; have GE399 := n2_; clear n0_ n1_ n2_; clear hb hbox hg))
 have n0_ := Aside0.mk (boxes_drew BX.out)
 have n1_ := Aside0.mk (below_drew1 HB.out)
 clear BX HB
 have BX := n0_
 have HB := n1_
 clear n0_ n1_
 refine start_ (n := 6) (S := fun w' => w'.cell? ⟨gb397, 0, none⟩ = some (.int .i64 a0_0) ∧ w'.cell? ⟨gb397, 1, none⟩ = some (.int .i64 a0_1) ∧ w'.cell? ⟨gb398, 0, none⟩ = some (.int .i64 a1_0) ∧ w'.cell? ⟨gb398, 1, none⟩ = some (.int .i64 a1_1)) (ds := [4, 5]) #[false, false, false, false, false, false] (by kernel_rfl) rfl rfl ⟨(blk_cell (BX.out.get 2 rfl) 0).trans rfl, (blk_cell (BX.out.get 2 rfl) 1).trans rfl, (blk_cell (BX.out.get 1 rfl) 0).trans rfl, (blk_cell (BX.out.get 1 rfl) 1).trans rfl⟩ (fun hHeld => ?_)
 generalize w8.drew = w9 at BX HB hHeld ⊢
 refine take_ (i := 0) (N := some 6) (v := ?_) (a' := ?_) #[true, false, false, false, false, false] rfl rfl (by kernel_rfl) (fun _ _ _ h => h) (Or.inl ⟨by rfl, ?_⟩) hHeld ?_ ?_
 rotate_left
 ·rintro w' ⟨s0, s1, s2, s3⟩
  go_simp
  with_reducible rfl
 rotate_left
 ·simp only [Act.put, List.setIfInBounds_toArray, List.set_cons_zero, List.set_cons_succ, i64_w, i32_w]
  rfl
 refine take_ (i := 2) (N := some 8) (v := ?_) (a' := ?_) #[true, false, true, false, false, false] rfl rfl (by kernel_rfl) (fun _ _ _ h => h) (Or.inl ⟨by rfl, ?_⟩) hHeld ?_ ?_
 rotate_left
 ·rintro w' ⟨s0, s1, s2, s3⟩
  go_simp
  with_reducible rfl
 rotate_left
 ·simp only [Act.put, List.setIfInBounds_toArray, List.set_cons_zero, List.set_cons_succ, i64_w, i32_w]
  rfl
 refine one_ (i := 1) (N := some 7) #[true, true, true, false, false, false] rfl rfl (by kernel_rfl) (by decide) (fun K hK => ?_)
 refine goes_ Tryd.func63 (by kernel_rfl) rfl #[.agg #[.int .i64 a0_0, .int .i64 a0_1]] (by rfl) rfl rfl (by (try simp only [List.map_toArray, List.map_cons, List.map_nil]); first | done | rfl | (simp only [List.length_drop, List.length_take]; rfl)) ?_
 with_reducible refine (num_taken.calls k a0_0 a0_1 t400 t401 _ A3.out).mono ?_
 rintro e w10 ⟨rfl, hb⟩
 refine ⟨_, rfl, ?_⟩
 have n0_ := Aside0.mk (Boxes.below (by (with_reducible repeat (first | apply boxes_drewN | apply boxes_drew | apply boxes_alloc)); exact BX.out) hb)
 have n1_ := Aside0.mk (below_step (by repeat (first | (with_reducible first | exact HB.out | apply below_alloc | apply pw_below_drewN | apply below_drew1 | refine below_set ?_ (Aside0.out (by assumption))) | exact HB.out)) hb)
 clear BX HB
 have BX := n0_
 have HB := n1_
 clear n0_ n1_
 (try clear hb)
 (try clear hb2)
 (try clear hk)
 (try clear hi)
 refine hK.out _ _ ⟨(blk_cell (BX.out.get 2 rfl) 0).trans rfl, (blk_cell (BX.out.get 2 rfl) 1).trans rfl, (blk_cell (BX.out.get 1 rfl) 0).trans rfl, (blk_cell (BX.out.get 1 rfl) 1).trans rfl⟩ (fun hHeld => ?_)
 clear hK K
 refine norm_ (a' := ?_) ?_ ?_
 rotate_left
 ·show Act.put _ (some 7) _ = _
  simp only [Act.put, List.setIfInBounds_toArray, List.set_cons_zero, List.set_cons_succ, i64_w, i32_w]
  rfl
 refine one_ (i := 3) (N := some 9) #[true, true, true, true, false, false] rfl rfl (by kernel_rfl) (by decide) (fun K hK => ?_)
 refine goes_ Tryd.func63 (by kernel_rfl) rfl #[.agg #[.int .i64 a1_0, .int .i64 a1_1]] (by rfl) rfl rfl (by (try simp only [List.map_toArray, List.map_cons, List.map_nil]); first | done | rfl | (simp only [List.length_drop, List.length_take]; rfl)) ?_
 with_reducible refine (num_taken.calls k a1_0 a1_1 t402 t403 _ A4.out).mono ?_
 rintro e w11 ⟨rfl, hb⟩
 refine ⟨_, rfl, ?_⟩
 have n0_ := Aside0.mk (Boxes.below (by (with_reducible repeat (first | apply boxes_drewN | apply boxes_drew | apply boxes_alloc)); exact BX.out) hb)
 have n1_ := Aside0.mk (below_step (by repeat (first | (with_reducible first | exact HB.out | apply below_alloc | apply pw_below_drewN | apply below_drew1 | refine below_set ?_ (Aside0.out (by assumption))) | exact HB.out)) hb)
 clear BX HB
 have BX := n0_
 have HB := n1_
 clear n0_ n1_
 (try clear hb)
 (try clear hb2)
 (try clear hk)
 (try clear hi)
 refine hK.out _ _ ⟨(blk_cell (BX.out.get 2 rfl) 0).trans rfl, (blk_cell (BX.out.get 2 rfl) 1).trans rfl, (blk_cell (BX.out.get 1 rfl) 0).trans rfl, (blk_cell (BX.out.get 1 rfl) 1).trans rfl⟩ (fun hHeld => ?_)
 clear hK K
 refine norm_ (a' := ?_) ?_ ?_
 rotate_left
 ·show Act.put _ (some 9) _ = _
  simp only [Act.put, List.setIfInBounds_toArray, List.set_cons_zero, List.set_cons_succ, i64_w, i32_w]
  rfl
 refine last_ (i := 4) (N := none) #[true, true, true, true, true, false] rfl rfl (by kernel_rfl) (by decide) (fun K hK => ?_)
 have hs12 : w11.cell? ⟨gb397, 0, none⟩ = some (.int .i64 a0_0) := (blk_cell (BX.out.get 2 rfl) 0).trans rfl
 have hfs12 := blk_frozen (BX.out.get 2 rfl) 0
 obtain ⟨⟨hms12_2, hns12_2⟩, ⟨hms12_1, hns12_1⟩, -⟩ := BX.out.apart 2 rfl
 have hs13 : w11.cell? ⟨gb397, 1, none⟩ = some (.int .i64 a0_1) := (blk_cell (BX.out.get 2 rfl) 1).trans rfl
 have hfs13 := blk_frozen (BX.out.get 2 rfl) 1
 obtain ⟨⟨hms13_2, hns13_2⟩, ⟨hms13_1, hns13_1⟩, -⟩ := BX.out.apart 2 rfl
 refine skip_ (w1 := ?_) (by rfl) rfl ?_ ?_
 rotate_left
 ·go_simp
  rfl
 refine hK.out _ _ ?_
 clear hK K
 refine last_ (i := 5) (N := none) #[true, true, true, true, true, true] rfl rfl (by kernel_rfl) (by decide) (fun K hK => ?_)
 have hs14 : w11.cell? ⟨gb398, 0, none⟩ = some (.int .i64 a1_0) := (blk_cell (BX.out.get 1 rfl) 0).trans rfl
 have hfs14 := blk_frozen (BX.out.get 1 rfl) 0
 obtain ⟨⟨hms14_2, hns14_2⟩, ⟨hms14_0, hns14_0⟩, -⟩ := BX.out.apart 1 rfl
 have hs15 : w11.cell? ⟨gb398, 1, none⟩ = some (.int .i64 a1_1) := (blk_cell (BX.out.get 1 rfl) 1).trans rfl
 have hfs15 := blk_frozen (BX.out.get 1 rfl) 1
 obtain ⟨⟨hms15_2, hns15_2⟩, ⟨hms15_0, hns15_0⟩, -⟩ := BX.out.apart 1 rfl
 refine skip_ (w1 := ?_) (by rfl) rfl ?_ ?_
 rotate_left
 ·go_simp
  rfl
 refine hK.out _ _ ?_
 clear hK K
 refine done_ (by kernel_rfl) ?_
 obtain ⟨⟨hnb17, hnc17⟩, ⟨hnb16, hnc16⟩, -⟩ := BX.out.apart 2 rfl
 have hcz18_0 : w11.cell? ⟨gb397, 0, none⟩ = some (.int .i64 a0_0) := (blk_cell (BX.out.get 2 rfl) 0).trans rfl
 have hcz18_1 : w11.cell? ⟨gb397, 1, none⟩ = some (.int .i64 a0_1) := (blk_cell (BX.out.get 2 rfl) 1).trans rfl
 have hfz18_0 := blk_frozen (BX.out.get 2 rfl) 0
 have hfz18_1 := blk_frozen (BX.out.get 2 rfl) 1
 obtain ⟨⟨hnc19, hnb19⟩, -⟩ := BX.out.apart 0 rfl
 have hcz20_0 : w11.cell? ⟨gb398, 0, none⟩ = some (.int .i64 a1_0) := (blk_cell (BX.out.get 1 rfl) 0).trans rfl
 have hcz20_1 : w11.cell? ⟨gb398, 1, none⟩ = some (.int .i64 a1_1) := (blk_cell (BX.out.get 1 rfl) 1).trans rfl
 have hfz20_0 := blk_frozen (BX.out.get 1 rfl) 0
 have hfz20_1 := blk_frozen (BX.out.get 1 rfl) 1
 try go_wp2_with (first | ((with_reducible refine gate_callee (f := 73) rfl ?_); refine goesL_ (some 18) rfl rfl Tryd.func73 (by kernel_rfl) rfl #[.int .i64 t400, .int .i64 t401, .int .i64 t402, .int .i64 t403] rfl (by (try simp only [List.map_toArray, List.map_cons, List.map_nil]); first | done | rfl | (simp only [List.length_drop, List.length_take]; rfl)) ?_; (with_reducible refine (num_product.calls k t400 t401 t402 t403 t404 t405 t406 _ A5.out).mono ?_); rintro e w21 ⟨rfl, hb⟩; refine ⟨_, rfl, ?_⟩; have n0_ : Aside0 (Boxes w.heap.size _ (_ :: (gb398, 23, #[.int .i64 t402, .int .i64 t403]) :: (gb397, 23, #[.int .i64 t400, .int .i64 t401]) :: _)) := ⟨Boxes.below (by (with_reducible repeat (first | apply boxes_drewN | apply boxes_drew | apply boxes_alloc)); apply boxes_put 1; (with_reducible repeat (first | apply boxes_drewN | apply boxes_drew | apply boxes_alloc)); apply boxes_put 1; (with_reducible repeat (first | apply boxes_drewN | apply boxes_drew | apply boxes_alloc)); apply boxes_put 2; (with_reducible repeat (first | apply boxes_drewN | apply boxes_drew | apply boxes_alloc)); apply boxes_put 2; (with_reducible repeat (first | apply boxes_drewN | apply boxes_drew | apply boxes_alloc)); exact BX.out; any_goals rfl) hb⟩; have n1_ := Aside0.mk (below_step (by repeat (first | (with_reducible first | exact HB.out | apply below_alloc | apply pw_below_drewN | apply below_drew1 | refine below_set ?_ (Aside0.out (by assumption))) | exact HB.out)) hb); clear BX HB; have BX := n0_; have HB := n1_; clear n0_ n1_; (try clear hb); (try clear hb2); (try clear hk); (try clear hi); have hcz22_0 : w21.cell? ⟨gb399, 0, none⟩ = some (.int .i64 0) := (blk_cell (BX.out.get 0 rfl) 0).trans rfl; have hcz22_1 : w21.cell? ⟨gb399, 1, none⟩ = some (.int .i64 0) := (blk_cell (BX.out.get 0 rfl) 1).trans rfl; have hfz22_0 := blk_frozen (BX.out.get 0 rfl) 0; have hfz22_1 := blk_frozen (BX.out.get 0 rfl) 1))
 refine bodyPost_ret (results_ct rfl _ _ gb399 23 #[.int .i64 t404, .int .i64 t405] (0, 0) _ rfl (by (with_reducible repeat (first | refine blk_drewN ?_ _ | refine blk_drew ?_ | refine blk_alloc ?_ _)); refine blk_put (cs := #[.int .i64 t404, .int .i64 0]) ?_ 1 _ rfl; (with_reducible repeat (first | refine blk_drewN ?_ _ | refine blk_drew ?_ | refine blk_alloc ?_ _)); refine blk_put (cs := #[.int .i64 0, .int .i64 0]) ?_ 0 _ rfl; (with_reducible repeat (first | refine blk_drewN ?_ _ | refine blk_drew ?_ | refine blk_alloc ?_ _)); exact (BX.out.get 0 rfl)) Tryd.underlying23 rfl (by kernel_rfl)) rfl ?_
 exact ⟨by first | rfl | (simp [errW_none, errW_some] <;> rfl) | (simp [*, errW_none, errW_some] <;> rfl), by repeat (first | (with_reducible first | exact HB.out | apply below_alloc | apply pw_below_drewN | apply below_drew1 | refine below_set ?_ (Aside0.out (by assumption))) | exact HB.out)⟩

-- NOT PRINTED: function 10 (whittlelaw1_NumGroups)

end Go.Proofs.YtlcjfabbnclalaaDoor.F
