-- Laid by program (wip/tools/gen.sh of this repo) out of the translation; Lean checks it.
import Derived.Test.YtlcjfabbnclalaaDoorF0
import Derived.Test.YtlcjfabbnclalaaDoorB0
import Derived.Test.YtlcjfabbnclalaaDoorF1
import Derived.Test.YtlcjfabbnclalaaDoorF6
import Derived.Test.YtlcjfabbnclalaaDoorF15
import Derived.Test.YtlcjfabbnclalaaDoorF21
import Derived.Test.YtlcjfabbnclalaaDoorF23
import Derived.Test.YtlcjfabbnclalaaDoorF26
import Derived.Test.YtlcjfabbnclalaaDoorF29
import Derived.Test.YtlcjfabbnclalaaDoorG1
namespace Go.Proofs.YtlcjfabbnclalaaDoor.F
open Go.RowKit Go.Proofs.YtlcjfabbnclalaaDoorW.PrintWords Go.Proofs.YtlcjfabbnclalaaDoorW.PrintLast Go.Proofs.YtlcjfabbnclalaaDoorW.PrintMore
attribute [local go_sem] max2_int min2_int max_two min_two max_three min_three max_four min_four   -- for this text's walks alone
set_option linter.unusedVariables false
set_option linter.unusedSimpArgs false

attribute [local go_sem high] eqA23
/-! ### whittlelaw1_NumPowers: function 17 -/
mutual
def whittlelaw1_NumPowers.j0 : Nat → Int → Bool → Int → Int → Option (Bool)
 | 0, _, _, _, _ => none
 | k + 1, x1, x20, x782000, x782001 => if x20 = true then ((whittlelaw1_able.f k).bind fun t784 => (some t784)) else ((whittlelaw1_one.f).bind fun bt785 => (whittlelaw1_NumPowers.l0 k (Go.bits .and .i64 x1 63) true 0 x782000 x782001 bt785.1 bt785.2))
def whittlelaw1_NumPowers.j2 : Nat → Int → Bool → Int → Int → Int → Int → Option (Bool)
 | 0, _, _, _, _, _, _ => none
 | k + 1, x1, x6, x782000, x782001, x788000, x788001 => (num_Pow.f k x782000 x782001 x1).bind fun bt791 => (if (bt791.2.2 != x6) = true then (whittlelaw1_NumPowers.j3 k x1 x6 true x782000 x782001 x788000 x788001) else (if x6 = true then (whittlelaw1_NumPowers.j3 k x1 x6 (!(bt791.1 == x788000) || (!(bt791.2.1 == x788001))) x782000 x782001 x788000 x788001) else (whittlelaw1_NumPowers.j3 k x1 x6 false x782000 x782001 x788000 x788001)))
def whittlelaw1_NumPowers.j3 : Nat → Int → Bool → Bool → Int → Int → Int → Int → Option (Bool)
 | 0, _, _, _, _, _, _, _ => none
 | k + 1, x1, x6, x55, x782000, x782001, x788000, x788001 => if x55 = true then (some false) else ((num_Pow.f k x782000 x782001 (wrap64 (-x1))).bind fun bt795 => (if x6 = true then (whittlelaw1_NumPowers.j4 k x1 bt795.2.2 (x782000 == 0) x782000 x782001 x788000 x788001 bt795.1 bt795.2.1) else (whittlelaw1_NumPowers.j4 k x1 bt795.2.2 true x782000 x782001 x788000 x788001 bt795.1 bt795.2.1)))
def whittlelaw1_NumPowers.j4 : Nat → Int → Bool → Bool → Int → Int → Int → Int → Int → Int → Option (Bool)
 | 0, _, _, _, _, _, _, _, _, _ => none
 | k + 1, x1, x11, x69, x782000, x782001, x788000, x788001, x799000, x799001 => if x69 = true then (if x11 = true then (if x1 = 0 then (some true) else (some (x782000 != 0))) else (some true)) else ((whittlelaw1_one.f).bind fun bt799 => ((num_Div.f k bt799.1 bt799.2 x788000 x788001).bind fun bt801 => (if (x11 == bt801.2.2) = true then (if x11 = true then (some (x799000 == bt801.1 && (x799001 == bt801.2.1))) else (some true)) else (some false))))
def whittlelaw1_NumPowers.l0 : Nat → Int → Bool → Int → Int → Int → Int → Int → Option (Bool)
 | 0, _, _, _, _, _, _, _ => none
 | k + 1, x1, x6, x7, x782000, x782001, x788000, x788001 => if x7 < x1 then (if x6 = true then ((num_Mul.f k x788000 x788001 x782000 x782001).bind fun bt788 => (whittlelaw1_NumPowers.l0 k x1 bt788.2.2 (wrap64 (x7 + 1)) x782000 x782001 bt788.1 bt788.2.1)) else (whittlelaw1_NumPowers.j2 k x1 x6 x782000 x782001 x788000 x788001)) else (whittlelaw1_NumPowers.j2 k x1 x6 x782000 x782001 x788000 x788001)
end
def whittlelaw1_NumPowers.f (k : Nat) (a0_0 : Int) (a0_1 : Int) (a1 : Int) : Option (Bool) := (whittlelaw1_able.f k).bind fun t782 => (if t782 = true then ((whittlelaw1_right.f k a0_0 a0_1).bind fun t783 => (whittlelaw1_NumPowers.j0 k a1 (!t783) a0_0 a0_1)) else (whittlelaw1_NumPowers.j0 k a1 true a0_0 a0_1))
theorem whittlelaw1_NumPowers.mono_l : ∀ k, (∀ y0 y1 y2 y3, LeO (whittlelaw1_NumPowers.j0 k y0 y1 y2 y3) (whittlelaw1_NumPowers.j0 (k + 1) y0 y1 y2 y3)) ∧ (∀ y0 y1 y2 y3 y4 y5, LeO (whittlelaw1_NumPowers.j2 k y0 y1 y2 y3 y4 y5) (whittlelaw1_NumPowers.j2 (k + 1) y0 y1 y2 y3 y4 y5)) ∧ (∀ y0 y1 y2 y3 y4 y5 y6, LeO (whittlelaw1_NumPowers.j3 k y0 y1 y2 y3 y4 y5 y6) (whittlelaw1_NumPowers.j3 (k + 1) y0 y1 y2 y3 y4 y5 y6)) ∧ (∀ y0 y1 y2 y3 y4 y5 y6 y7 y8, LeO (whittlelaw1_NumPowers.j4 k y0 y1 y2 y3 y4 y5 y6 y7 y8) (whittlelaw1_NumPowers.j4 (k + 1) y0 y1 y2 y3 y4 y5 y6 y7 y8)) ∧ (∀ y0 y1 y2 y3 y4 y5 y6, LeO (whittlelaw1_NumPowers.l0 k y0 y1 y2 y3 y4 y5 y6) (whittlelaw1_NumPowers.l0 (k + 1) y0 y1 y2 y3 y4 y5 y6))
 | 0 => ⟨fun _ _ _ _ r h => by simp [whittlelaw1_NumPowers.j0] at h, fun _ _ _ _ _ _ r h => by simp [whittlelaw1_NumPowers.j2] at h, fun _ _ _ _ _ _ _ r h => by simp [whittlelaw1_NumPowers.j3] at h, fun _ _ _ _ _ _ _ _ _ r h => by simp [whittlelaw1_NumPowers.j4] at h, fun _ _ _ _ _ _ _ r h => by simp [whittlelaw1_NumPowers.l0] at h⟩
 | k + 1 => by
  obtain ⟨ih0, ih1, ih2, ih3, ih4⟩ := whittlelaw1_NumPowers.mono_l k
  refine ⟨?_, ?_, ?_, ?_, ?_⟩
  ·intro y0 y1 y2 y3
   unfold whittlelaw1_NumPowers.j0
   repeat' first
   | (with_reducible exact ih0 _ _ _ _)
   | (with_reducible exact ih1 _ _ _ _ _ _)
   | (with_reducible exact ih2 _ _ _ _ _ _ _)
   | (with_reducible exact ih3 _ _ _ _ _ _ _ _ _)
   | (with_reducible exact ih4 _ _ _ _ _ _ _)
   | (with_reducible exact num_Div.mono _ _ _ _ _)
   | (with_reducible exact num_Mul.mono _ _ _ _ _)
   | (with_reducible exact num_Pow.mono _ _ _ _)
   | (with_reducible exact whittlelaw1_able.mono _)
   | (with_reducible exact whittlelaw1_right.mono _ _ _)
   | (with_reducible exact LeO.refl _)
   | (with_reducible exact LeO.none _)
   | (with_reducible refine LeO.ite ?_ ?_)
   | (with_reducible refine LeO.bind ?_ (fun _ => ?_))
   | exact ih0 _ _ _ _
   | exact ih1 _ _ _ _ _ _
   | exact ih2 _ _ _ _ _ _ _
   | exact ih3 _ _ _ _ _ _ _ _ _
   | exact ih4 _ _ _ _ _ _ _
   | exact num_Div.mono _ _ _ _ _
   | exact num_Mul.mono _ _ _ _ _
   | exact num_Pow.mono _ _ _ _
   | exact whittlelaw1_able.mono _
   | exact whittlelaw1_right.mono _ _ _
   | exact LeO.none _
   | refine LeO.ite ?_ ?_
   | refine LeO.bind ?_ (fun _ => ?_)
  ·intro y0 y1 y2 y3 y4 y5
   unfold whittlelaw1_NumPowers.j2
   repeat' first
   | (with_reducible exact ih0 _ _ _ _)
   | (with_reducible exact ih1 _ _ _ _ _ _)
   | (with_reducible exact ih2 _ _ _ _ _ _ _)
   | (with_reducible exact ih3 _ _ _ _ _ _ _ _ _)
   | (with_reducible exact ih4 _ _ _ _ _ _ _)
   | (with_reducible exact num_Div.mono _ _ _ _ _)
   | (with_reducible exact num_Mul.mono _ _ _ _ _)
   | (with_reducible exact num_Pow.mono _ _ _ _)
   | (with_reducible exact whittlelaw1_able.mono _)
   | (with_reducible exact whittlelaw1_right.mono _ _ _)
   | (with_reducible exact LeO.refl _)
   | (with_reducible exact LeO.none _)
   | (with_reducible refine LeO.ite ?_ ?_)
   | (with_reducible refine LeO.bind ?_ (fun _ => ?_))
   | exact ih0 _ _ _ _
   | exact ih1 _ _ _ _ _ _
   | exact ih2 _ _ _ _ _ _ _
   | exact ih3 _ _ _ _ _ _ _ _ _
   | exact ih4 _ _ _ _ _ _ _
   | exact num_Div.mono _ _ _ _ _
   | exact num_Mul.mono _ _ _ _ _
   | exact num_Pow.mono _ _ _ _
   | exact whittlelaw1_able.mono _
   | exact whittlelaw1_right.mono _ _ _
   | exact LeO.none _
   | refine LeO.ite ?_ ?_
   | refine LeO.bind ?_ (fun _ => ?_)
  ·intro y0 y1 y2 y3 y4 y5 y6
   unfold whittlelaw1_NumPowers.j3
   repeat' first
   | (with_reducible exact ih0 _ _ _ _)
   | (with_reducible exact ih1 _ _ _ _ _ _)
   | (with_reducible exact ih2 _ _ _ _ _ _ _)
   | (with_reducible exact ih3 _ _ _ _ _ _ _ _ _)
   | (with_reducible exact ih4 _ _ _ _ _ _ _)
   | (with_reducible exact num_Div.mono _ _ _ _ _)
   | (with_reducible exact num_Mul.mono _ _ _ _ _)
   | (with_reducible exact num_Pow.mono _ _ _ _)
   | (with_reducible exact whittlelaw1_able.mono _)
   | (with_reducible exact whittlelaw1_right.mono _ _ _)
   | (with_reducible exact LeO.refl _)
   | (with_reducible exact LeO.none _)
   | (with_reducible refine LeO.ite ?_ ?_)
   | (with_reducible refine LeO.bind ?_ (fun _ => ?_))
   | exact ih0 _ _ _ _
   | exact ih1 _ _ _ _ _ _
   | exact ih2 _ _ _ _ _ _ _
   | exact ih3 _ _ _ _ _ _ _ _ _
   | exact ih4 _ _ _ _ _ _ _
   | exact num_Div.mono _ _ _ _ _
   | exact num_Mul.mono _ _ _ _ _
   | exact num_Pow.mono _ _ _ _
   | exact whittlelaw1_able.mono _
   | exact whittlelaw1_right.mono _ _ _
   | exact LeO.none _
   | refine LeO.ite ?_ ?_
   | refine LeO.bind ?_ (fun _ => ?_)
  ·intro y0 y1 y2 y3 y4 y5 y6 y7 y8
   unfold whittlelaw1_NumPowers.j4
   repeat' first
   | (with_reducible exact ih0 _ _ _ _)
   | (with_reducible exact ih1 _ _ _ _ _ _)
   | (with_reducible exact ih2 _ _ _ _ _ _ _)
   | (with_reducible exact ih3 _ _ _ _ _ _ _ _ _)
   | (with_reducible exact ih4 _ _ _ _ _ _ _)
   | (with_reducible exact num_Div.mono _ _ _ _ _)
   | (with_reducible exact num_Mul.mono _ _ _ _ _)
   | (with_reducible exact num_Pow.mono _ _ _ _)
   | (with_reducible exact whittlelaw1_able.mono _)
   | (with_reducible exact whittlelaw1_right.mono _ _ _)
   | (with_reducible exact LeO.refl _)
   | (with_reducible exact LeO.none _)
   | (with_reducible refine LeO.ite ?_ ?_)
   | (with_reducible refine LeO.bind ?_ (fun _ => ?_))
   | exact ih0 _ _ _ _
   | exact ih1 _ _ _ _ _ _
   | exact ih2 _ _ _ _ _ _ _
   | exact ih3 _ _ _ _ _ _ _ _ _
   | exact ih4 _ _ _ _ _ _ _
   | exact num_Div.mono _ _ _ _ _
   | exact num_Mul.mono _ _ _ _ _
   | exact num_Pow.mono _ _ _ _
   | exact whittlelaw1_able.mono _
   | exact whittlelaw1_right.mono _ _ _
   | exact LeO.none _
   | refine LeO.ite ?_ ?_
   | refine LeO.bind ?_ (fun _ => ?_)
  ·intro y0 y1 y2 y3 y4 y5 y6
   unfold whittlelaw1_NumPowers.l0
   repeat' first
   | (with_reducible exact ih0 _ _ _ _)
   | (with_reducible exact ih1 _ _ _ _ _ _)
   | (with_reducible exact ih2 _ _ _ _ _ _ _)
   | (with_reducible exact ih3 _ _ _ _ _ _ _ _ _)
   | (with_reducible exact ih4 _ _ _ _ _ _ _)
   | (with_reducible exact num_Div.mono _ _ _ _ _)
   | (with_reducible exact num_Mul.mono _ _ _ _ _)
   | (with_reducible exact num_Pow.mono _ _ _ _)
   | (with_reducible exact whittlelaw1_able.mono _)
   | (with_reducible exact whittlelaw1_right.mono _ _ _)
   | (with_reducible exact LeO.refl _)
   | (with_reducible exact LeO.none _)
   | (with_reducible refine LeO.ite ?_ ?_)
   | (with_reducible refine LeO.bind ?_ (fun _ => ?_))
   | exact ih0 _ _ _ _
   | exact ih1 _ _ _ _ _ _
   | exact ih2 _ _ _ _ _ _ _
   | exact ih3 _ _ _ _ _ _ _ _ _
   | exact ih4 _ _ _ _ _ _ _
   | exact num_Div.mono _ _ _ _ _
   | exact num_Mul.mono _ _ _ _ _
   | exact num_Pow.mono _ _ _ _
   | exact whittlelaw1_able.mono _
   | exact whittlelaw1_right.mono _ _ _
   | exact LeO.none _
   | refine LeO.ite ?_ ?_
   | refine LeO.bind ?_ (fun _ => ?_)
theorem whittlelaw1_NumPowers.mono : ∀ a0 a1 a2 k, LeO (whittlelaw1_NumPowers.f k a0 a1 a2) (whittlelaw1_NumPowers.f (k + 1) a0 a1 a2) := by
 intro a0 a1 a2 k
 obtain ⟨ih0, ih1, ih2, ih3, ih4⟩ := whittlelaw1_NumPowers.mono_l k
 unfold whittlelaw1_NumPowers.f
 repeat' first
   | (with_reducible exact ih0 _ _ _ _)
   | (with_reducible exact ih1 _ _ _ _ _ _)
   | (with_reducible exact ih2 _ _ _ _ _ _ _)
   | (with_reducible exact ih3 _ _ _ _ _ _ _ _ _)
   | (with_reducible exact ih4 _ _ _ _ _ _ _)
   | (with_reducible exact num_Div.mono _ _ _ _ _)
   | (with_reducible exact num_Mul.mono _ _ _ _ _)
   | (with_reducible exact num_Pow.mono _ _ _ _)
   | (with_reducible exact whittlelaw1_able.mono _)
   | (with_reducible exact whittlelaw1_right.mono _ _ _)
   | (with_reducible exact LeO.refl _)
   | (with_reducible exact LeO.none _)
   | (with_reducible refine LeO.ite ?_ ?_)
   | (with_reducible refine LeO.bind ?_ (fun _ => ?_))
   | exact ih0 _ _ _ _
   | exact ih1 _ _ _ _ _ _
   | exact ih2 _ _ _ _ _ _ _
   | exact ih3 _ _ _ _ _ _ _ _ _
   | exact ih4 _ _ _ _ _ _ _
   | exact num_Div.mono _ _ _ _ _
   | exact num_Mul.mono _ _ _ _ _
   | exact num_Pow.mono _ _ _ _
   | exact whittlelaw1_able.mono _
   | exact whittlelaw1_right.mono _ _ _
   | exact LeO.none _
   | refine LeO.ite ?_ ?_
   | refine LeO.bind ?_ (fun _ => ?_)
def whittlelaw1_NumPowers.T15 : Bool × List (List Nat × List Nat) := (true, [([], []), ([], []), ([0, 1, 0], [0, 1]), ([2], [2]), ([3], [3]), ([3], [3]), ([], []), ([6, 4, 2, 0, 1, 2, 3, 4, 6], [4, 6]), ([5, 7, 0, 1, 2, 3, 4, 5, 6, 7], [5])])
def whittlelaw1_NumPowers.B15 : List Nat := [0, 0, 3, 7, 15, 15, 0, 95, 255]
theorem whittlelaw1_NumPowers.tab15 : rtab .any (opsOf Tryd.f17 15) = whittlelaw1_NumPowers.T15 := by kernel_rfl
theorem whittlelaw1_NumPowers.bits15 : waitsOk whittlelaw1_NumPowers.T15.2 whittlelaw1_NumPowers.B15 = true := by kernel_rfl
set_option maxHeartbeats 8000000 in
set_option maxRecDepth 100000 in
theorem whittlelaw1_NumPowers.calls (k : Nat) (a0_0 : Int) (a0_1 : Int) (a1 : Int) (r : Bool) (w : World) (HT0 : TabAt w) (hr0 : r = true) (h : whittlelaw1_NumPowers.f k a0_0 a0_1 a1 = some r) :
  Calls Tryd.prog 17 #[.agg #[.int .i64 a0_0, .int .i64 a0_1], .int .i64 a1] w fun e w' => e = .returned (.bool r) ∧ Below w.heap.size w w' := by
 have hu23 := Tryd.underlying23
 have HT := Aside0.mk HT0
 clear HT0
 have HR := Aside0.mk hr0
 clear hr0
 have HB := Aside0.mk (Below.refl w.heap.size w)
 have H : ((whittlelaw1_able.f k).bind fun t782 => (if t782 = true then ((whittlelaw1_right.f k a0_0 a0_1).bind fun t783 => (whittlelaw1_NumPowers.j0 k a1 (!t783) a0_0 a0_1)) else (whittlelaw1_NumPowers.j0 k a1 true a0_0 a0_1))) = some r := h
 clear h
 have HC3 := Aside0.mk H
 clear H
 go_enter Tryd.func17, Tryd.ntmps17
 go_upto_region 1 with (first | ((with_reducible refine gate_dst (N := 2) rfl ?_); refine box_event ?hg (N := 2) ?hd (cs := #[.int .i64 a0_0, .int .i64 a0_1]) (t := 23) ?hr ?_; (case hd => rfl); (case hg => rfl); (case hr => first | (go_simp; done) | (go_simp; rfl)); intro gb781 hg w4 hbox hb; have n0_ := Aside0.mk (Boxes.new (b := w.heap.size) (L := []) trivial hg hbox hb (below_size (by repeat (first | (with_reducible first | exact HB.out | apply below_alloc | apply pw_below_drewN | apply below_drew1 | refine below_set ?_ (Aside0.out (by assumption))) | exact HB.out)))); have n1_ := Aside0.mk (below_step (by repeat (first | (with_reducible first | exact HB.out | apply below_alloc | apply pw_below_drewN | apply below_drew1 | refine below_set ?_ (Aside0.out (by assumption))) | exact HB.out)) hb); have n2_ := Aside0.mk ((by rw [hg]; exact (below_size (by repeat (first | (with_reducible first | exact HB.out | apply below_alloc | apply pw_below_drewN | apply below_drew1 | refine below_set ?_ (Aside0.out (by assumption))) | exact HB.out))) : w.heap.size ≤ gb781)); clear HB; have BX := n0_; have HB := n1_; have GE781 := n2_; clear n0_ n1_ n2_; clear hb hbox hg))
 (try simp only [Act.put, List.setIfInBounds_toArray, List.set_cons_zero, List.set_cons_succ])
 go_cut [20] (fun v20 wc => ∃ (kq : Nat) (x20_2 : Bool), v20 = .bool x20_2 ∧ Aside0 (whittlelaw1_NumPowers.j0 kq a1 x20_2 a0_0 a0_1 = some r) ∧ Aside0 (kq ≤ k) ∧ Aside0 (Boxes w.heap.size wc [(gb781, 23, #[.int .i64 a0_0, .int .i64 a0_1])]) ∧ Aside0 (Below w.heap.size w wc))
 case first =>
  have H := HC3.out
  clear HC3
  replace H := Option.bind_eq_some_iff.mp H
  obtain ⟨t782, A50, H⟩ := H
  replace H : (if t782 = true then ((whittlelaw1_right.f k a0_0 a0_1).bind fun t783 => (whittlelaw1_NumPowers.j0 k a1 (!t783) a0_0 a0_1)) else (whittlelaw1_NumPowers.j0 k a1 true a0_0 a0_1)) = some r := H
  have A5 := Aside0.mk A50
  clear A50
  by_cases c6 : t782 = true
  ·subst c6
   have H1 : ((whittlelaw1_right.f k a0_0 a0_1).bind fun t783 => (whittlelaw1_NumPowers.j0 k a1 (!t783) a0_0 a0_1)) = some r := by rw [if_pos rfl] at H; exact H
   clear H
   have H := H1
   clear H1
   replace H := Option.bind_eq_some_iff.mp H
   obtain ⟨t783, A70, H⟩ := H
   replace H : (whittlelaw1_NumPowers.j0 k a1 (!t783) a0_0 a0_1) = some r := H
   have A7 := Aside0.mk A70
   clear A70
   have H' := Aside0.mk H
   clear H
   go_wp2_with (first | ((with_reducible refine gate_callee (f := 22) rfl ?_); refine goesL_ (some 14) rfl rfl Tryd.func22 (by kernel_rfl) rfl #[] rfl (by (try simp only [List.map_toArray, List.map_cons, List.map_nil]); first | done | rfl | (simp only [List.length_drop, List.length_take]; rfl)) ?_; (with_reducible refine (whittlelaw1_able.calls k  true _ ?side1 A5.out).mono ?_); (case side1 => exact HT.out.on (by repeat (first | (with_reducible first | exact HB.out | apply below_alloc | apply pw_below_drewN | apply below_drew1 | refine below_set ?_ (Aside0.out (by assumption))) | exact HB.out))); rintro e w8 ⟨rfl, hb⟩; refine ⟨_, rfl, ?_⟩; have n0_ := Aside0.mk (Boxes.below (by (with_reducible repeat (first | apply boxes_drewN | apply boxes_drew | apply boxes_alloc)); exact BX.out) hb); have n1_ := Aside0.mk (below_step (by repeat (first | (with_reducible first | exact HB.out | apply below_alloc | apply pw_below_drewN | apply below_drew1 | refine below_set ?_ (Aside0.out (by assumption))) | exact HB.out)) hb); clear BX HB; have BX := n0_; have HB := n1_; clear n0_ n1_; (try clear hb); (try clear hb2); (try clear hk); (try clear hi); have hcz9_0 : w8.cell? ⟨gb781, 0, none⟩ = some (.int .i64 a0_0) := (blk_cell (BX.out.get 0 rfl) 0).trans rfl; have hcz9_1 : w8.cell? ⟨gb781, 1, none⟩ = some (.int .i64 a0_1) := (blk_cell (BX.out.get 0 rfl) 1).trans rfl; have hfz9_0 := blk_frozen (BX.out.get 0 rfl) 0; have hfz9_1 := blk_frozen (BX.out.get 0 rfl) 1) | (go_at_call 31; (with_reducible refine (whittlelaw1_right.calls k a0_0 a0_1 t783 _ A7.out).mono ?_); rintro e w10 ⟨rfl, hb⟩; have n0_ := Aside0.mk (Boxes.below (by (with_reducible repeat (first | apply boxes_drewN | apply boxes_drew | apply boxes_alloc)); exact BX.out) hb); have n1_ := Aside0.mk (below_step (by repeat (first | (with_reducible first | exact HB.out | apply below_alloc | apply pw_below_drewN | apply below_drew1 | refine below_set ?_ (Aside0.out (by assumption))) | exact HB.out)) hb); clear BX HB; have BX := n0_; have HB := n1_; clear n0_ n1_; (try clear hb); (try clear hb2); (try clear hk); (try clear hi)))
   go_meet
   case rel => exact ⟨_, (!t783), (by first | rfl | (simp; done) | (simp [*]; done) | (simp [bne_nil]; done)), H', ⟨by first | omega | exact Nat.le_refl _⟩, ⟨by (with_reducible repeat (first | apply boxes_drewN | apply boxes_drew | apply boxes_alloc)); exact BX.out⟩, ⟨by repeat (first | (with_reducible first | exact HB.out | apply below_alloc | apply pw_below_drewN | apply below_drew1 | refine below_set ?_ (Aside0.out (by assumption))) | exact HB.out)⟩⟩
  ·replace c6 := Bool.eq_false_iff.mpr c6
   subst c6
   have H1 : (whittlelaw1_NumPowers.j0 k a1 true a0_0 a0_1) = some r := by rw [if_neg (show ¬ (false = true) by decide)] at H; exact H
   clear H
   have H := H1
   clear H1
   have H' := Aside0.mk H
   clear H
   go_wp2_with (first | ((with_reducible refine gate_callee (f := 22) rfl ?_); refine goesL_ (some 14) rfl rfl Tryd.func22 (by kernel_rfl) rfl #[] rfl (by (try simp only [List.map_toArray, List.map_cons, List.map_nil]); first | done | rfl | (simp only [List.length_drop, List.length_take]; rfl)) ?_; (with_reducible refine (whittlelaw1_able.calls k  false _ ?side1 A5.out).mono ?_); (case side1 => exact HT.out.on (by repeat (first | (with_reducible first | exact HB.out | apply below_alloc | apply pw_below_drewN | apply below_drew1 | refine below_set ?_ (Aside0.out (by assumption))) | exact HB.out))); rintro e w11 ⟨rfl, hb⟩; refine ⟨_, rfl, ?_⟩; have n0_ := Aside0.mk (Boxes.below (by (with_reducible repeat (first | apply boxes_drewN | apply boxes_drew | apply boxes_alloc)); exact BX.out) hb); have n1_ := Aside0.mk (below_step (by repeat (first | (with_reducible first | exact HB.out | apply below_alloc | apply pw_below_drewN | apply below_drew1 | refine below_set ?_ (Aside0.out (by assumption))) | exact HB.out)) hb); clear BX HB; have BX := n0_; have HB := n1_; clear n0_ n1_; (try clear hb); (try clear hb2); (try clear hk); (try clear hi)))
   go_meet
   case rel => exact ⟨_, (true), (by first | rfl | (simp; done) | (simp [*]; done) | (simp [bne_nil]; done)), H', ⟨by first | omega | exact Nat.le_refl _⟩, ⟨by (with_reducible repeat (first | apply boxes_drewN | apply boxes_drew | apply boxes_alloc)); exact BX.out⟩, ⟨by repeat (first | (with_reducible first | exact HB.out | apply below_alloc | apply pw_below_drewN | apply below_drew1 | refine below_set ?_ (Aside0.out (by assumption))) | exact HB.out)⟩⟩
 case rest =>
  clear HC3
  try clear c1
  try clear c2
  try clear p2
  try clear c6
  try clear hcz9_0
  try clear hcz9_1
  try clear hfz9_0
  try clear hfz9_1
  obtain ⟨kq, x20_2, rfl, HA, HJ2, BX, HB⟩ := hcut
  cases kq with
  | zero => exact absurd HA.out (by simp [whittlelaw1_NumPowers.j0])
  | succ kj2 =>
   have H := HA.out
   clear HA
   simp only [whittlelaw1_NumPowers.j0] at H
   by_cases c12 : x20_2 = true
   ·subst c12
    have H1 : ((whittlelaw1_able.f kj2).bind fun t784 => (some t784)) = some r := by rw [if_pos rfl] at H; exact H
    clear H
    have H := H1
    clear H1
    replace H := Option.bind_eq_some_iff.mp H
    obtain ⟨t784, A130, H⟩ := H
    replace H : (some t784) = some r := H
    have A13 := Aside0.mk A130
    clear A130
    clear HR
    obtain rfl := Option.some.inj H
    go_wp2_with (first | ((with_reducible refine gate_callee (f := 22) rfl ?_); refine goesL_ (some 21) rfl rfl Tryd.func22 (by kernel_rfl) rfl #[] rfl (by (try simp only [List.map_toArray, List.map_cons, List.map_nil]); first | done | rfl | (simp only [List.length_drop, List.length_take]; rfl)) ?_; (with_reducible refine (whittlelaw1_able.calls kj2  t784 _ ?side1 A13.out).mono ?_); (case side1 => exact HT.out.on (by repeat (first | (with_reducible first | exact HB.out | apply below_alloc | apply pw_below_drewN | apply below_drew1 | refine below_set ?_ (Aside0.out (by assumption))) | exact HB.out))); rintro e w14 ⟨rfl, hb⟩; refine ⟨_, rfl, ?_⟩; have n0_ := Aside0.mk (Boxes.below (by (with_reducible repeat (first | apply boxes_drewN | apply boxes_drew | apply boxes_alloc)); exact BX.out) hb); have n1_ := Aside0.mk (below_step (by repeat (first | (with_reducible first | exact HB.out | apply below_alloc | apply pw_below_drewN | apply below_drew1 | refine below_set ?_ (Aside0.out (by assumption))) | exact HB.out)) hb); clear BX HB; have BX := n0_; have HB := n1_; clear n0_ n1_; (try clear hb); (try clear hb2); (try clear hk); (try clear hi)))
    go_ret
    exact ⟨by first | rfl | (simp [errW_none, errW_some] <;> rfl) | (simp [*, errW_none, errW_some] <;> rfl), by repeat (first | (with_reducible first | exact HB.out | apply below_alloc | apply pw_below_drewN | apply below_drew1 | refine below_set ?_ (Aside0.out (by assumption))) | exact HB.out)⟩
   ·replace c12 := Bool.eq_false_iff.mpr c12
    subst c12
    have H1 : ((whittlelaw1_one.f).bind fun bt785 => (whittlelaw1_NumPowers.l0 kj2 (Go.bits .and .i64 a1 63) true 0 a0_0 a0_1 bt785.1 bt785.2)) = some r := by rw [if_neg (show ¬ (false = true) by decide)] at H; exact H
    clear H
    have H := H1
    clear H1
    replace H := Option.bind_eq_some_iff.mp H
    obtain ⟨⟨t785, t786⟩, A150, H⟩ := H
    replace H : (whittlelaw1_NumPowers.l0 kj2 (Go.bits .and .i64 a1 63) true 0 a0_0 a0_1 t785 t786) = some r := H
    have A15 := Aside0.mk A150
    clear A150
    have HC16 := Aside0.mk H
    clear H
    go_upto_block 0 with (first | ((with_reducible refine gate_callee (f := 48) rfl ?_); refine goesL_ (some 24) rfl rfl Tryd.func48 (by kernel_rfl) rfl #[] rfl (by (try simp only [List.map_toArray, List.map_cons, List.map_nil]); first | done | rfl | (simp only [List.length_drop, List.length_take]; rfl)) ?_; (with_reducible refine (whittlelaw1_one.calls  t785 t786 _ A15.out).mono ?_); rintro e w17 ⟨rfl, hb⟩; refine ⟨_, rfl, ?_⟩; have n0_ := Aside0.mk (Boxes.below (by (with_reducible repeat (first | apply boxes_drewN | apply boxes_drew | apply boxes_alloc)); exact BX.out) hb); have n1_ := Aside0.mk (below_step (by repeat (first | (with_reducible first | exact HB.out | apply below_alloc | apply pw_below_drewN | apply below_drew1 | refine below_set ?_ (Aside0.out (by assumption))) | exact HB.out)) hb); clear BX HB; have BX := n0_; have HB := n1_; clear n0_ n1_; (try clear hb); (try clear hb2); (try clear hk); (try clear hi)) | ((with_reducible refine gate_dst (N := 5) rfl ?_); refine box_event ?hg (N := 5) ?hd (cs := #[.int .i64 0, .int .i64 0]) (t := 23) ?hr ?_; (case hd => rfl); (case hg => rfl); (case hr => first | (go_simp; done) | (go_simp; rfl)); intro gb787 hg w18 hbox hb; have n0_ := Aside0.mk (Boxes.new (by (with_reducible repeat (first | apply boxes_drewN | apply boxes_drew | apply boxes_alloc)); exact BX.out) hg hbox hb (below_size (by repeat (first | (with_reducible first | exact HB.out | apply below_alloc | apply pw_below_drewN | apply below_drew1 | refine below_set ?_ (Aside0.out (by assumption))) | exact HB.out)))); have n1_ := Aside0.mk (below_step (by repeat (first | (with_reducible first | exact HB.out | apply below_alloc | apply pw_below_drewN | apply below_drew1 | refine below_set ?_ (Aside0.out (by assumption))) | exact HB.out)) hb); have n2_ := Aside0.mk ((by rw [hg]; exact (below_size (by repeat (first | (with_reducible first | exact HB.out | apply below_alloc | apply pw_below_drewN | apply below_drew1 | refine below_set ?_ (Aside0.out (by assumption))) | exact HB.out))) : w.heap.size ≤ gb787)); clear BX HB; have BX := n0_; have HB := n1_; have GE787 := n2_; clear n0_ n1_ n2_; clear hb hbox hg; obtain ⟨⟨hnb19, hnc19⟩, -⟩ := BX.out.apart 0 rfl; have hcz20_0 : w18.cell? ⟨gb787, 0, none⟩ = some (.int .i64 0) := (blk_cell (BX.out.get 0 rfl) 0).trans rfl; have hcz20_1 : w18.cell? ⟨gb787, 1, none⟩ = some (.int .i64 0) := (blk_cell (BX.out.get 0 rfl) 1).trans rfl; have hfz20_0 := blk_frozen (BX.out.get 0 rfl) 0; have hfz20_1 := blk_frozen (BX.out.get 0 rfl) 1))
    (try simp only [Act.put, List.setIfInBounds_toArray, List.set_cons_zero, List.set_cons_succ])
    go_cut [6] (fun v6 wc => ∃ (kq : Nat) (x6_15 : Bool) (x788000_15 : Int) (x788001_15 : Int), v6 = .bool x6_15 ∧ Aside0 (whittlelaw1_NumPowers.j2 kq (Go.bits .and .i64 a1 63) x6_15 a0_0 a0_1 x788000_15 x788001_15 = some r) ∧ Aside0 (kq ≤ kj2) ∧ Aside0 (Boxes w.heap.size wc [(gb787, 23, #[.int .i64 x788000_15, .int .i64 x788001_15]), (gb781, 23, #[.int .i64 a0_0, .int .i64 a0_1])]) ∧ Aside0 (Below w.heap.size w wc))
    case first =>
     have H := HC16.out
     clear HC16
     have H' := Aside0.mk H
     clear H
     go_wp2
     go_loopg [6, 7] kj2 (fun kq v6 v7 w' => ∃ (x6_2 : Bool) (x7_2 : Int) (x788000_2 : Int) (x788001_2 : Int), v6 = .bool x6_2 ∧ v7 = .int .i64 x7_2 ∧ Aside0 (whittlelaw1_NumPowers.l0 kq (Go.bits .and .i64 a1 63) x6_2 x7_2 a0_0 a0_1 x788000_2 x788001_2 = some r) ∧ Aside0 (kq ≤ kj2) ∧ Aside0 (Boxes w.heap.size w' [(gb787, 23, #[.int .i64 x788000_2, .int .i64 x788001_2]), (gb781, 23, #[.int .i64 a0_0, .int .i64 a0_1])]) ∧ Aside0 (Below w.heap.size w w'))
     case atStart => exact ⟨(true), (0), (t785), (t786), (by first | rfl | (simp; done) | (simp [*]; done) | (simp [bne_nil]; done)), (by first | rfl | (simp; done) | (simp [*]; done) | (simp [bne_nil]; done)), H', ⟨Nat.le_refl _⟩, ⟨by (with_reducible repeat (first | apply boxes_drewN | apply boxes_drew | apply boxes_alloc)); apply boxes_put 0; (with_reducible repeat (first | apply boxes_drewN | apply boxes_drew | apply boxes_alloc)); apply boxes_put 0; (with_reducible repeat (first | apply boxes_drewN | apply boxes_drew | apply boxes_alloc)); exact BX.out; any_goals rfl⟩, ⟨by repeat (first | (with_reducible first | exact HB.out | apply below_alloc | apply pw_below_drewN | apply below_drew1 | refine below_set ?_ (Aside0.out (by assumption))) | exact HB.out)⟩⟩
     case round =>
      clear H'
      try clear c1
      try clear c2
      try clear p2
      try clear c4
      try clear c6
      try clear c12
      try clear c17
      try clear c19
      try clear hcz20_0
      try clear hcz20_1
      try clear hcz9_0
      try clear hcz9_1
      try clear hfz20_0
      try clear hfz20_1
      try clear hfz9_0
      try clear hfz9_1
      try clear p2
      obtain ⟨x6_2, x7_2, x788000_2, x788001_2, rfl, rfl, HA, HK2, BX, HB⟩ := hrel
      cases gk with
      | zero => exact absurd HA.out (by simp [whittlelaw1_NumPowers.l0])
      | succ k2 =>
       have H := HA.out
       clear HA
       simp only [whittlelaw1_NumPowers.l0] at H
       by_cases c21 : x7_2 < (Go.bits .and .i64 a1 63)
       ·rw [if_pos c21] at H
        have c21b0 : decide (x7_2 < (Go.bits .and .i64 a1 63)) = true := decide_eq_true c21
        clear c21
        (first | rw [c21b0] | (simp only [i64_w, i32_w]; rw [c21b0]) | skip)
        by_cases c22 : x6_2 = true
        ·subst c22
         have H1 : ((num_Mul.f k2 x788000_2 x788001_2 a0_0 a0_1).bind fun bt788 => (whittlelaw1_NumPowers.l0 k2 (Go.bits .and .i64 a1 63) bt788.2.2 (wrap64 (x7_2 + 1)) a0_0 a0_1 bt788.1 bt788.2.1)) = some r := by rw [if_pos rfl] at H; exact H
         clear H
         have H := H1
         clear H1
         replace H := Option.bind_eq_some_iff.mp H
         obtain ⟨⟨t788, t789, t790⟩, A230, H⟩ := H
         replace H : (whittlelaw1_NumPowers.l0 k2 (Go.bits .and .i64 a1 63) t790 (wrap64 (x7_2 + 1)) a0_0 a0_1 t788 t789) = some r := H
         have A23 := Aside0.mk A230
         clear A230
         have H' := Aside0.mk H
         clear H
         obtain ⟨⟨hnb24, hnc24⟩, -⟩ := BX.out.apart 0 rfl
         have hcz25_0 : wr.cell? ⟨gb787, 0, none⟩ = some (.int .i64 x788000_2) := (blk_cell (BX.out.get 0 rfl) 0).trans rfl
         have hcz25_1 : wr.cell? ⟨gb787, 1, none⟩ = some (.int .i64 x788001_2) := (blk_cell (BX.out.get 0 rfl) 1).trans rfl
         have hfz25_0 := blk_frozen (BX.out.get 0 rfl) 0
         have hfz25_1 := blk_frozen (BX.out.get 0 rfl) 1
         have hcz26_0 : wr.cell? ⟨gb781, 0, none⟩ = some (.int .i64 a0_0) := (blk_cell (BX.out.get 1 rfl) 0).trans rfl
         have hcz26_1 : wr.cell? ⟨gb781, 1, none⟩ = some (.int .i64 a0_1) := (blk_cell (BX.out.get 1 rfl) 1).trans rfl
         have hfz26_0 := blk_frozen (BX.out.get 1 rfl) 0
         have hfz26_1 := blk_frozen (BX.out.get 1 rfl) 1
         go_wp2_with (first | ((with_reducible refine gate_callee (f := 39) rfl ?_); refine goesL_ (some 36) rfl rfl Tryd.func39 (by kernel_rfl) rfl #[.agg #[.int .i64 x788000_2, .int .i64 x788001_2], .agg #[.int .i64 a0_0, .int .i64 a0_1]] rfl (by (try simp only [List.map_toArray, List.map_cons, List.map_nil]); first | done | rfl | (simp only [List.length_drop, List.length_take]; rfl)) ?_; (with_reducible refine (num_Mul.calls k2 x788000_2 x788001_2 a0_0 a0_1 t788 t789 t790 _ A23.out).mono ?_); rintro e w27 ⟨rfl, hb⟩; refine ⟨_, rfl, ?_⟩; have n0_ := Aside0.mk (Boxes.below (by (with_reducible repeat (first | apply boxes_drewN | apply boxes_drew | apply boxes_alloc)); exact BX.out) hb); have n1_ := Aside0.mk (below_step (by repeat (first | (with_reducible first | exact HB.out | apply below_alloc | apply pw_below_drewN | apply below_drew1 | refine below_set ?_ (Aside0.out (by assumption))) | exact HB.out)) hb); clear BX HB; have BX := n0_; have HB := n1_; clear n0_ n1_; (try clear hb); (try clear hb2); (try clear hk); (try clear hi); have hcz28_0 : w27.cell? ⟨gb787, 0, none⟩ = some (.int .i64 x788000_2) := (blk_cell (BX.out.get 0 rfl) 0).trans rfl; have hcz28_1 : w27.cell? ⟨gb787, 1, none⟩ = some (.int .i64 x788001_2) := (blk_cell (BX.out.get 0 rfl) 1).trans rfl; have hfz28_0 := blk_frozen (BX.out.get 0 rfl) 0; have hfz28_1 := blk_frozen (BX.out.get 0 rfl) 1))
         go_roundg k2
         case measure => have := HJ2.out; have := HK2.out; omega
         case rel => exact ⟨(t790), (wrap64 (x7_2 + 1)), (t788), (t789), (by first | rfl | (simp; done) | (simp [*]; done) | (simp [bne_nil]; done)), (by first | rfl | (simp; done) | (simp [*]; done) | (simp [bne_nil]; done)), H', ⟨by have := HJ2.out; have := HK2.out; omega⟩, ⟨by (with_reducible repeat (first | apply boxes_drewN | apply boxes_drew | apply boxes_alloc)); apply boxes_put 0; (with_reducible repeat (first | apply boxes_drewN | apply boxes_drew | apply boxes_alloc)); apply boxes_put 0; (with_reducible repeat (first | apply boxes_drewN | apply boxes_drew | apply boxes_alloc)); exact BX.out; any_goals rfl⟩, ⟨by repeat (first | (with_reducible first | exact HB.out | apply below_alloc | apply pw_below_drewN | apply below_drew1 | refine below_set ?_ (Aside0.out (by assumption))) | exact HB.out)⟩⟩
        ·replace c22 := Bool.eq_false_iff.mpr c22
         subst c22
         have H1 : (whittlelaw1_NumPowers.j2 k2 (Go.bits .and .i64 a1 63) false a0_0 a0_1 x788000_2 x788001_2) = some r := by rw [if_neg (show ¬ (false = true) by decide)] at H; exact H
         clear H
         have H := H1
         clear H1
         have H' := Aside0.mk H
         clear H
         go_wp2
         go_meet
         case rel => exact ⟨_, (false), (x788000_2), (x788001_2), (by first | rfl | (simp; done) | (simp [*]; done) | (simp [bne_nil]; done)), H', ⟨by have := HJ2.out; have := HK2.out; first | omega | exact Nat.le_refl _⟩, ⟨by (with_reducible repeat (first | apply boxes_drewN | apply boxes_drew | apply boxes_alloc)); exact BX.out⟩, ⟨by repeat (first | (with_reducible first | exact HB.out | apply below_alloc | apply pw_below_drewN | apply below_drew1 | refine below_set ?_ (Aside0.out (by assumption))) | exact HB.out)⟩⟩
       ·rw [if_neg c21] at H
        have c21b0 : decide (x7_2 < (Go.bits .and .i64 a1 63)) = false := decide_eq_false c21
        clear c21
        (first | rw [c21b0] | (simp only [i64_w, i32_w]; rw [c21b0]) | skip)
        have H' := Aside0.mk H
        clear H
        go_wp2
        go_meet
        case rel => exact ⟨_, (x6_2), (x788000_2), (x788001_2), (by first | rfl | (simp; done) | (simp [*]; done) | (simp [bne_nil]; done)), H', ⟨by have := HJ2.out; have := HK2.out; first | omega | exact Nat.le_refl _⟩, ⟨by (with_reducible repeat (first | apply boxes_drewN | apply boxes_drew | apply boxes_alloc)); exact BX.out⟩, ⟨by repeat (first | (with_reducible first | exact HB.out | apply below_alloc | apply pw_below_drewN | apply below_drew1 | refine below_set ?_ (Aside0.out (by assumption))) | exact HB.out)⟩⟩
    case rest =>
     clear HC16
     try clear c1
     try clear c2
     try clear p2
     try clear c3
     try clear c4
     try clear c6
     try clear p6
     try clear c12
     try clear c17
     try clear c19
     try clear c21
     try clear c21b0
     try clear c22
     try clear c24
     try clear hcz20_0
     try clear hcz20_1
     try clear hcz25_0
     try clear hcz25_1
     try clear hcz26_0
     try clear hcz26_1
     try clear hcz28_0
     try clear hcz28_1
     try clear hcz9_0
     try clear hcz9_1
     try clear hfz20_0
     try clear hfz20_1
     try clear hfz25_0
     try clear hfz25_1
     try clear hfz26_0
     try clear hfz26_1
     try clear hfz28_0
     try clear hfz28_1
     try clear hfz9_0
     try clear hfz9_1
     try clear p2
     obtain ⟨kq, x6_15, x788000_15, x788001_15, rfl, HA, HJ15, BX, HB⟩ := hcut
     cases kq with
     | zero => exact absurd HA.out (by simp [whittlelaw1_NumPowers.j2])
     | succ kj15 =>
      have H := HA.out
      clear HA
      simp only [whittlelaw1_NumPowers.j2] at H
      replace H := Option.bind_eq_some_iff.mp H
      obtain ⟨⟨t791, t792, t793⟩, A290, H⟩ := H
      replace H : (if (t793 != x6_15) = true then (whittlelaw1_NumPowers.j3 kj15 (Go.bits .and .i64 a1 63) x6_15 true a0_0 a0_1 x788000_15 x788001_15) else (if x6_15 = true then (whittlelaw1_NumPowers.j3 kj15 (Go.bits .and .i64 a1 63) x6_15 (!(t791 == x788000_15) || (!(t792 == x788001_15))) a0_0 a0_1 x788000_15 x788001_15) else (whittlelaw1_NumPowers.j3 kj15 (Go.bits .and .i64 a1 63) x6_15 false a0_0 a0_1 x788000_15 x788001_15))) = some r := H
      have A29 := Aside0.mk A290
      clear A290
      have HC30 := Aside0.mk H
      clear H
      obtain ⟨⟨hnc31, hnb31⟩, -⟩ := BX.out.apart 0 rfl
      have hcz32_0 : wc.cell? ⟨gb781, 0, none⟩ = some (.int .i64 a0_0) := (blk_cell (BX.out.get 1 rfl) 0).trans rfl
      have hcz32_1 : wc.cell? ⟨gb781, 1, none⟩ = some (.int .i64 a0_1) := (blk_cell (BX.out.get 1 rfl) 1).trans rfl
      have hfz32_0 := blk_frozen (BX.out.get 1 rfl) 0
      have hfz32_1 := blk_frozen (BX.out.get 1 rfl) 1
      go_upto_region 10 with (first | ((with_reducible refine gate_callee (f := 43) rfl ?_); refine goesL_ (some 42) rfl rfl Tryd.func43 (by kernel_rfl) rfl #[.agg #[.int .i64 a0_0, .int .i64 a0_1], .int .i64 (Go.bits .and .i64 a1 63)] rfl (by (try simp only [List.map_toArray, List.map_cons, List.map_nil]); first | done | rfl | (simp only [List.length_drop, List.length_take]; rfl)) ?_; (with_reducible refine (num_Pow.calls kj15 a0_0 a0_1 (Go.bits .and .i64 a1 63) t791 t792 t793 _ A29.out).mono ?_); rintro e w33 ⟨rfl, hb⟩; refine ⟨_, rfl, ?_⟩; have n0_ := Aside0.mk (Boxes.below (by (with_reducible repeat (first | apply boxes_drewN | apply boxes_drew | apply boxes_alloc)); exact BX.out) hb); have n1_ := Aside0.mk (below_step (by repeat (first | (with_reducible first | exact HB.out | apply below_alloc | apply pw_below_drewN | apply below_drew1 | refine below_set ?_ (Aside0.out (by assumption))) | exact HB.out)) hb); clear BX HB; have BX := n0_; have HB := n1_; clear n0_ n1_; (try clear hb); (try clear hb2); (try clear hk); (try clear hi)) | ((with_reducible refine gate_dst (N := 8) rfl ?_); refine box_event ?hg (N := 8) ?hd (cs := #[.int .i64 0, .int .i64 0]) (t := 23) ?hr ?_; (case hd => rfl); (case hg => rfl); (case hr => first | (go_simp; done) | (go_simp; rfl)); intro gb794 hg w34 hbox hb; have n0_ := Aside0.mk (Boxes.new (by (with_reducible repeat (first | apply boxes_drewN | apply boxes_drew | apply boxes_alloc)); exact BX.out) hg hbox hb (below_size (by repeat (first | (with_reducible first | exact HB.out | apply below_alloc | apply pw_below_drewN | apply below_drew1 | refine below_set ?_ (Aside0.out (by assumption))) | exact HB.out)))); have n1_ := Aside0.mk (below_step (by repeat (first | (with_reducible first | exact HB.out | apply below_alloc | apply pw_below_drewN | apply below_drew1 | refine below_set ?_ (Aside0.out (by assumption))) | exact HB.out)) hb); have n2_ := Aside0.mk ((by rw [hg]; exact (below_size (by repeat (first | (with_reducible first | exact HB.out | apply below_alloc | apply pw_below_drewN | apply below_drew1 | refine below_set ?_ (Aside0.out (by assumption))) | exact HB.out))) : w.heap.size ≤ gb794)); clear BX HB; have BX := n0_; have HB := n1_; have GE794 := n2_; clear n0_ n1_ n2_; clear hb hbox hg; obtain ⟨⟨hnb36, hnc36⟩, ⟨hnb35, hnc35⟩, -⟩ := BX.out.apart 0 rfl; have hcz37_0 : w34.cell? ⟨gb794, 0, none⟩ = some (.int .i64 0) := (blk_cell (BX.out.get 0 rfl) 0).trans rfl; have hcz37_1 : w34.cell? ⟨gb794, 1, none⟩ = some (.int .i64 0) := (blk_cell (BX.out.get 0 rfl) 1).trans rfl; have hfz37_0 := blk_frozen (BX.out.get 0 rfl) 0; have hfz37_1 := blk_frozen (BX.out.get 0 rfl) 1))
      (try simp only [Act.put, List.setIfInBounds_toArray, List.set_cons_zero, List.set_cons_succ])
      go_cut [55] (fun v55 wc => ∃ (kq : Nat) (x55_29 : Bool), v55 = .bool x55_29 ∧ Aside0 (whittlelaw1_NumPowers.j3 kq (Go.bits .and .i64 a1 63) x6_15 x55_29 a0_0 a0_1 x788000_15 x788001_15 = some r) ∧ Aside0 (kq ≤ kj15) ∧ Aside0 (Boxes w.heap.size wc [(gb794, 23, #[.int .i64 t791, .int .i64 t792]), (gb787, 23, #[.int .i64 x788000_15, .int .i64 x788001_15]), (gb781, 23, #[.int .i64 a0_0, .int .i64 a0_1])]) ∧ Aside0 (Below w.heap.size w wc))
      case first =>
       have H := HC30.out
       clear HC30
       by_cases c38 : (t793 != x6_15) = true
       ·rw [if_pos c38] at H
        have c38b0 : (t793 != x6_15) = true := c38
        (try (have c38b1 : decide (t793 = x6_15) = false := by simpa using c38))
        (try (have c38b2 : (t793 == x6_15) = false := by simpa using c38))
        (try (have c38b3 : ¬ (t793 = x6_15) := by simpa using c38))
        clear c38
        (first | rw [c38b0] | (simp only [i64_w, i32_w]; rw [c38b0]) | skip)
        exact (no_meet (g := fun k_ => whittlelaw1_NumPowers.j3 k_ (Go.bits .and .i64 a1 63) x6_15 true a0_0 a0_1 x788000_15 x788001_15) HR.out H (by simp only [whittlelaw1_NumPowers.j3]) (fun k_ => by simp only [whittlelaw1_NumPowers.j3]; first | exact if_pos rfl | rfl | simp)).elim
       ·rw [if_neg c38] at H
        have c38b0 : (t793 != x6_15) = false := by simpa using c38
        (try (have c38b1 : decide (t793 = x6_15) = true := by simpa using c38))
        (try (have c38b2 : (t793 == x6_15) = true := by simpa using c38))
        clear c38
        (first | rw [c38b0] | (simp only [i64_w, i32_w]; rw [c38b0]) | skip)
        by_cases c39 : x6_15 = true
        ·subst c39
         have H1 : (whittlelaw1_NumPowers.j3 kj15 (Go.bits .and .i64 a1 63) true (!(t791 == x788000_15) || (!(t792 == x788001_15))) a0_0 a0_1 x788000_15 x788001_15) = some r := by rw [if_pos rfl] at H; exact H
         clear H
         have H := H1
         clear H1
         have H' := Aside0.mk H
         clear H
         obtain ⟨⟨hnb41, hnc41⟩, ⟨hnb40, hnc40⟩, -⟩ := BX.out.apart 0 rfl
         have hcz42_0 : w34.cell? ⟨gb794, 0, none⟩ = some (.int .i64 0) := (blk_cell (BX.out.get 0 rfl) 0).trans rfl
         have hcz42_1 : w34.cell? ⟨gb794, 1, none⟩ = some (.int .i64 0) := (blk_cell (BX.out.get 0 rfl) 1).trans rfl
         have hfz42_0 := blk_frozen (BX.out.get 0 rfl) 0
         have hfz42_1 := blk_frozen (BX.out.get 0 rfl) 1
         obtain ⟨-, ⟨hnb43, hnc43⟩, -⟩ := BX.out.apart 1 rfl
         have hcz44_0 : w34.cell? ⟨gb787, 0, none⟩ = some (.int .i64 x788000_15) := (blk_cell (BX.out.get 1 rfl) 0).trans rfl
         have hcz44_1 : w34.cell? ⟨gb787, 1, none⟩ = some (.int .i64 x788001_15) := (blk_cell (BX.out.get 1 rfl) 1).trans rfl
         have hfz44_0 := blk_frozen (BX.out.get 1 rfl) 0
         have hfz44_1 := blk_frozen (BX.out.get 1 rfl) 1
         go_wp2
         go_meet
         case rel => exact ⟨_, ((!(t791 == x788000_15) || (!(t792 == x788001_15)))), (by first | rfl | (simp; done) | (simp [*]; done) | (simp [bne_nil]; done)), H', ⟨by have := HJ2.out; have := HJ15.out; first | omega | exact Nat.le_refl _⟩, ⟨by (with_reducible repeat (first | apply boxes_drewN | apply boxes_drew | apply boxes_alloc)); apply boxes_put 0; (with_reducible repeat (first | apply boxes_drewN | apply boxes_drew | apply boxes_alloc)); apply boxes_put 0; (with_reducible repeat (first | apply boxes_drewN | apply boxes_drew | apply boxes_alloc)); exact BX.out; any_goals rfl⟩, ⟨by repeat (first | (with_reducible first | exact HB.out | apply below_alloc | apply pw_below_drewN | apply below_drew1 | refine below_set ?_ (Aside0.out (by assumption))) | exact HB.out)⟩⟩
        ·replace c39 := Bool.eq_false_iff.mpr c39
         subst c39
         have H1 : (whittlelaw1_NumPowers.j3 kj15 (Go.bits .and .i64 a1 63) false false a0_0 a0_1 x788000_15 x788001_15) = some r := by rw [if_neg (show ¬ (false = true) by decide)] at H; exact H
         clear H
         have H := H1
         clear H1
         have H' := Aside0.mk H
         clear H
         go_wp2
         go_meet
         case rel => exact ⟨_, (false), (by first | rfl | (simp; done) | (simp [*]; done) | (simp [bne_nil]; done)), H', ⟨by have := HJ2.out; have := HJ15.out; first | omega | exact Nat.le_refl _⟩, ⟨by (with_reducible repeat (first | apply boxes_drewN | apply boxes_drew | apply boxes_alloc)); apply boxes_put 0; (with_reducible repeat (first | apply boxes_drewN | apply boxes_drew | apply boxes_alloc)); apply boxes_put 0; (with_reducible repeat (first | apply boxes_drewN | apply boxes_drew | apply boxes_alloc)); exact BX.out; any_goals rfl⟩, ⟨by repeat (first | (with_reducible first | exact HB.out | apply below_alloc | apply pw_below_drewN | apply below_drew1 | refine below_set ?_ (Aside0.out (by assumption))) | exact HB.out)⟩⟩
      case rest =>
       clear HC30
       try clear c1
       try clear c2
       try clear p2
       try clear c3
       try clear c4
       try clear c6
       try clear p6
       try clear c12
       try clear c17
       try clear c19
       try clear c21
       try clear c21b0
       try clear c22
       try clear c24
       try clear c31
       try clear c35
       try clear c36
       try clear c38
       try clear c38b0
       try clear c38b1
       try clear c38b2
       try clear c39
       try clear c40
       try clear c41
       try clear c43
       try clear hcz20_0
       try clear hcz20_1
       try clear hcz25_0
       try clear hcz25_1
       try clear hcz26_0
       try clear hcz26_1
       try clear hcz28_0
       try clear hcz28_1
       try clear hcz32_0
       try clear hcz32_1
       try clear hcz37_0
       try clear hcz37_1
       try clear hcz42_0
       try clear hcz42_1
       try clear hcz44_0
       try clear hcz44_1
       try clear hcz9_0
       try clear hcz9_1
       try clear hfz20_0
       try clear hfz20_1
       try clear hfz25_0
       try clear hfz25_1
       try clear hfz26_0
       try clear hfz26_1
       try clear hfz28_0
       try clear hfz28_1
       try clear hfz32_0
       try clear hfz32_1
       try clear hfz37_0
       try clear hfz37_1
       try clear hfz42_0
       try clear hfz42_1
       try clear hfz44_0
       try clear hfz44_1
       try clear hfz9_0
       try clear hfz9_1
       try clear p2
       try clear p6
       obtain ⟨kq, x55_29, rfl, HA, HJ29, BX, HB⟩ := hcut
       cases kq with
       | zero => exact absurd HA.out (by simp [whittlelaw1_NumPowers.j3])
       | succ kj29 =>
        have H := HA.out
        clear HA
        simp only [whittlelaw1_NumPowers.j3] at H
        by_cases c45 : x55_29 = true
        ·subst c45
         have H1 : (some false) = some r := by rw [if_pos rfl] at H; exact H
         clear H
         have H := H1
         clear H1
         exact absurd (Option.some.inj H) (by rw [HR.out]; decide)
        ·replace c45 := Bool.eq_false_iff.mpr c45
         subst c45
         have H1 : ((num_Pow.f kj29 a0_0 a0_1 (wrap64 (-(Go.bits .and .i64 a1 63)))).bind fun bt795 => (if x6_15 = true then (whittlelaw1_NumPowers.j4 kj29 (Go.bits .and .i64 a1 63) bt795.2.2 (a0_0 == 0) a0_0 a0_1 x788000_15 x788001_15 bt795.1 bt795.2.1) else (whittlelaw1_NumPowers.j4 kj29 (Go.bits .and .i64 a1 63) bt795.2.2 true a0_0 a0_1 x788000_15 x788001_15 bt795.1 bt795.2.1))) = some r := by rw [if_neg (show ¬ (false = true) by decide)] at H; exact H
         clear H
         have H := H1
         clear H1
         replace H := Option.bind_eq_some_iff.mp H
         obtain ⟨⟨t795, t796, t797⟩, A460, H⟩ := H
         replace H : (if x6_15 = true then (whittlelaw1_NumPowers.j4 kj29 (Go.bits .and .i64 a1 63) t797 (a0_0 == 0) a0_0 a0_1 x788000_15 x788001_15 t795 t796) else (whittlelaw1_NumPowers.j4 kj29 (Go.bits .and .i64 a1 63) t797 true a0_0 a0_1 x788000_15 x788001_15 t795 t796)) = some r := H
         have A46 := Aside0.mk A460
         clear A460
         have HC47 := Aside0.mk H
         clear H
         obtain ⟨⟨hnb49, hnc49⟩, ⟨hnb48, hnc48⟩, -⟩ := BX.out.apart 2 rfl
         have hcz50_0 : wc.cell? ⟨gb781, 0, none⟩ = some (.int .i64 a0_0) := (blk_cell (BX.out.get 2 rfl) 0).trans rfl
         have hcz50_1 : wc.cell? ⟨gb781, 1, none⟩ = some (.int .i64 a0_1) := (blk_cell (BX.out.get 2 rfl) 1).trans rfl
         have hfz50_0 := blk_frozen (BX.out.get 2 rfl) 0
         have hfz50_1 := blk_frozen (BX.out.get 2 rfl) 1
         go_upto_region 13 with (first | ((with_reducible refine gate_callee (f := 43) rfl ?_); refine goesL_ (some 60) rfl rfl Tryd.func43 (by kernel_rfl) rfl #[.agg #[.int .i64 a0_0, .int .i64 a0_1], .int .i64 (wrap64 (-(Go.bits .and .i64 a1 63)))] rfl (by (try simp only [List.map_toArray, List.map_cons, List.map_nil]); first | done | rfl | (simp only [List.length_drop, List.length_take]; rfl)) ?_; (with_reducible refine (num_Pow.calls kj29 a0_0 a0_1 (wrap64 (-(Go.bits .and .i64 a1 63))) t795 t796 t797 _ A46.out).mono ?_); rintro e w51 ⟨rfl, hb⟩; refine ⟨_, rfl, ?_⟩; have n0_ := Aside0.mk (Boxes.below (by (with_reducible repeat (first | apply boxes_drewN | apply boxes_drew | apply boxes_alloc)); exact BX.out) hb); have n1_ := Aside0.mk (below_step (by repeat (first | (with_reducible first | exact HB.out | apply below_alloc | apply pw_below_drewN | apply below_drew1 | refine below_set ?_ (Aside0.out (by assumption))) | exact HB.out)) hb); clear BX HB; have BX := n0_; have HB := n1_; clear n0_ n1_; (try clear hb); (try clear hb2); (try clear hk); (try clear hi)) | ((with_reducible refine gate_dst (N := 10) rfl ?_); refine box_event ?hg (N := 10) ?hd (cs := #[.int .i64 0, .int .i64 0]) (t := 23) ?hr ?_; (case hd => rfl); (case hg => rfl); (case hr => first | (go_simp; done) | (go_simp; rfl)); intro gb798 hg w52 hbox hb; have n0_ := Aside0.mk (Boxes.new (by (with_reducible repeat (first | apply boxes_drewN | apply boxes_drew | apply boxes_alloc)); exact BX.out) hg hbox hb (below_size (by repeat (first | (with_reducible first | exact HB.out | apply below_alloc | apply pw_below_drewN | apply below_drew1 | refine below_set ?_ (Aside0.out (by assumption))) | exact HB.out)))); have n1_ := Aside0.mk (below_step (by repeat (first | (with_reducible first | exact HB.out | apply below_alloc | apply pw_below_drewN | apply below_drew1 | refine below_set ?_ (Aside0.out (by assumption))) | exact HB.out)) hb); have n2_ := Aside0.mk ((by rw [hg]; exact (below_size (by repeat (first | (with_reducible first | exact HB.out | apply below_alloc | apply pw_below_drewN | apply below_drew1 | refine below_set ?_ (Aside0.out (by assumption))) | exact HB.out))) : w.heap.size ≤ gb798)); clear BX HB; have BX := n0_; have HB := n1_; have GE798 := n2_; clear n0_ n1_ n2_; clear hb hbox hg; obtain ⟨⟨hnb55, hnc55⟩, ⟨hnb54, hnc54⟩, ⟨hnb53, hnc53⟩, -⟩ := BX.out.apart 0 rfl; have hcz56_0 : w52.cell? ⟨gb798, 0, none⟩ = some (.int .i64 0) := (blk_cell (BX.out.get 0 rfl) 0).trans rfl; have hcz56_1 : w52.cell? ⟨gb798, 1, none⟩ = some (.int .i64 0) := (blk_cell (BX.out.get 0 rfl) 1).trans rfl; have hfz56_0 := blk_frozen (BX.out.get 0 rfl) 0; have hfz56_1 := blk_frozen (BX.out.get 0 rfl) 1))
         (try simp only [Act.put, List.setIfInBounds_toArray, List.set_cons_zero, List.set_cons_succ])
         go_cut [69] (fun v69 wc => ∃ (kq : Nat) (x69_46 : Bool), v69 = .bool x69_46 ∧ Aside0 (whittlelaw1_NumPowers.j4 kq (Go.bits .and .i64 a1 63) t797 x69_46 a0_0 a0_1 x788000_15 x788001_15 t795 t796 = some r) ∧ Aside0 (kq ≤ kj29) ∧ Aside0 (Boxes w.heap.size wc [(gb798, 23, #[.int .i64 t795, .int .i64 t796]), (gb794, 23, #[.int .i64 t791, .int .i64 t792]), (gb787, 23, #[.int .i64 x788000_15, .int .i64 x788001_15]), (gb781, 23, #[.int .i64 a0_0, .int .i64 a0_1])]) ∧ Aside0 (Below w.heap.size w wc))
         case first =>
          have H := HC47.out
          clear HC47
          by_cases c57 : x6_15 = true
          ·subst c57
           have H1 : (whittlelaw1_NumPowers.j4 kj29 (Go.bits .and .i64 a1 63) t797 (a0_0 == 0) a0_0 a0_1 x788000_15 x788001_15 t795 t796) = some r := by rw [if_pos rfl] at H; exact H
           clear H
           have H := H1
           clear H1
           have H' := Aside0.mk H
           clear H
           obtain ⟨⟨hnb60, hnc60⟩, ⟨hnb59, hnc59⟩, ⟨hnb58, hnc58⟩, -⟩ := BX.out.apart 3 rfl
           have hcz61_0 : w52.cell? ⟨gb781, 0, none⟩ = some (.int .i64 a0_0) := (blk_cell (BX.out.get 3 rfl) 0).trans rfl
           have hcz61_1 : w52.cell? ⟨gb781, 1, none⟩ = some (.int .i64 a0_1) := (blk_cell (BX.out.get 3 rfl) 1).trans rfl
           have hfz61_0 := blk_frozen (BX.out.get 3 rfl) 0
           have hfz61_1 := blk_frozen (BX.out.get 3 rfl) 1
           go_wp2
           go_meet
           case rel => exact ⟨_, ((a0_0 == 0)), (by first | rfl | (simp; done) | (simp [*]; done) | (simp [bne_nil]; done)), H', ⟨by have := HJ2.out; have := HJ15.out; have := HJ29.out; first | omega | exact Nat.le_refl _⟩, ⟨by (with_reducible repeat (first | apply boxes_drewN | apply boxes_drew | apply boxes_alloc)); apply boxes_put 0; (with_reducible repeat (first | apply boxes_drewN | apply boxes_drew | apply boxes_alloc)); apply boxes_put 0; (with_reducible repeat (first | apply boxes_drewN | apply boxes_drew | apply boxes_alloc)); exact BX.out; any_goals rfl⟩, ⟨by repeat (first | (with_reducible first | exact HB.out | apply below_alloc | apply pw_below_drewN | apply below_drew1 | refine below_set ?_ (Aside0.out (by assumption))) | exact HB.out)⟩⟩
          ·replace c57 := Bool.eq_false_iff.mpr c57
           subst c57
           have H1 : (whittlelaw1_NumPowers.j4 kj29 (Go.bits .and .i64 a1 63) t797 true a0_0 a0_1 x788000_15 x788001_15 t795 t796) = some r := by rw [if_neg (show ¬ (false = true) by decide)] at H; exact H
           clear H
           have H := H1
           clear H1
           have H' := Aside0.mk H
           clear H
           go_wp2
           go_meet
           case rel => exact ⟨_, (true), (by first | rfl | (simp; done) | (simp [*]; done) | (simp [bne_nil]; done)), H', ⟨by have := HJ2.out; have := HJ15.out; have := HJ29.out; first | omega | exact Nat.le_refl _⟩, ⟨by (with_reducible repeat (first | apply boxes_drewN | apply boxes_drew | apply boxes_alloc)); apply boxes_put 0; (with_reducible repeat (first | apply boxes_drewN | apply boxes_drew | apply boxes_alloc)); apply boxes_put 0; (with_reducible repeat (first | apply boxes_drewN | apply boxes_drew | apply boxes_alloc)); exact BX.out; any_goals rfl⟩, ⟨by repeat (first | (with_reducible first | exact HB.out | apply below_alloc | apply pw_below_drewN | apply below_drew1 | refine below_set ?_ (Aside0.out (by assumption))) | exact HB.out)⟩⟩
         case rest =>
          clear HC47
          try clear c1
          try clear c2
          try clear p2
          try clear c3
          try clear c4
          try clear c5
          try clear c6
          try clear p6
          try clear c12
          try clear c17
          try clear c19
          try clear c21
          try clear c21b0
          try clear c22
          try clear c24
          try clear c31
          try clear c35
          try clear c36
          try clear c38
          try clear c38b0
          try clear c38b1
          try clear c38b2
          try clear c39
          try clear c40
          try clear c41
          try clear c43
          try clear c45
          try clear c48
          try clear c49
          try clear c53
          try clear c54
          try clear c55
          try clear c57
          try clear c58
          try clear c59
          try clear c60
          try clear hcz20_0
          try clear hcz20_1
          try clear hcz25_0
          try clear hcz25_1
          try clear hcz26_0
          try clear hcz26_1
          try clear hcz28_0
          try clear hcz28_1
          try clear hcz32_0
          try clear hcz32_1
          try clear hcz37_0
          try clear hcz37_1
          try clear hcz42_0
          try clear hcz42_1
          try clear hcz44_0
          try clear hcz44_1
          try clear hcz50_0
          try clear hcz50_1
          try clear hcz56_0
          try clear hcz56_1
          try clear hcz61_0
          try clear hcz61_1
          try clear hcz9_0
          try clear hcz9_1
          try clear hfz20_0
          try clear hfz20_1
          try clear hfz25_0
          try clear hfz25_1
          try clear hfz26_0
          try clear hfz26_1
          try clear hfz28_0
          try clear hfz28_1
          try clear hfz32_0
          try clear hfz32_1
          try clear hfz37_0
          try clear hfz37_1
          try clear hfz42_0
          try clear hfz42_1
          try clear hfz44_0
          try clear hfz44_1
          try clear hfz50_0
          try clear hfz50_1
          try clear hfz56_0
          try clear hfz56_1
          try clear hfz61_0
          try clear hfz61_1
          try clear hfz9_0
          try clear hfz9_1
          try clear p2
          try clear p6
          obtain ⟨kq, x69_46, rfl, HA, HJ46, BX, HB⟩ := hcut
          cases kq with
          | zero => exact absurd HA.out (by simp [whittlelaw1_NumPowers.j4])
          | succ kj46 =>
           have H := HA.out
           clear HA
           simp only [whittlelaw1_NumPowers.j4] at H
           by_cases c62 : x69_46 = true
           ·subst c62
            have H1 : (if t797 = true then (if (Go.bits .and .i64 a1 63) = 0 then (some true) else (some (a0_0 != 0))) else (some true)) = some r := by rw [if_pos rfl] at H; exact H
            clear H
            have H := H1
            clear H1
            by_cases c63 : t797 = true
            ·subst c63
             have H1 : (if (Go.bits .and .i64 a1 63) = 0 then (some true) else (some (a0_0 != 0))) = some r := by rw [if_pos rfl] at H; exact H
             clear H
             have H := H1
             clear H1
             by_cases c64 : (Go.bits .and .i64 a1 63) = 0
             ·rw [if_pos c64] at H
              have c64b0 : ((Go.bits .and .i64 a1 63) == 0) = true := beq_iff_eq.mpr c64
              have c64b1 : ((Go.bits .and .i64 a1 63) != 0) = false := bne_eq_false_iff_eq.mpr c64
              clear c64
              clear HR
              obtain rfl := Option.some.inj H
              go_wp2
              go_ret
              exact ⟨by first | rfl | (simp [errW_none, errW_some] <;> rfl) | (simp [*, errW_none, errW_some] <;> rfl), by repeat (first | (with_reducible first | exact HB.out | apply below_alloc | apply pw_below_drewN | apply below_drew1 | refine below_set ?_ (Aside0.out (by assumption))) | exact HB.out)⟩
             ·rw [if_neg c64] at H
              have c64b0 : ((Go.bits .and .i64 a1 63) == 0) = false := beq_eq_false_iff_ne.mpr c64
              have c64b1 : ((Go.bits .and .i64 a1 63) != 0) = true := bne_iff_ne.mpr c64
              clear HR
              obtain rfl := Option.some.inj H
              obtain ⟨⟨hnb67, hnc67⟩, ⟨hnb66, hnc66⟩, ⟨hnb65, hnc65⟩, -⟩ := BX.out.apart 3 rfl
              have hcz68_0 : wc.cell? ⟨gb781, 0, none⟩ = some (.int .i64 a0_0) := (blk_cell (BX.out.get 3 rfl) 0).trans rfl
              have hcz68_1 : wc.cell? ⟨gb781, 1, none⟩ = some (.int .i64 a0_1) := (blk_cell (BX.out.get 3 rfl) 1).trans rfl
              have hfz68_0 := blk_frozen (BX.out.get 3 rfl) 0
              have hfz68_1 := blk_frozen (BX.out.get 3 rfl) 1
              go_wp2
              go_ret
              exact ⟨by first | rfl | (simp [errW_none, errW_some] <;> rfl) | (simp [*, errW_none, errW_some] <;> rfl), by repeat (first | (with_reducible first | exact HB.out | apply below_alloc | apply pw_below_drewN | apply below_drew1 | refine below_set ?_ (Aside0.out (by assumption))) | exact HB.out)⟩
            ·replace c63 := Bool.eq_false_iff.mpr c63
             subst c63
             have H1 : (some true) = some r := by rw [if_neg (show ¬ (false = true) by decide)] at H; exact H
             clear H
             have H := H1
             clear H1
             clear HR
             obtain rfl := Option.some.inj H
             go_wp2
             go_ret
             exact ⟨by first | rfl | (simp [errW_none, errW_some] <;> rfl) | (simp [*, errW_none, errW_some] <;> rfl), by repeat (first | (with_reducible first | exact HB.out | apply below_alloc | apply pw_below_drewN | apply below_drew1 | refine below_set ?_ (Aside0.out (by assumption))) | exact HB.out)⟩
           ·replace c62 := Bool.eq_false_iff.mpr c62
            subst c62
            have H1 : ((whittlelaw1_one.f).bind fun bt799 => ((num_Div.f kj46 bt799.1 bt799.2 x788000_15 x788001_15).bind fun bt801 => (if (t797 == bt801.2.2) = true then (if t797 = true then (some (t795 == bt801.1 && (t796 == bt801.2.1))) else (some true)) else (some false)))) = some r := by rw [if_neg (show ¬ (false = true) by decide)] at H; exact H
            clear H
            have H := H1
            clear H1
            replace H := Option.bind_eq_some_iff.mp H
            obtain ⟨⟨t799, t800⟩, A690, H⟩ := H
            have A69 := Aside0.mk A690
            clear A690
            replace H := Option.bind_eq_some_iff.mp H
            obtain ⟨⟨t801, t802, t803⟩, A700, H⟩ := H
            replace H : (if (t797 == t803) = true then (if t797 = true then (some (t795 == t801 && (t796 == t802))) else (some true)) else (some false)) = some r := H
            have A70 := Aside0.mk A700
            clear A700
            by_cases c71 : (t797 == t803) = true
            ·rw [if_pos c71] at H
             have c71b0 : (t797 == t803) = true := c71
             (try (have c71b1 : decide (t797 = t803) = true := by simpa using c71))
             (try (have c71b2 : (t797 == t803) = true := by simpa using c71))
             clear c71
             by_cases c72 : t797 = true
             ·subst c72
              have H1 : (some (t795 == t801 && (t796 == t802))) = some r := by rw [if_pos rfl] at H; exact H
              clear H
              have H := H1
              clear H1
              clear HR
              obtain rfl := Option.some.inj H
              try go_wp2
              have n0_ := Aside0.mk (boxes_drew BX.out)
              have n1_ := Aside0.mk (below_drew1 HB.out)
              clear BX HB
              have BX := n0_
              have HB := n1_
              clear n0_ n1_
              refine start_ (n := 9) (S := fun w' => w'.cell? ⟨gb787, 0, none⟩ = some (.int .i64 x788000_15) ∧ w'.cell? ⟨gb787, 1, none⟩ = some (.int .i64 x788001_15)) (ds := []) #[false, false, false, false, false, false, false, false, false] (by kernel_rfl) rfl rfl ⟨(blk_cell (BX.out.get 2 rfl) 0).trans rfl, (blk_cell (BX.out.get 2 rfl) 1).trans rfl⟩ (fun hHeld => ?_); refine with_tabW whittlelaw1_NumPowers.tab15 whittlelaw1_NumPowers.bits15 (fun HT_ HW_ => ?_)
              generalize wc.drew = w73 at BX HB hHeld ⊢
              refine take_ (i := 1) (N := some 83) (v := ?_) (a' := ?_) #[false, true, false, false, false, false, false, false, false] rfl rfl (take_ofW HT_.out HW_.out (by kernel_rfl)) (fun _ _ _ h => h) (Or.inl ⟨by rfl, ?_⟩) hHeld ?_ ?_
              rotate_left
              ·rintro w' ⟨s0, s1⟩
               go_simp
               with_reducible rfl
              rotate_left
              ·simp only [Act.put, List.setIfInBounds_toArray, List.set_cons_zero, List.set_cons_succ, i64_w, i32_w]
               rfl
              refine join_ (σ := Nat) 2 #[true, true, true, true, true, true, true, false, false] (fun s_ => [(82, .agg #[.int .i64 t799, .int .i64 t800]), (84, .tuple #[.agg #[.int .i64 t801, .int .i64 t802], .bool t803]), (12, .pointer (some ⟨s_, 0, none⟩)), (81, .tuple #[.agg #[.int .i64 t801, .int .i64 t802], .bool t803]), (85, .agg #[.int .i64 t801, .int .i64 t802]), (86, .bool t803)]) (fun s_ w' => (w'.cell? ⟨gb787, 0, none⟩ = some (.int .i64 x788000_15) ∧ w'.cell? ⟨gb787, 1, none⟩ = some (.int .i64 x788001_15)) ∧ (Boxes w.heap.size w' [(s_, 23, #[.int .i64 0, .int .i64 0]), (gb798, 23, #[.int .i64 t795, .int .i64 t796]), (gb794, 23, #[.int .i64 t791, .int .i64 t792]), (gb787, 23, #[.int .i64 x788000_15, .int .i64 x788001_15]), (gb781, 23, #[.int .i64 a0_0, .int .i64 a0_1])]) ∧ (w.heap.size ≤ s_) ∧ (Below w.heap.size w w')) ?_ ?_
              rotate_left
              ·intro hCont
               refine two_ (i := 0) (j := 6) (Ni := some 82) (Nj := some 12) #[true, true, false, false, false, false, false, false, false] #[false, true, false, false, false, false, true, false, false] rfl rfl rfl rfl (two_of HT_.out (by kernel_rfl)) (by decide) (by decide) (fun K hK => ?_) (fun K hK => ?_)
               ·skip
                refine goes_ Tryd.func48 (by kernel_rfl) rfl #[] (by rfl) rfl rfl (by (try simp only [List.map_toArray, List.map_cons, List.map_nil]); first | done | rfl | (simp only [List.length_drop, List.length_take]; rfl)) ?_
                with_reducible refine (whittlelaw1_one.calls  t799 t800 _ A69.out).mono ?_
                rintro e w74 ⟨rfl, hb⟩
                refine ⟨_, rfl, ?_⟩
                have n0_ := Aside0.mk (Boxes.below (by (with_reducible repeat (first | apply boxes_drewN | apply boxes_drew | apply boxes_alloc)); exact BX.out) hb)
                have n1_ := Aside0.mk (below_step (by repeat (first | (with_reducible first | exact HB.out | apply below_alloc | apply pw_below_drewN | apply below_drew1 | refine below_set ?_ (Aside0.out (by assumption))) | exact HB.out)) hb)
                clear BX HB
                have BX := n0_
                have HB := n1_
                clear n0_ n1_
                (try clear hb)
                (try clear hb2)
                (try clear hk)
                (try clear hi)
                refine hK.out _ _ ⟨(blk_cell (BX.out.get 2 rfl) 0).trans rfl, (blk_cell (BX.out.get 2 rfl) 1).trans rfl⟩ (fun hHeld => ?_)
                clear hK K
                refine norm_ (a' := ?_) ?_ ?_
                rotate_left
                ·show Act.put _ (some 82) _ = _
                 simp only [Act.put, List.setIfInBounds_toArray, List.set_cons_zero, List.set_cons_succ, i64_w, i32_w]
                 rfl
                refine two_ (i := 2) (j := 6) (Ni := some 84) (Nj := some 12) #[true, true, true, false, false, false, false, false, false] #[true, true, false, false, false, false, true, false, false] rfl rfl rfl rfl (two_of HT_.out (by kernel_rfl)) (by decide) (by decide) (fun K hK => ?_) (fun K hK => ?_)
                ·skip
                 refine goes_ Tryd.func41 (by kernel_rfl) rfl #[.agg #[.int .i64 t799, .int .i64 t800], .agg #[.int .i64 x788000_15, .int .i64 x788001_15]] (by rfl) rfl rfl (by (try simp only [List.map_toArray, List.map_cons, List.map_nil]); first | done | rfl | (simp only [List.length_drop, List.length_take]; rfl)) ?_
                 with_reducible refine (num_Div.calls kj46 t799 t800 x788000_15 x788001_15 t801 t802 t803 _ A70.out).mono ?_
                 rintro e w75 ⟨rfl, hb⟩
                 refine ⟨_, rfl, ?_⟩
                 have n0_ := Aside0.mk (Boxes.below (by (with_reducible repeat (first | apply boxes_drewN | apply boxes_drew | apply boxes_alloc)); exact BX.out) hb)
                 have n1_ := Aside0.mk (below_step (by repeat (first | (with_reducible first | exact HB.out | apply below_alloc | apply pw_below_drewN | apply below_drew1 | refine below_set ?_ (Aside0.out (by assumption))) | exact HB.out)) hb)
                 clear BX HB
                 have BX := n0_
                 have HB := n1_
                 clear n0_ n1_
                 (try clear hb)
                 (try clear hb2)
                 (try clear hk)
                 (try clear hi)
                 refine hK.out _ _ ⟨(blk_cell (BX.out.get 2 rfl) 0).trans rfl, (blk_cell (BX.out.get 2 rfl) 1).trans rfl⟩ (fun hHeld => ?_)
                 clear hK K
                 refine norm_ (a' := ?_) ?_ ?_
                 rotate_left
                 ·show Act.put _ (some 84) _ = _
                  simp only [Act.put, List.setIfInBounds_toArray, List.set_cons_zero, List.set_cons_succ, i64_w, i32_w]
                  rfl
                 refine pure_ (i := 3) (N := some 81) (v := ?_) (a' := ?_) #[true, true, true, true, false, false, false, false, false] rfl rfl (any_of HT_.out (by kernel_rfl)) (fun _ _ _ h => h) (Or.inl ⟨by rfl, ?_⟩) ?_ ?_
                 rotate_left
                 ·intro w'
                  go_simp
                  with_reducible rfl
                 rotate_left
                 ·simp only [Act.put, List.setIfInBounds_toArray, List.set_cons_zero, List.set_cons_succ, i64_w, i32_w]
                  rfl
                 refine pure_ (i := 4) (N := some 85) (v := ?_) (a' := ?_) #[true, true, true, true, true, false, false, false, false] rfl rfl (any_of HT_.out (by kernel_rfl)) (fun _ _ _ h => h) (Or.inl ⟨by rfl, ?_⟩) ?_ ?_
                 rotate_left
                 ·intro w'
                  go_simp
                  with_reducible rfl
                 rotate_left
                 ·simp only [Act.put, List.setIfInBounds_toArray, List.set_cons_zero, List.set_cons_succ, i64_w, i32_w]
                  rfl
                 refine pure_ (i := 5) (N := some 86) (v := ?_) (a' := ?_) #[true, true, true, true, true, true, false, false, false] rfl rfl (any_of HT_.out (by kernel_rfl)) (fun _ _ _ h => h) (Or.inl ⟨by rfl, ?_⟩) ?_ ?_
                 rotate_left
                 ·intro w'
                  go_simp
                  with_reducible rfl
                 rotate_left
                 ·simp only [Act.put, List.setIfInBounds_toArray, List.set_cons_zero, List.set_cons_succ, i64_w, i32_w]
                  rfl
                 refine one_ (i := 6) (N := some 12) #[true, true, true, true, true, true, true, false, false] rfl rfl (one_of HT_.out (by kernel_rfl)) (by decide) (fun K hK => ?_)
                 refine box_step ?hg (N := 12) ?hd (cs := #[.int .i64 0, .int .i64 0]) (t := 23) ?hr ?_; (case hd => rfl); (case hg => rfl); (case hr => first | (go_simp; done) | (go_simp; rfl))
                 intro gb804 hg w76 hbox hb
                 have n0_ := Aside0.mk (Boxes.new (by (with_reducible repeat (first | apply boxes_drewN | apply boxes_drew | apply boxes_alloc)); exact BX.out) hg hbox hb (below_size (by repeat (first | (with_reducible first | exact HB.out | apply below_alloc | apply pw_below_drewN | apply below_drew1 | refine below_set ?_ (Aside0.out (by assumption))) | exact HB.out))))
                 have n1_ := Aside0.mk (below_step (by repeat (first | (with_reducible first | exact HB.out | apply below_alloc | apply pw_below_drewN | apply below_drew1 | refine below_set ?_ (Aside0.out (by assumption))) | exact HB.out)) hb)
                 have n2_ := Aside0.mk ((by rw [hg]; exact (below_size (by repeat (first | (with_reducible first | exact HB.out | apply below_alloc | apply pw_below_drewN | apply below_drew1 | refine below_set ?_ (Aside0.out (by assumption))) | exact HB.out))) : w.heap.size ≤ gb804))
                 clear BX HB
                 have BX := n0_
                 have HB := n1_
                 have GE804 := n2_
                 clear n0_ n1_ n2_
                 clear hb hbox hg
                 refine hK.out _ _ ⟨(blk_cell (BX.out.get 3 rfl) 0).trans rfl, (blk_cell (BX.out.get 3 rfl) 1).trans rfl⟩ (fun hHeld => ?_)
                 clear hK K
                 refine norm_ (a' := ?_) ?_ ?_
                 rotate_left
                 ·show Act.put _ (some 12) _ = _
                  simp only [Act.put, List.setIfInBounds_toArray, List.set_cons_zero, List.set_cons_succ, i64_w, i32_w]
                  rfl
                 exact norm_ (by simp only [putAll, Act.put, List.setIfInBounds_toArray, List.set_cons_zero, List.set_cons_succ]) (hCont (gb804) _ ⟨hHeld, (by (with_reducible repeat (first | apply boxes_drewN | apply boxes_drew | apply boxes_alloc)); exact BX.out), GE804.out, (by repeat (first | (with_reducible first | exact HB.out | apply below_alloc | apply pw_below_drewN | apply below_drew1 | refine below_set ?_ (Aside0.out (by assumption))) | exact HB.out))⟩)
                ·skip
                 refine box_step ?hg (N := 12) ?hd (cs := #[.int .i64 0, .int .i64 0]) (t := 23) ?hr ?_; (case hd => rfl); (case hg => rfl); (case hr => first | (go_simp; done) | (go_simp; rfl))
                 intro gb804 hg w75 hbox hb
                 have n0_ := Aside0.mk (Boxes.new (by (with_reducible repeat (first | apply boxes_drewN | apply boxes_drew | apply boxes_alloc)); exact BX.out) hg hbox hb (below_size (by repeat (first | (with_reducible first | exact HB.out | apply below_alloc | apply pw_below_drewN | apply below_drew1 | refine below_set ?_ (Aside0.out (by assumption))) | exact HB.out))))
                 have n1_ := Aside0.mk (below_step (by repeat (first | (with_reducible first | exact HB.out | apply below_alloc | apply pw_below_drewN | apply below_drew1 | refine below_set ?_ (Aside0.out (by assumption))) | exact HB.out)) hb)
                 have n2_ := Aside0.mk ((by rw [hg]; exact (below_size (by repeat (first | (with_reducible first | exact HB.out | apply below_alloc | apply pw_below_drewN | apply below_drew1 | refine below_set ?_ (Aside0.out (by assumption))) | exact HB.out))) : w.heap.size ≤ gb804))
                 clear BX HB
                 have BX := n0_
                 have HB := n1_
                 have GE804 := n2_
                 clear n0_ n1_ n2_
                 clear hb hbox hg
                 refine hK.out _ _ ⟨(blk_cell (BX.out.get 3 rfl) 0).trans rfl, (blk_cell (BX.out.get 3 rfl) 1).trans rfl⟩ (fun hHeld => ?_)
                 clear hK K
                 refine norm_ (a' := ?_) ?_ ?_
                 rotate_left
                 ·show Act.put _ (some 12) _ = _
                  simp only [Act.put, List.setIfInBounds_toArray, List.set_cons_zero, List.set_cons_succ, i64_w, i32_w]
                  rfl
                 refine one_ (i := 2) (N := some 84) #[true, true, true, false, false, false, true, false, false] rfl rfl (one_of HT_.out (by kernel_rfl)) (by decide) (fun K hK => ?_)
                 refine goes_ Tryd.func41 (by kernel_rfl) rfl #[.agg #[.int .i64 t799, .int .i64 t800], .agg #[.int .i64 x788000_15, .int .i64 x788001_15]] (by rfl) rfl rfl (by (try simp only [List.map_toArray, List.map_cons, List.map_nil]); first | done | rfl | (simp only [List.length_drop, List.length_take]; rfl)) ?_
                 with_reducible refine (num_Div.calls kj46 t799 t800 x788000_15 x788001_15 t801 t802 t803 _ A70.out).mono ?_
                 rintro e w76 ⟨rfl, hb⟩
                 refine ⟨_, rfl, ?_⟩
                 have n0_ := Aside0.mk (Boxes.below (by (with_reducible repeat (first | apply boxes_drewN | apply boxes_drew | apply boxes_alloc)); exact BX.out) hb)
                 have n1_ := Aside0.mk (below_step (by repeat (first | (with_reducible first | exact HB.out | apply below_alloc | apply pw_below_drewN | apply below_drew1 | refine below_set ?_ (Aside0.out (by assumption))) | exact HB.out)) hb)
                 clear BX HB
                 have BX := n0_
                 have HB := n1_
                 clear n0_ n1_
                 (try clear hb)
                 (try clear hb2)
                 (try clear hk)
                 (try clear hi)
                 refine hK.out _ _ ⟨(blk_cell (BX.out.get 3 rfl) 0).trans rfl, (blk_cell (BX.out.get 3 rfl) 1).trans rfl⟩ (fun hHeld => ?_)
                 clear hK K
                 refine norm_ (a' := ?_) ?_ ?_
                 rotate_left
                 ·show Act.put _ (some 84) _ = _
                  simp only [Act.put, List.setIfInBounds_toArray, List.set_cons_zero, List.set_cons_succ, i64_w, i32_w]
                  rfl
                 refine pure_ (i := 3) (N := some 81) (v := ?_) (a' := ?_) #[true, true, true, true, false, false, true, false, false] rfl rfl (any_of HT_.out (by kernel_rfl)) (fun _ _ _ h => h) (Or.inl ⟨by rfl, ?_⟩) ?_ ?_
                 rotate_left
                 ·intro w'
                  go_simp
                  with_reducible rfl
                 rotate_left
                 ·simp only [Act.put, List.setIfInBounds_toArray, List.set_cons_zero, List.set_cons_succ, i64_w, i32_w]
                  rfl
                 refine pure_ (i := 4) (N := some 85) (v := ?_) (a' := ?_) #[true, true, true, true, true, false, true, false, false] rfl rfl (any_of HT_.out (by kernel_rfl)) (fun _ _ _ h => h) (Or.inl ⟨by rfl, ?_⟩) ?_ ?_
                 rotate_left
                 ·intro w'
                  go_simp
                  with_reducible rfl
                 rotate_left
                 ·simp only [Act.put, List.setIfInBounds_toArray, List.set_cons_zero, List.set_cons_succ, i64_w, i32_w]
                  rfl
                 refine pure_ (i := 5) (N := some 86) (v := ?_) (a' := ?_) #[true, true, true, true, true, true, true, false, false] rfl rfl (any_of HT_.out (by kernel_rfl)) (fun _ _ _ h => h) (Or.inl ⟨by rfl, ?_⟩) ?_ ?_
                 rotate_left
                 ·intro w'
                  go_simp
                  with_reducible rfl
                 rotate_left
                 ·simp only [Act.put, List.setIfInBounds_toArray, List.set_cons_zero, List.set_cons_succ, i64_w, i32_w]
                  rfl
                 exact norm_ (by simp only [putAll, Act.put, List.setIfInBounds_toArray, List.set_cons_zero, List.set_cons_succ]) (hCont (gb804) _ ⟨hHeld, (by (with_reducible repeat (first | apply boxes_drewN | apply boxes_drew | apply boxes_alloc)); exact BX.out), GE804.out, (by repeat (first | (with_reducible first | exact HB.out | apply below_alloc | apply pw_below_drewN | apply below_drew1 | refine below_set ?_ (Aside0.out (by assumption))) | exact HB.out))⟩)
               ·skip
                refine box_step ?hg (N := 12) ?hd (cs := #[.int .i64 0, .int .i64 0]) (t := 23) ?hr ?_; (case hd => rfl); (case hg => rfl); (case hr => first | (go_simp; done) | (go_simp; rfl))
                intro gb804 hg w74 hbox hb
                have n0_ := Aside0.mk (Boxes.new (by (with_reducible repeat (first | apply boxes_drewN | apply boxes_drew | apply boxes_alloc)); exact BX.out) hg hbox hb (below_size (by repeat (first | (with_reducible first | exact HB.out | apply below_alloc | apply pw_below_drewN | apply below_drew1 | refine below_set ?_ (Aside0.out (by assumption))) | exact HB.out))))
                have n1_ := Aside0.mk (below_step (by repeat (first | (with_reducible first | exact HB.out | apply below_alloc | apply pw_below_drewN | apply below_drew1 | refine below_set ?_ (Aside0.out (by assumption))) | exact HB.out)) hb)
                have n2_ := Aside0.mk ((by rw [hg]; exact (below_size (by repeat (first | (with_reducible first | exact HB.out | apply below_alloc | apply pw_below_drewN | apply below_drew1 | refine below_set ?_ (Aside0.out (by assumption))) | exact HB.out))) : w.heap.size ≤ gb804))
                clear BX HB
                have BX := n0_
                have HB := n1_
                have GE804 := n2_
                clear n0_ n1_ n2_
                clear hb hbox hg
                refine hK.out _ _ ⟨(blk_cell (BX.out.get 3 rfl) 0).trans rfl, (blk_cell (BX.out.get 3 rfl) 1).trans rfl⟩ (fun hHeld => ?_)
                clear hK K
                refine norm_ (a' := ?_) ?_ ?_
                rotate_left
                ·show Act.put _ (some 12) _ = _
                 simp only [Act.put, List.setIfInBounds_toArray, List.set_cons_zero, List.set_cons_succ, i64_w, i32_w]
                 rfl
                refine one_ (i := 0) (N := some 82) #[true, true, false, false, false, false, true, false, false] rfl rfl (one_of HT_.out (by kernel_rfl)) (by decide) (fun K hK => ?_)
                refine goes_ Tryd.func48 (by kernel_rfl) rfl #[] (by rfl) rfl rfl (by (try simp only [List.map_toArray, List.map_cons, List.map_nil]); first | done | rfl | (simp only [List.length_drop, List.length_take]; rfl)) ?_
                with_reducible refine (whittlelaw1_one.calls  t799 t800 _ A69.out).mono ?_
                rintro e w75 ⟨rfl, hb⟩
                refine ⟨_, rfl, ?_⟩
                have n0_ := Aside0.mk (Boxes.below (by (with_reducible repeat (first | apply boxes_drewN | apply boxes_drew | apply boxes_alloc)); exact BX.out) hb)
                have n1_ := Aside0.mk (below_step (by repeat (first | (with_reducible first | exact HB.out | apply below_alloc | apply pw_below_drewN | apply below_drew1 | refine below_set ?_ (Aside0.out (by assumption))) | exact HB.out)) hb)
                clear BX HB
                have BX := n0_
                have HB := n1_
                clear n0_ n1_
                (try clear hb)
                (try clear hb2)
                (try clear hk)
                (try clear hi)
                refine hK.out _ _ ⟨(blk_cell (BX.out.get 3 rfl) 0).trans rfl, (blk_cell (BX.out.get 3 rfl) 1).trans rfl⟩ (fun hHeld => ?_)
                clear hK K
                refine norm_ (a' := ?_) ?_ ?_
                rotate_left
                ·show Act.put _ (some 82) _ = _
                 simp only [Act.put, List.setIfInBounds_toArray, List.set_cons_zero, List.set_cons_succ, i64_w, i32_w]
                 rfl
                refine one_ (i := 2) (N := some 84) #[true, true, true, false, false, false, true, false, false] rfl rfl (one_of HT_.out (by kernel_rfl)) (by decide) (fun K hK => ?_)
                refine goes_ Tryd.func41 (by kernel_rfl) rfl #[.agg #[.int .i64 t799, .int .i64 t800], .agg #[.int .i64 x788000_15, .int .i64 x788001_15]] (by rfl) rfl rfl (by (try simp only [List.map_toArray, List.map_cons, List.map_nil]); first | done | rfl | (simp only [List.length_drop, List.length_take]; rfl)) ?_
                with_reducible refine (num_Div.calls kj46 t799 t800 x788000_15 x788001_15 t801 t802 t803 _ A70.out).mono ?_
                rintro e w76 ⟨rfl, hb⟩
                refine ⟨_, rfl, ?_⟩
                have n0_ := Aside0.mk (Boxes.below (by (with_reducible repeat (first | apply boxes_drewN | apply boxes_drew | apply boxes_alloc)); exact BX.out) hb)
                have n1_ := Aside0.mk (below_step (by repeat (first | (with_reducible first | exact HB.out | apply below_alloc | apply pw_below_drewN | apply below_drew1 | refine below_set ?_ (Aside0.out (by assumption))) | exact HB.out)) hb)
                clear BX HB
                have BX := n0_
                have HB := n1_
                clear n0_ n1_
                (try clear hb)
                (try clear hb2)
                (try clear hk)
                (try clear hi)
                refine hK.out _ _ ⟨(blk_cell (BX.out.get 3 rfl) 0).trans rfl, (blk_cell (BX.out.get 3 rfl) 1).trans rfl⟩ (fun hHeld => ?_)
                clear hK K
                refine norm_ (a' := ?_) ?_ ?_
                rotate_left
                ·show Act.put _ (some 84) _ = _
                 simp only [Act.put, List.setIfInBounds_toArray, List.set_cons_zero, List.set_cons_succ, i64_w, i32_w]
                 rfl
                refine pure_ (i := 3) (N := some 81) (v := ?_) (a' := ?_) #[true, true, true, true, false, false, true, false, false] rfl rfl (any_of HT_.out (by kernel_rfl)) (fun _ _ _ h => h) (Or.inl ⟨by rfl, ?_⟩) ?_ ?_
                rotate_left
                ·intro w'
                 go_simp
                 with_reducible rfl
                rotate_left
                ·simp only [Act.put, List.setIfInBounds_toArray, List.set_cons_zero, List.set_cons_succ, i64_w, i32_w]
                 rfl
                refine pure_ (i := 4) (N := some 85) (v := ?_) (a' := ?_) #[true, true, true, true, true, false, true, false, false] rfl rfl (any_of HT_.out (by kernel_rfl)) (fun _ _ _ h => h) (Or.inl ⟨by rfl, ?_⟩) ?_ ?_
                rotate_left
                ·intro w'
                 go_simp
                 with_reducible rfl
                rotate_left
                ·simp only [Act.put, List.setIfInBounds_toArray, List.set_cons_zero, List.set_cons_succ, i64_w, i32_w]
                 rfl
                refine pure_ (i := 5) (N := some 86) (v := ?_) (a' := ?_) #[true, true, true, true, true, true, true, false, false] rfl rfl (any_of HT_.out (by kernel_rfl)) (fun _ _ _ h => h) (Or.inl ⟨by rfl, ?_⟩) ?_ ?_
                rotate_left
                ·intro w'
                 go_simp
                 with_reducible rfl
                rotate_left
                ·simp only [Act.put, List.setIfInBounds_toArray, List.set_cons_zero, List.set_cons_succ, i64_w, i32_w]
                 rfl
                exact norm_ (by simp only [putAll, Act.put, List.setIfInBounds_toArray, List.set_cons_zero, List.set_cons_succ]) (hCont (gb804) _ ⟨hHeld, (by (with_reducible repeat (first | apply boxes_drewN | apply boxes_drew | apply boxes_alloc)); exact BX.out), GE804.out, (by repeat (first | (with_reducible first | exact HB.out | apply below_alloc | apply pw_below_drewN | apply below_drew1 | refine below_set ?_ (Aside0.out (by assumption))) | exact HB.out))⟩)
              rintro gb804 w77 ⟨hS_, hBX_, hJ0_, hJ1_⟩
              have n0_ : Aside0 (Boxes w.heap.size w77 [(gb804, 23, #[.int .i64 0, .int .i64 0]), (gb798, 23, #[.int .i64 t795, .int .i64 t796]), (gb794, 23, #[.int .i64 t791, .int .i64 t792]), (gb787, 23, #[.int .i64 x788000_15, .int .i64 x788001_15]), (gb781, 23, #[.int .i64 a0_0, .int .i64 a0_1])]) := ⟨hBX_⟩
              have n1_ : Aside0 (w.heap.size ≤ gb804) := ⟨hJ0_⟩
              have n2_ : Aside0 (Below w.heap.size w w77) := ⟨hJ1_⟩
              clear BX HB hBX_ hJ0_ hJ1_
              have BX := n0_
              have GE804 := n1_
              have HB := n2_
              clear n0_ n1_ n2_
              have hHeld : w77.cell? ⟨gb787, 0, none⟩ = some (.int .i64 x788000_15) ∧ w77.cell? ⟨gb787, 1, none⟩ = some (.int .i64 x788001_15) := hS_
              refine norm_ (a' := ?_) ?_ ?_
              rotate_left
              ·simp only [putAll, Act.put, List.setIfInBounds_toArray, List.set_cons_zero, List.set_cons_succ]
               rfl
              refine one_ (i := 7) (N := none) #[true, true, true, true, true, true, true, true, false] rfl rfl (one_of HT_.out (by kernel_rfl)) (by decide) (fun K hK => ?_)
              have hs78 : w77.cell? ⟨gb804, 0, none⟩ = some (.int .i64 0) := (blk_cell (BX.out.get 0 rfl) 0).trans rfl
              have hfs78 := blk_frozen (BX.out.get 0 rfl) 0
              obtain ⟨⟨hms78_3, hns78_3⟩, ⟨hms78_2, hns78_2⟩, ⟨hms78_1, hns78_1⟩, ⟨hms78_0, hns78_0⟩, -⟩ := BX.out.apart 0 rfl
              have hs79 : w77.cell? ⟨gb804, 1, none⟩ = some (.int .i64 0) := (blk_cell (BX.out.get 0 rfl) 1).trans rfl
              have hfs79 := blk_frozen (BX.out.get 0 rfl) 1
              obtain ⟨⟨hms79_3, hns79_3⟩, ⟨hms79_2, hns79_2⟩, ⟨hms79_1, hns79_1⟩, ⟨hms79_0, hns79_0⟩, -⟩ := BX.out.apart 0 rfl
              refine skip_ (w1 := ?_) (by rfl) rfl ?_ ?_
              rotate_left
              ·go_simp
               rfl
              refine hK.out _ _ ⟨((cell_far (p := ⟨gb804, _, none⟩) (BX.out.ne 3 0 rfl rfl (by decide)) _).trans (((cell_far (p := ⟨gb804, _, none⟩) (BX.out.ne 3 0 rfl rfl (by decide)) _).trans (hHeld.1)))), ((cell_far (p := ⟨gb804, _, none⟩) (BX.out.ne 3 0 rfl rfl (by decide)) _).trans (((cell_far (p := ⟨gb804, _, none⟩) (BX.out.ne 3 0 rfl rfl (by decide)) _).trans (hHeld.2))))⟩ (fun hHeld => ?_)
              clear hK K
              refine pure_ (i := 8) (N := some 13) (v := ?_) (a' := ?_) #[true, true, true, true, true, true, true, true, true] rfl rfl (any_of HT_.out (by kernel_rfl)) (fun _ _ _ h => h) (Or.inl ⟨by rfl, ?_⟩) ?_ ?_
              rotate_left
              ·intro w'
               go_simp
               with_reducible rfl
              rotate_left
              ·simp only [Act.put, List.setIfInBounds_toArray, List.set_cons_zero, List.set_cons_succ, i64_w, i32_w]
               rfl
              refine done_ (done_of HT_.out (by kernel_rfl)) ?_
              obtain ⟨⟨hnb83, hnc83⟩, ⟨hnb82, hnc82⟩, ⟨hnb81, hnc81⟩, ⟨hnb80, hnc80⟩, -⟩ := BX.out.apart 1 rfl
              have hcz84_0 : w77.cell? ⟨gb798, 0, none⟩ = some (.int .i64 t795) := (blk_cell (BX.out.get 1 rfl) 0).trans rfl
              have hcz84_1 : w77.cell? ⟨gb798, 1, none⟩ = some (.int .i64 t796) := (blk_cell (BX.out.get 1 rfl) 1).trans rfl
              have hfz84_0 := blk_frozen (BX.out.get 1 rfl) 0
              have hfz84_1 := blk_frozen (BX.out.get 1 rfl) 1
              obtain ⟨-, ⟨hnb87, hnc87⟩, ⟨hnb86, hnc86⟩, ⟨hnb85, hnc85⟩, -⟩ := BX.out.apart 0 rfl
              have hcz88_0 : w77.cell? ⟨gb804, 0, none⟩ = some (.int .i64 0) := (blk_cell (BX.out.get 0 rfl) 0).trans rfl
              have hcz88_1 : w77.cell? ⟨gb804, 1, none⟩ = some (.int .i64 0) := (blk_cell (BX.out.get 0 rfl) 1).trans rfl
              have hfz88_0 := blk_frozen (BX.out.get 0 rfl) 0
              have hfz88_1 := blk_frozen (BX.out.get 0 rfl) 1
              try go_wp2
              go_ret
              exact ⟨by first | rfl | (simp [errW_none, errW_some] <;> rfl) | (simp [*, errW_none, errW_some] <;> rfl), by repeat (first | (with_reducible first | exact HB.out | apply below_alloc | apply pw_below_drewN | apply below_drew1 | refine below_set ?_ (Aside0.out (by assumption))) | exact HB.out)⟩
             ·replace c72 := Bool.eq_false_iff.mpr c72
              subst c72
              have H1 : (some true) = some r := by rw [if_neg (show ¬ (false = true) by decide)] at H; exact H
              clear H
              have H := H1
              clear H1
              clear HR
              obtain rfl := Option.some.inj H
              try go_wp2
              have n0_ := Aside0.mk (boxes_drew BX.out)
              have n1_ := Aside0.mk (below_drew1 HB.out)
              clear BX HB
              have BX := n0_
              have HB := n1_
              clear n0_ n1_
              refine start_ (n := 9) (S := fun w' => w'.cell? ⟨gb787, 0, none⟩ = some (.int .i64 x788000_15) ∧ w'.cell? ⟨gb787, 1, none⟩ = some (.int .i64 x788001_15)) (ds := []) #[false, false, false, false, false, false, false, false, false] (by kernel_rfl) rfl rfl ⟨(blk_cell (BX.out.get 2 rfl) 0).trans rfl, (blk_cell (BX.out.get 2 rfl) 1).trans rfl⟩ (fun hHeld => ?_); refine with_tabW whittlelaw1_NumPowers.tab15 whittlelaw1_NumPowers.bits15 (fun HT_ HW_ => ?_)
              generalize wc.drew = w89 at BX HB hHeld ⊢
              refine take_ (i := 1) (N := some 83) (v := ?_) (a' := ?_) #[false, true, false, false, false, false, false, false, false] rfl rfl (take_ofW HT_.out HW_.out (by kernel_rfl)) (fun _ _ _ h => h) (Or.inl ⟨by rfl, ?_⟩) hHeld ?_ ?_
              rotate_left
              ·rintro w' ⟨s0, s1⟩
               go_simp
               with_reducible rfl
              rotate_left
              ·simp only [Act.put, List.setIfInBounds_toArray, List.set_cons_zero, List.set_cons_succ, i64_w, i32_w]
               rfl
              refine join_ (σ := Nat) 2 #[true, true, true, true, true, true, true, false, false] (fun s_ => [(82, .agg #[.int .i64 t799, .int .i64 t800]), (84, .tuple #[.agg #[.int .i64 t801, .int .i64 t802], .bool t803]), (12, .pointer (some ⟨s_, 0, none⟩)), (81, .tuple #[.agg #[.int .i64 t801, .int .i64 t802], .bool t803]), (85, .agg #[.int .i64 t801, .int .i64 t802]), (86, .bool t803)]) (fun s_ w' => (w'.cell? ⟨gb787, 0, none⟩ = some (.int .i64 x788000_15) ∧ w'.cell? ⟨gb787, 1, none⟩ = some (.int .i64 x788001_15)) ∧ (Boxes w.heap.size w' [(s_, 23, #[.int .i64 0, .int .i64 0]), (gb798, 23, #[.int .i64 t795, .int .i64 t796]), (gb794, 23, #[.int .i64 t791, .int .i64 t792]), (gb787, 23, #[.int .i64 x788000_15, .int .i64 x788001_15]), (gb781, 23, #[.int .i64 a0_0, .int .i64 a0_1])]) ∧ (w.heap.size ≤ s_) ∧ (Below w.heap.size w w')) ?_ ?_
              rotate_left
              ·intro hCont
               refine two_ (i := 0) (j := 6) (Ni := some 82) (Nj := some 12) #[true, true, false, false, false, false, false, false, false] #[false, true, false, false, false, false, true, false, false] rfl rfl rfl rfl (two_of HT_.out (by kernel_rfl)) (by decide) (by decide) (fun K hK => ?_) (fun K hK => ?_)
               ·skip
                refine goes_ Tryd.func48 (by kernel_rfl) rfl #[] (by rfl) rfl rfl (by (try simp only [List.map_toArray, List.map_cons, List.map_nil]); first | done | rfl | (simp only [List.length_drop, List.length_take]; rfl)) ?_
                with_reducible refine (whittlelaw1_one.calls  t799 t800 _ A69.out).mono ?_
                rintro e w90 ⟨rfl, hb⟩
                refine ⟨_, rfl, ?_⟩
                have n0_ := Aside0.mk (Boxes.below (by (with_reducible repeat (first | apply boxes_drewN | apply boxes_drew | apply boxes_alloc)); exact BX.out) hb)
                have n1_ := Aside0.mk (below_step (by repeat (first | (with_reducible first | exact HB.out | apply below_alloc | apply pw_below_drewN | apply below_drew1 | refine below_set ?_ (Aside0.out (by assumption))) | exact HB.out)) hb)
                clear BX HB
                have BX := n0_
                have HB := n1_
                clear n0_ n1_
                (try clear hb)
                (try clear hb2)
                (try clear hk)
                (try clear hi)
                refine hK.out _ _ ⟨(blk_cell (BX.out.get 2 rfl) 0).trans rfl, (blk_cell (BX.out.get 2 rfl) 1).trans rfl⟩ (fun hHeld => ?_)
                clear hK K
                refine norm_ (a' := ?_) ?_ ?_
                rotate_left
                ·show Act.put _ (some 82) _ = _
                 simp only [Act.put, List.setIfInBounds_toArray, List.set_cons_zero, List.set_cons_succ, i64_w, i32_w]
                 rfl
                refine two_ (i := 2) (j := 6) (Ni := some 84) (Nj := some 12) #[true, true, true, false, false, false, false, false, false] #[true, true, false, false, false, false, true, false, false] rfl rfl rfl rfl (two_of HT_.out (by kernel_rfl)) (by decide) (by decide) (fun K hK => ?_) (fun K hK => ?_)
                ·skip
                 refine goes_ Tryd.func41 (by kernel_rfl) rfl #[.agg #[.int .i64 t799, .int .i64 t800], .agg #[.int .i64 x788000_15, .int .i64 x788001_15]] (by rfl) rfl rfl (by (try simp only [List.map_toArray, List.map_cons, List.map_nil]); first | done | rfl | (simp only [List.length_drop, List.length_take]; rfl)) ?_
                 with_reducible refine (num_Div.calls kj46 t799 t800 x788000_15 x788001_15 t801 t802 t803 _ A70.out).mono ?_
                 rintro e w91 ⟨rfl, hb⟩
                 refine ⟨_, rfl, ?_⟩
                 have n0_ := Aside0.mk (Boxes.below (by (with_reducible repeat (first | apply boxes_drewN | apply boxes_drew | apply boxes_alloc)); exact BX.out) hb)
                 have n1_ := Aside0.mk (below_step (by repeat (first | (with_reducible first | exact HB.out | apply below_alloc | apply pw_below_drewN | apply below_drew1 | refine below_set ?_ (Aside0.out (by assumption))) | exact HB.out)) hb)
                 clear BX HB
                 have BX := n0_
                 have HB := n1_
                 clear n0_ n1_
                 (try clear hb)
                 (try clear hb2)
                 (try clear hk)
                 (try clear hi)
                 refine hK.out _ _ ⟨(blk_cell (BX.out.get 2 rfl) 0).trans rfl, (blk_cell (BX.out.get 2 rfl) 1).trans rfl⟩ (fun hHeld => ?_)
                 clear hK K
                 refine norm_ (a' := ?_) ?_ ?_
                 rotate_left
                 ·show Act.put _ (some 84) _ = _
                  simp only [Act.put, List.setIfInBounds_toArray, List.set_cons_zero, List.set_cons_succ, i64_w, i32_w]
                  rfl
                 refine pure_ (i := 3) (N := some 81) (v := ?_) (a' := ?_) #[true, true, true, true, false, false, false, false, false] rfl rfl (any_of HT_.out (by kernel_rfl)) (fun _ _ _ h => h) (Or.inl ⟨by rfl, ?_⟩) ?_ ?_
                 rotate_left
                 ·intro w'
                  go_simp
                  with_reducible rfl
                 rotate_left
                 ·simp only [Act.put, List.setIfInBounds_toArray, List.set_cons_zero, List.set_cons_succ, i64_w, i32_w]
                  rfl
                 refine pure_ (i := 4) (N := some 85) (v := ?_) (a' := ?_) #[true, true, true, true, true, false, false, false, false] rfl rfl (any_of HT_.out (by kernel_rfl)) (fun _ _ _ h => h) (Or.inl ⟨by rfl, ?_⟩) ?_ ?_
                 rotate_left
                 ·intro w'
                  go_simp
                  with_reducible rfl
                 rotate_left
                 ·simp only [Act.put, List.setIfInBounds_toArray, List.set_cons_zero, List.set_cons_succ, i64_w, i32_w]
                  rfl
                 refine pure_ (i := 5) (N := some 86) (v := ?_) (a' := ?_) #[true, true, true, true, true, true, false, false, false] rfl rfl (any_of HT_.out (by kernel_rfl)) (fun _ _ _ h => h) (Or.inl ⟨by rfl, ?_⟩) ?_ ?_
                 rotate_left
                 ·intro w'
                  go_simp
                  with_reducible rfl
                 rotate_left
                 ·simp only [Act.put, List.setIfInBounds_toArray, List.set_cons_zero, List.set_cons_succ, i64_w, i32_w]
                  rfl
                 refine one_ (i := 6) (N := some 12) #[true, true, true, true, true, true, true, false, false] rfl rfl (one_of HT_.out (by kernel_rfl)) (by decide) (fun K hK => ?_)
                 refine box_step ?hg (N := 12) ?hd (cs := #[.int .i64 0, .int .i64 0]) (t := 23) ?hr ?_; (case hd => rfl); (case hg => rfl); (case hr => first | (go_simp; done) | (go_simp; rfl))
                 intro gb804 hg w92 hbox hb
                 have n0_ := Aside0.mk (Boxes.new (by (with_reducible repeat (first | apply boxes_drewN | apply boxes_drew | apply boxes_alloc)); exact BX.out) hg hbox hb (below_size (by repeat (first | (with_reducible first | exact HB.out | apply below_alloc | apply pw_below_drewN | apply below_drew1 | refine below_set ?_ (Aside0.out (by assumption))) | exact HB.out))))
                 have n1_ := Aside0.mk (below_step (by repeat (first | (with_reducible first | exact HB.out | apply below_alloc | apply pw_below_drewN | apply below_drew1 | refine below_set ?_ (Aside0.out (by assumption))) | exact HB.out)) hb)
                 have n2_ := Aside0.mk ((by rw [hg]; exact (below_size (by repeat (first | (with_reducible first | exact HB.out | apply below_alloc | apply pw_below_drewN | apply below_drew1 | refine below_set ?_ (Aside0.out (by assumption))) | exact HB.out))) : w.heap.size ≤ gb804))
                 clear BX HB
                 have BX := n0_
                 have HB := n1_
                 have GE804 := n2_
                 clear n0_ n1_ n2_
                 clear hb hbox hg
                 refine hK.out _ _ ⟨(blk_cell (BX.out.get 3 rfl) 0).trans rfl, (blk_cell (BX.out.get 3 rfl) 1).trans rfl⟩ (fun hHeld => ?_)
                 clear hK K
                 refine norm_ (a' := ?_) ?_ ?_
                 rotate_left
                 ·show Act.put _ (some 12) _ = _
                  simp only [Act.put, List.setIfInBounds_toArray, List.set_cons_zero, List.set_cons_succ, i64_w, i32_w]
                  rfl
                 exact norm_ (by simp only [putAll, Act.put, List.setIfInBounds_toArray, List.set_cons_zero, List.set_cons_succ]) (hCont (gb804) _ ⟨hHeld, (by (with_reducible repeat (first | apply boxes_drewN | apply boxes_drew | apply boxes_alloc)); exact BX.out), GE804.out, (by repeat (first | (with_reducible first | exact HB.out | apply below_alloc | apply pw_below_drewN | apply below_drew1 | refine below_set ?_ (Aside0.out (by assumption))) | exact HB.out))⟩)
                ·skip
                 refine box_step ?hg (N := 12) ?hd (cs := #[.int .i64 0, .int .i64 0]) (t := 23) ?hr ?_; (case hd => rfl); (case hg => rfl); (case hr => first | (go_simp; done) | (go_simp; rfl))
                 intro gb804 hg w91 hbox hb
                 have n0_ := Aside0.mk (Boxes.new (by (with_reducible repeat (first | apply boxes_drewN | apply boxes_drew | apply boxes_alloc)); exact BX.out) hg hbox hb (below_size (by repeat (first | (with_reducible first | exact HB.out | apply below_alloc | apply pw_below_drewN | apply below_drew1 | refine below_set ?_ (Aside0.out (by assumption))) | exact HB.out))))
                 have n1_ := Aside0.mk (below_step (by repeat (first | (with_reducible first | exact HB.out | apply below_alloc | apply pw_below_drewN | apply below_drew1 | refine below_set ?_ (Aside0.out (by assumption))) | exact HB.out)) hb)
                 have n2_ := Aside0.mk ((by rw [hg]; exact (below_size (by repeat (first | (with_reducible first | exact HB.out | apply below_alloc | apply pw_below_drewN | apply below_drew1 | refine below_set ?_ (Aside0.out (by assumption))) | exact HB.out))) : w.heap.size ≤ gb804))
                 clear BX HB
                 have BX := n0_
                 have HB := n1_
                 have GE804 := n2_
                 clear n0_ n1_ n2_
                 clear hb hbox hg
                 refine hK.out _ _ ⟨(blk_cell (BX.out.get 3 rfl) 0).trans rfl, (blk_cell (BX.out.get 3 rfl) 1).trans rfl⟩ (fun hHeld => ?_)
                 clear hK K
                 refine norm_ (a' := ?_) ?_ ?_
                 rotate_left
                 ·show Act.put _ (some 12) _ = _
                  simp only [Act.put, List.setIfInBounds_toArray, List.set_cons_zero, List.set_cons_succ, i64_w, i32_w]
                  rfl
                 refine one_ (i := 2) (N := some 84) #[true, true, true, false, false, false, true, false, false] rfl rfl (one_of HT_.out (by kernel_rfl)) (by decide) (fun K hK => ?_)
                 refine goes_ Tryd.func41 (by kernel_rfl) rfl #[.agg #[.int .i64 t799, .int .i64 t800], .agg #[.int .i64 x788000_15, .int .i64 x788001_15]] (by rfl) rfl rfl (by (try simp only [List.map_toArray, List.map_cons, List.map_nil]); first | done | rfl | (simp only [List.length_drop, List.length_take]; rfl)) ?_
                 with_reducible refine (num_Div.calls kj46 t799 t800 x788000_15 x788001_15 t801 t802 t803 _ A70.out).mono ?_
                 rintro e w92 ⟨rfl, hb⟩
                 refine ⟨_, rfl, ?_⟩
                 have n0_ := Aside0.mk (Boxes.below (by (with_reducible repeat (first | apply boxes_drewN | apply boxes_drew | apply boxes_alloc)); exact BX.out) hb)
                 have n1_ := Aside0.mk (below_step (by repeat (first | (with_reducible first | exact HB.out | apply below_alloc | apply pw_below_drewN | apply below_drew1 | refine below_set ?_ (Aside0.out (by assumption))) | exact HB.out)) hb)
                 clear BX HB
                 have BX := n0_
                 have HB := n1_
                 clear n0_ n1_
                 (try clear hb)
                 (try clear hb2)
                 (try clear hk)
                 (try clear hi)
                 refine hK.out _ _ ⟨(blk_cell (BX.out.get 3 rfl) 0).trans rfl, (blk_cell (BX.out.get 3 rfl) 1).trans rfl⟩ (fun hHeld => ?_)
                 clear hK K
                 refine norm_ (a' := ?_) ?_ ?_
                 rotate_left
                 ·show Act.put _ (some 84) _ = _
                  simp only [Act.put, List.setIfInBounds_toArray, List.set_cons_zero, List.set_cons_succ, i64_w, i32_w]
                  rfl
                 refine pure_ (i := 3) (N := some 81) (v := ?_) (a' := ?_) #[true, true, true, true, false, false, true, false, false] rfl rfl (any_of HT_.out (by kernel_rfl)) (fun _ _ _ h => h) (Or.inl ⟨by rfl, ?_⟩) ?_ ?_
                 rotate_left
                 ·intro w'
                  go_simp
                  with_reducible rfl
                 rotate_left
                 ·simp only [Act.put, List.setIfInBounds_toArray, List.set_cons_zero, List.set_cons_succ, i64_w, i32_w]
                  rfl
                 refine pure_ (i := 4) (N := some 85) (v := ?_) (a' := ?_) #[true, true, true, true, true, false, true, false, false] rfl rfl (any_of HT_.out (by kernel_rfl)) (fun _ _ _ h => h) (Or.inl ⟨by rfl, ?_⟩) ?_ ?_
                 rotate_left
                 ·intro w'
                  go_simp
                  with_reducible rfl
                 rotate_left
                 ·simp only [Act.put, List.setIfInBounds_toArray, List.set_cons_zero, List.set_cons_succ, i64_w, i32_w]
                  rfl
                 refine pure_ (i := 5) (N := some 86) (v := ?_) (a' := ?_) #[true, true, true, true, true, true, true, false, false] rfl rfl (any_of HT_.out (by kernel_rfl)) (fun _ _ _ h => h) (Or.inl ⟨by rfl, ?_⟩) ?_ ?_
                 rotate_left
                 ·intro w'
                  go_simp
                  with_reducible rfl
                 rotate_left
                 ·simp only [Act.put, List.setIfInBounds_toArray, List.set_cons_zero, List.set_cons_succ, i64_w, i32_w]
                  rfl
                 exact norm_ (by simp only [putAll, Act.put, List.setIfInBounds_toArray, List.set_cons_zero, List.set_cons_succ]) (hCont (gb804) _ ⟨hHeld, (by (with_reducible repeat (first | apply boxes_drewN | apply boxes_drew | apply boxes_alloc)); exact BX.out), GE804.out, (by repeat (first | (with_reducible first | exact HB.out | apply below_alloc | apply pw_below_drewN | apply below_drew1 | refine below_set ?_ (Aside0.out (by assumption))) | exact HB.out))⟩)
               ·skip
                refine box_step ?hg (N := 12) ?hd (cs := #[.int .i64 0, .int .i64 0]) (t := 23) ?hr ?_; (case hd => rfl); (case hg => rfl); (case hr => first | (go_simp; done) | (go_simp; rfl))
                intro gb804 hg w90 hbox hb
                have n0_ := Aside0.mk (Boxes.new (by (with_reducible repeat (first | apply boxes_drewN | apply boxes_drew | apply boxes_alloc)); exact BX.out) hg hbox hb (below_size (by repeat (first | (with_reducible first | exact HB.out | apply below_alloc | apply pw_below_drewN | apply below_drew1 | refine below_set ?_ (Aside0.out (by assumption))) | exact HB.out))))
                have n1_ := Aside0.mk (below_step (by repeat (first | (with_reducible first | exact HB.out | apply below_alloc | apply pw_below_drewN | apply below_drew1 | refine below_set ?_ (Aside0.out (by assumption))) | exact HB.out)) hb)
                have n2_ := Aside0.mk ((by rw [hg]; exact (below_size (by repeat (first | (with_reducible first | exact HB.out | apply below_alloc | apply pw_below_drewN | apply below_drew1 | refine below_set ?_ (Aside0.out (by assumption))) | exact HB.out))) : w.heap.size ≤ gb804))
                clear BX HB
                have BX := n0_
                have HB := n1_
                have GE804 := n2_
                clear n0_ n1_ n2_
                clear hb hbox hg
                refine hK.out _ _ ⟨(blk_cell (BX.out.get 3 rfl) 0).trans rfl, (blk_cell (BX.out.get 3 rfl) 1).trans rfl⟩ (fun hHeld => ?_)
                clear hK K
                refine norm_ (a' := ?_) ?_ ?_
                rotate_left
                ·show Act.put _ (some 12) _ = _
                 simp only [Act.put, List.setIfInBounds_toArray, List.set_cons_zero, List.set_cons_succ, i64_w, i32_w]
                 rfl
                refine one_ (i := 0) (N := some 82) #[true, true, false, false, false, false, true, false, false] rfl rfl (one_of HT_.out (by kernel_rfl)) (by decide) (fun K hK => ?_)
                refine goes_ Tryd.func48 (by kernel_rfl) rfl #[] (by rfl) rfl rfl (by (try simp only [List.map_toArray, List.map_cons, List.map_nil]); first | done | rfl | (simp only [List.length_drop, List.length_take]; rfl)) ?_
                with_reducible refine (whittlelaw1_one.calls  t799 t800 _ A69.out).mono ?_
                rintro e w91 ⟨rfl, hb⟩
                refine ⟨_, rfl, ?_⟩
                have n0_ := Aside0.mk (Boxes.below (by (with_reducible repeat (first | apply boxes_drewN | apply boxes_drew | apply boxes_alloc)); exact BX.out) hb)
                have n1_ := Aside0.mk (below_step (by repeat (first | (with_reducible first | exact HB.out | apply below_alloc | apply pw_below_drewN | apply below_drew1 | refine below_set ?_ (Aside0.out (by assumption))) | exact HB.out)) hb)
                clear BX HB
                have BX := n0_
                have HB := n1_
                clear n0_ n1_
                (try clear hb)
                (try clear hb2)
                (try clear hk)
                (try clear hi)
                refine hK.out _ _ ⟨(blk_cell (BX.out.get 3 rfl) 0).trans rfl, (blk_cell (BX.out.get 3 rfl) 1).trans rfl⟩ (fun hHeld => ?_)
                clear hK K
                refine norm_ (a' := ?_) ?_ ?_
                rotate_left
                ·show Act.put _ (some 82) _ = _
                 simp only [Act.put, List.setIfInBounds_toArray, List.set_cons_zero, List.set_cons_succ, i64_w, i32_w]
                 rfl
                refine one_ (i := 2) (N := some 84) #[true, true, true, false, false, false, true, false, false] rfl rfl (one_of HT_.out (by kernel_rfl)) (by decide) (fun K hK => ?_)
                refine goes_ Tryd.func41 (by kernel_rfl) rfl #[.agg #[.int .i64 t799, .int .i64 t800], .agg #[.int .i64 x788000_15, .int .i64 x788001_15]] (by rfl) rfl rfl (by (try simp only [List.map_toArray, List.map_cons, List.map_nil]); first | done | rfl | (simp only [List.length_drop, List.length_take]; rfl)) ?_
                with_reducible refine (num_Div.calls kj46 t799 t800 x788000_15 x788001_15 t801 t802 t803 _ A70.out).mono ?_
                rintro e w92 ⟨rfl, hb⟩
                refine ⟨_, rfl, ?_⟩
                have n0_ := Aside0.mk (Boxes.below (by (with_reducible repeat (first | apply boxes_drewN | apply boxes_drew | apply boxes_alloc)); exact BX.out) hb)
                have n1_ := Aside0.mk (below_step (by repeat (first | (with_reducible first | exact HB.out | apply below_alloc | apply pw_below_drewN | apply below_drew1 | refine below_set ?_ (Aside0.out (by assumption))) | exact HB.out)) hb)
                clear BX HB
                have BX := n0_
                have HB := n1_
                clear n0_ n1_
                (try clear hb)
                (try clear hb2)
                (try clear hk)
                (try clear hi)
                refine hK.out _ _ ⟨(blk_cell (BX.out.get 3 rfl) 0).trans rfl, (blk_cell (BX.out.get 3 rfl) 1).trans rfl⟩ (fun hHeld => ?_)
                clear hK K
                refine norm_ (a' := ?_) ?_ ?_
                rotate_left
                ·show Act.put _ (some 84) _ = _
                 simp only [Act.put, List.setIfInBounds_toArray, List.set_cons_zero, List.set_cons_succ, i64_w, i32_w]
                 rfl
                refine pure_ (i := 3) (N := some 81) (v := ?_) (a' := ?_) #[true, true, true, true, false, false, true, false, false] rfl rfl (any_of HT_.out (by kernel_rfl)) (fun _ _ _ h => h) (Or.inl ⟨by rfl, ?_⟩) ?_ ?_
                rotate_left
                ·intro w'
                 go_simp
                 with_reducible rfl
                rotate_left
                ·simp only [Act.put, List.setIfInBounds_toArray, List.set_cons_zero, List.set_cons_succ, i64_w, i32_w]
                 rfl
                refine pure_ (i := 4) (N := some 85) (v := ?_) (a' := ?_) #[true, true, true, true, true, false, true, false, false] rfl rfl (any_of HT_.out (by kernel_rfl)) (fun _ _ _ h => h) (Or.inl ⟨by rfl, ?_⟩) ?_ ?_
                rotate_left
                ·intro w'
                 go_simp
                 with_reducible rfl
                rotate_left
                ·simp only [Act.put, List.setIfInBounds_toArray, List.set_cons_zero, List.set_cons_succ, i64_w, i32_w]
                 rfl
                refine pure_ (i := 5) (N := some 86) (v := ?_) (a' := ?_) #[true, true, true, true, true, true, true, false, false] rfl rfl (any_of HT_.out (by kernel_rfl)) (fun _ _ _ h => h) (Or.inl ⟨by rfl, ?_⟩) ?_ ?_
                rotate_left
                ·intro w'
                 go_simp
                 with_reducible rfl
                rotate_left
                ·simp only [Act.put, List.setIfInBounds_toArray, List.set_cons_zero, List.set_cons_succ, i64_w, i32_w]
                 rfl
                exact norm_ (by simp only [putAll, Act.put, List.setIfInBounds_toArray, List.set_cons_zero, List.set_cons_succ]) (hCont (gb804) _ ⟨hHeld, (by (with_reducible repeat (first | apply boxes_drewN | apply boxes_drew | apply boxes_alloc)); exact BX.out), GE804.out, (by repeat (first | (with_reducible first | exact HB.out | apply below_alloc | apply pw_below_drewN | apply below_drew1 | refine below_set ?_ (Aside0.out (by assumption))) | exact HB.out))⟩)
              rintro gb804 w93 ⟨hS_, hBX_, hJ0_, hJ1_⟩
              have n0_ : Aside0 (Boxes w.heap.size w93 [(gb804, 23, #[.int .i64 0, .int .i64 0]), (gb798, 23, #[.int .i64 t795, .int .i64 t796]), (gb794, 23, #[.int .i64 t791, .int .i64 t792]), (gb787, 23, #[.int .i64 x788000_15, .int .i64 x788001_15]), (gb781, 23, #[.int .i64 a0_0, .int .i64 a0_1])]) := ⟨hBX_⟩
              have n1_ : Aside0 (w.heap.size ≤ gb804) := ⟨hJ0_⟩
              have n2_ : Aside0 (Below w.heap.size w w93) := ⟨hJ1_⟩
              clear BX HB hBX_ hJ0_ hJ1_
              have BX := n0_
              have GE804 := n1_
              have HB := n2_
              clear n0_ n1_ n2_
              have hHeld : w93.cell? ⟨gb787, 0, none⟩ = some (.int .i64 x788000_15) ∧ w93.cell? ⟨gb787, 1, none⟩ = some (.int .i64 x788001_15) := hS_
              refine norm_ (a' := ?_) ?_ ?_
              rotate_left
              ·simp only [putAll, Act.put, List.setIfInBounds_toArray, List.set_cons_zero, List.set_cons_succ]
               rfl
              refine one_ (i := 7) (N := none) #[true, true, true, true, true, true, true, true, false] rfl rfl (one_of HT_.out (by kernel_rfl)) (by decide) (fun K hK => ?_)
              have hs94 : w93.cell? ⟨gb804, 0, none⟩ = some (.int .i64 0) := (blk_cell (BX.out.get 0 rfl) 0).trans rfl
              have hfs94 := blk_frozen (BX.out.get 0 rfl) 0
              obtain ⟨⟨hms94_3, hns94_3⟩, ⟨hms94_2, hns94_2⟩, ⟨hms94_1, hns94_1⟩, ⟨hms94_0, hns94_0⟩, -⟩ := BX.out.apart 0 rfl
              have hs95 : w93.cell? ⟨gb804, 1, none⟩ = some (.int .i64 0) := (blk_cell (BX.out.get 0 rfl) 1).trans rfl
              have hfs95 := blk_frozen (BX.out.get 0 rfl) 1
              obtain ⟨⟨hms95_3, hns95_3⟩, ⟨hms95_2, hns95_2⟩, ⟨hms95_1, hns95_1⟩, ⟨hms95_0, hns95_0⟩, -⟩ := BX.out.apart 0 rfl
              refine skip_ (w1 := ?_) (by rfl) rfl ?_ ?_
              rotate_left
              ·go_simp
               rfl
              refine hK.out _ _ ⟨((cell_far (p := ⟨gb804, _, none⟩) (BX.out.ne 3 0 rfl rfl (by decide)) _).trans (((cell_far (p := ⟨gb804, _, none⟩) (BX.out.ne 3 0 rfl rfl (by decide)) _).trans (hHeld.1)))), ((cell_far (p := ⟨gb804, _, none⟩) (BX.out.ne 3 0 rfl rfl (by decide)) _).trans (((cell_far (p := ⟨gb804, _, none⟩) (BX.out.ne 3 0 rfl rfl (by decide)) _).trans (hHeld.2))))⟩ (fun hHeld => ?_)
              clear hK K
              refine pure_ (i := 8) (N := some 13) (v := ?_) (a' := ?_) #[true, true, true, true, true, true, true, true, true] rfl rfl (any_of HT_.out (by kernel_rfl)) (fun _ _ _ h => h) (Or.inl ⟨by rfl, ?_⟩) ?_ ?_
              rotate_left
              ·intro w'
               go_simp
               with_reducible rfl
              rotate_left
              ·simp only [Act.put, List.setIfInBounds_toArray, List.set_cons_zero, List.set_cons_succ, i64_w, i32_w]
               rfl
              refine done_ (done_of HT_.out (by kernel_rfl)) ?_
              try go_wp2
              go_ret
              exact ⟨by first | rfl | (simp [errW_none, errW_some] <;> rfl) | (simp [*, errW_none, errW_some] <;> rfl), by repeat (first | (with_reducible first | exact HB.out | apply below_alloc | apply pw_below_drewN | apply below_drew1 | refine below_set ?_ (Aside0.out (by assumption))) | exact HB.out)⟩
            ·rw [if_neg c71] at H
             have c71b0 : (t797 == t803) = false := by simpa using c71
             (try (have c71b1 : decide (t797 = t803) = false := by simpa using c71))
             (try (have c71b2 : (t797 == t803) = false := by simpa using c71))
             (try (have c71b3 : ¬ (t797 = t803) := by simpa using c71))
             clear c71
             exact absurd (Option.some.inj H) (by rw [HR.out]; decide)

end Go.Proofs.YtlcjfabbnclalaaDoor.F
