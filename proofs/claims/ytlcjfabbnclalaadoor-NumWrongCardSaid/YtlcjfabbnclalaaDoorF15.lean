-- Laid by program (wip/tools/gen.sh of this repo) out of the translation; Lean checks it.
import Derived.Test.YtlcjfabbnclalaaDoorF0
import Derived.Test.YtlcjfabbnclalaaDoorB0
namespace Go.Proofs.YtlcjfabbnclalaaDoor.F
open Go.RowKit Go.Proofs.YtlcjfabbnclalaaDoorW.PrintWords Go.Proofs.YtlcjfabbnclalaaDoorW.PrintLast Go.Proofs.YtlcjfabbnclalaaDoorW.PrintMore
attribute [local go_sem] max2_int min2_int max_two min_two max_three min_three max_four min_four   -- for this text's walks alone
set_option linter.unusedVariables false
set_option linter.unusedSimpArgs false

/-! ### whittlelaw1_right: function 31 -/
mutual
def whittlelaw1_right.j0 : Nat → Bool → Int → Int → Option (Bool)
 | 0, _, _, _ => none
 | k + 1, x23, x269000, x269001 => if x23 = true then (some false) else (if x269000 < 0 then (whittlelaw1_right.j1 k (wrap64 (-x269000)) x269000 x269001) else (whittlelaw1_right.j1 k x269000 x269000 x269001))
def whittlelaw1_right.j1 : Nat → Int → Int → Int → Option (Bool)
 | 0, _, _, _ => none
 | k + 1, x3, x269000, x269001 => whittlelaw1_right.l0 k x3 x269001
def whittlelaw1_right.l0 : Nat → Int → Int → Option (Bool)
 | 0, _, _ => none
 | k + 1, x3, x4 => if x3 = 0 then (some (x4 == 1)) else (whittlelaw1_right.l0 k (Int.tmod x4 x3) x3)
end
def whittlelaw1_right.f (k : Nat) (a0_0 : Int) (a0_1 : Int) : Option (Bool) := if a0_1 < 1 then (whittlelaw1_right.j0 k true a0_0 a0_1) else (if a0_1 > 1000000 then (whittlelaw1_right.j0 k true a0_0 a0_1) else (if a0_0 < (-1000000000000) then (whittlelaw1_right.j0 k true a0_0 a0_1) else (whittlelaw1_right.j0 k (decide (a0_0 > 1000000000000)) a0_0 a0_1)))
theorem whittlelaw1_right.mono_l : ∀ k, (∀ y0 y1 y2, LeO (whittlelaw1_right.j0 k y0 y1 y2) (whittlelaw1_right.j0 (k + 1) y0 y1 y2)) ∧ (∀ y0 y1 y2, LeO (whittlelaw1_right.j1 k y0 y1 y2) (whittlelaw1_right.j1 (k + 1) y0 y1 y2)) ∧ (∀ y0 y1, LeO (whittlelaw1_right.l0 k y0 y1) (whittlelaw1_right.l0 (k + 1) y0 y1))
 | 0 => ⟨fun _ _ _ r h => by simp [whittlelaw1_right.j0] at h, fun _ _ _ r h => by simp [whittlelaw1_right.j1] at h, fun _ _ r h => by simp [whittlelaw1_right.l0] at h⟩
 | k + 1 => by
  obtain ⟨ih0, ih1, ih2⟩ := whittlelaw1_right.mono_l k
  refine ⟨?_, ?_, ?_⟩
  ·intro y0 y1 y2
   unfold whittlelaw1_right.j0
   repeat' first
   | (with_reducible exact ih0 _ _ _)
   | (with_reducible exact ih1 _ _ _)
   | (with_reducible exact ih2 _ _)
   | (with_reducible exact LeO.refl _)
   | (with_reducible exact LeO.none _)
   | (with_reducible refine LeO.ite ?_ ?_)
   | (with_reducible refine LeO.bind ?_ (fun _ => ?_))
   | exact ih0 _ _ _
   | exact ih1 _ _ _
   | exact ih2 _ _
   | exact LeO.none _
   | refine LeO.ite ?_ ?_
   | refine LeO.bind ?_ (fun _ => ?_)
  ·intro y0 y1 y2
   unfold whittlelaw1_right.j1
   repeat' first
   | (with_reducible exact ih0 _ _ _)
   | (with_reducible exact ih1 _ _ _)
   | (with_reducible exact ih2 _ _)
   | (with_reducible exact LeO.refl _)
   | (with_reducible exact LeO.none _)
   | (with_reducible refine LeO.ite ?_ ?_)
   | (with_reducible refine LeO.bind ?_ (fun _ => ?_))
   | exact ih0 _ _ _
   | exact ih1 _ _ _
   | exact ih2 _ _
   | exact LeO.none _
   | refine LeO.ite ?_ ?_
   | refine LeO.bind ?_ (fun _ => ?_)
  ·intro y0 y1
   unfold whittlelaw1_right.l0
   repeat' first
   | (with_reducible exact ih0 _ _ _)
   | (with_reducible exact ih1 _ _ _)
   | (with_reducible exact ih2 _ _)
   | (with_reducible exact LeO.refl _)
   | (with_reducible exact LeO.none _)
   | (with_reducible refine LeO.ite ?_ ?_)
   | (with_reducible refine LeO.bind ?_ (fun _ => ?_))
   | exact ih0 _ _ _
   | exact ih1 _ _ _
   | exact ih2 _ _
   | exact LeO.none _
   | refine LeO.ite ?_ ?_
   | refine LeO.bind ?_ (fun _ => ?_)
theorem whittlelaw1_right.mono : ∀ a0 a1 k, LeO (whittlelaw1_right.f k a0 a1) (whittlelaw1_right.f (k + 1) a0 a1) := by
 intro a0 a1 k
 obtain ⟨ih0, ih1, ih2⟩ := whittlelaw1_right.mono_l k
 unfold whittlelaw1_right.f
 repeat' first
   | (with_reducible exact ih0 _ _ _)
   | (with_reducible exact ih1 _ _ _)
   | (with_reducible exact ih2 _ _)
   | (with_reducible exact LeO.refl _)
   | (with_reducible exact LeO.none _)
   | (with_reducible refine LeO.ite ?_ ?_)
   | (with_reducible refine LeO.bind ?_ (fun _ => ?_))
   | exact ih0 _ _ _
   | exact ih1 _ _ _
   | exact ih2 _ _
   | exact LeO.none _
   | refine LeO.ite ?_ ?_
   | refine LeO.bind ?_ (fun _ => ?_)
set_option maxHeartbeats 8000000 in
set_option maxRecDepth 100000 in
theorem whittlelaw1_right.calls (k : Nat) (a0_0 : Int) (a0_1 : Int) (r : Bool) (w : World) (h : whittlelaw1_right.f k a0_0 a0_1 = some r) :
  Calls Tryd.prog 31 #[.agg #[.int .i64 a0_0, .int .i64 a0_1]] w fun e w' => e = .returned (.bool r) ∧ Below w.heap.size w w' := by
 have hu23 := Tryd.underlying23
 have HB := Aside0.mk (Below.refl w.heap.size w)
 have H : (if a0_1 < 1 then (whittlelaw1_right.j0 k true a0_0 a0_1) else (if a0_1 > 1000000 then (whittlelaw1_right.j0 k true a0_0 a0_1) else (if a0_0 < (-1000000000000) then (whittlelaw1_right.j0 k true a0_0 a0_1) else (whittlelaw1_right.j0 k (decide (a0_0 > 1000000000000)) a0_0 a0_1)))) = some r := h
 clear h
 have HC2 := Aside0.mk H
 clear H
 go_enter Tryd.func31, Tryd.ntmps31
 go_upto_region 1 with (first | ((with_reducible refine gate_dst (N := 1) rfl ?_); refine box_event ?hg (N := 1) ?hd (cs := #[.int .i64 a0_0, .int .i64 a0_1]) (t := 23) ?hr ?_; (case hd => rfl); (case hg => rfl); (case hr => first | (go_simp; done) | (go_simp; rfl)); intro gb268 hg w3 hbox hb; have n0_ := Aside0.mk (Boxes.new (b := w.heap.size) (L := []) trivial hg hbox hb (below_size (by repeat (first | (with_reducible first | exact HB.out | apply below_alloc | apply pw_below_drewN | apply below_drew1 | refine below_set ?_ (Aside0.out (by assumption))) | exact HB.out)))); have n1_ := Aside0.mk (below_step (by repeat (first | (with_reducible first | exact HB.out | apply below_alloc | apply pw_below_drewN | apply below_drew1 | refine below_set ?_ (Aside0.out (by assumption))) | exact HB.out)) hb); have n2_ := Aside0.mk ((by rw [hg]; exact (below_size (by repeat (first | (with_reducible first | exact HB.out | apply below_alloc | apply pw_below_drewN | apply below_drew1 | refine below_set ?_ (Aside0.out (by assumption))) | exact HB.out))) : w.heap.size ≤ gb268)); clear HB; have BX := n0_; have HB := n1_; have GE268 := n2_; clear n0_ n1_ n2_; clear hb hbox hg))
 (try simp only [Act.put, List.setIfInBounds_toArray, List.set_cons_zero, List.set_cons_succ])
 go_cut [23] (fun v23 wc => ∃ (kq : Nat) (x23_1 : Bool), v23 = .bool x23_1 ∧ Aside0 (whittlelaw1_right.j0 kq x23_1 a0_0 a0_1 = some r) ∧ Aside0 (kq ≤ k) ∧ Aside0 (Boxes w.heap.size wc [(gb268, 23, #[.int .i64 a0_0, .int .i64 a0_1])]) ∧ Aside0 (Below w.heap.size w wc))
 case first =>
  have H := HC2.out
  clear HC2
  by_cases c4 : a0_1 < 1
  ·rw [if_pos c4] at H
   have c4b0 : decide (a0_1 < 1) = true := decide_eq_true c4
   clear c4
   (first | rw [c4b0] | (simp only [i64_w, i32_w]; rw [c4b0]) | skip)
   have H' := Aside0.mk H
   clear H
   have hcz5_0 : w3.cell? ⟨gb268, 0, none⟩ = some (.int .i64 a0_0) := (blk_cell (BX.out.get 0 rfl) 0).trans rfl
   have hcz5_1 : w3.cell? ⟨gb268, 1, none⟩ = some (.int .i64 a0_1) := (blk_cell (BX.out.get 0 rfl) 1).trans rfl
   have hfz5_0 := blk_frozen (BX.out.get 0 rfl) 0
   have hfz5_1 := blk_frozen (BX.out.get 0 rfl) 1
   go_wp2
   go_meet
   case rel => exact ⟨_, (true), (by first | rfl | (simp; done) | (simp [*]; done) | (simp [bne_nil]; done)), H', ⟨by first | omega | exact Nat.le_refl _⟩, ⟨by (with_reducible repeat (first | apply boxes_drewN | apply boxes_drew | apply boxes_alloc)); exact BX.out⟩, ⟨by repeat (first | (with_reducible first | exact HB.out | apply below_alloc | apply pw_below_drewN | apply below_drew1 | refine below_set ?_ (Aside0.out (by assumption))) | exact HB.out)⟩⟩
  ·rw [if_neg c4] at H
   have c4b0 : decide (a0_1 < 1) = false := decide_eq_false c4
   clear c4
   (first | rw [c4b0] | (simp only [i64_w, i32_w]; rw [c4b0]) | skip)
   by_cases c6 : a0_1 > 1000000
   ·rw [if_pos c6] at H
    have c6b0 : decide (1000000 < a0_1) = true := decide_eq_true c6
    clear c6
    have H' := Aside0.mk H
    clear H
    have hcz7_0 : w3.cell? ⟨gb268, 0, none⟩ = some (.int .i64 a0_0) := (blk_cell (BX.out.get 0 rfl) 0).trans rfl
    have hcz7_1 : w3.cell? ⟨gb268, 1, none⟩ = some (.int .i64 a0_1) := (blk_cell (BX.out.get 0 rfl) 1).trans rfl
    have hfz7_0 := blk_frozen (BX.out.get 0 rfl) 0
    have hfz7_1 := blk_frozen (BX.out.get 0 rfl) 1
    go_wp2
    go_meet
    case rel => exact ⟨_, (true), (by first | rfl | (simp; done) | (simp [*]; done) | (simp [bne_nil]; done)), H', ⟨by first | omega | exact Nat.le_refl _⟩, ⟨by (with_reducible repeat (first | apply boxes_drewN | apply boxes_drew | apply boxes_alloc)); exact BX.out⟩, ⟨by repeat (first | (with_reducible first | exact HB.out | apply below_alloc | apply pw_below_drewN | apply below_drew1 | refine below_set ?_ (Aside0.out (by assumption))) | exact HB.out)⟩⟩
   ·rw [if_neg c6] at H
    have c6b0 : decide (1000000 < a0_1) = false := decide_eq_false c6
    clear c6
    by_cases c8 : a0_0 < (-1000000000000)
    ·rw [if_pos c8] at H
     have c8b0 : decide (a0_0 < (-1000000000000)) = true := decide_eq_true c8
     clear c8
     have H' := Aside0.mk H
     clear H
     have hcz9_0 : w3.cell? ⟨gb268, 0, none⟩ = some (.int .i64 a0_0) := (blk_cell (BX.out.get 0 rfl) 0).trans rfl
     have hcz9_1 : w3.cell? ⟨gb268, 1, none⟩ = some (.int .i64 a0_1) := (blk_cell (BX.out.get 0 rfl) 1).trans rfl
     have hfz9_0 := blk_frozen (BX.out.get 0 rfl) 0
     have hfz9_1 := blk_frozen (BX.out.get 0 rfl) 1
     go_wp2
     go_meet
     case rel => exact ⟨_, (true), (by first | rfl | (simp; done) | (simp [*]; done) | (simp [bne_nil]; done)), H', ⟨by first | omega | exact Nat.le_refl _⟩, ⟨by (with_reducible repeat (first | apply boxes_drewN | apply boxes_drew | apply boxes_alloc)); exact BX.out⟩, ⟨by repeat (first | (with_reducible first | exact HB.out | apply below_alloc | apply pw_below_drewN | apply below_drew1 | refine below_set ?_ (Aside0.out (by assumption))) | exact HB.out)⟩⟩
    ·rw [if_neg c8] at H
     have c8b0 : decide (a0_0 < (-1000000000000)) = false := decide_eq_false c8
     clear c8
     have H' := Aside0.mk H
     clear H
     have hcz10_0 : w3.cell? ⟨gb268, 0, none⟩ = some (.int .i64 a0_0) := (blk_cell (BX.out.get 0 rfl) 0).trans rfl
     have hcz10_1 : w3.cell? ⟨gb268, 1, none⟩ = some (.int .i64 a0_1) := (blk_cell (BX.out.get 0 rfl) 1).trans rfl
     have hfz10_0 := blk_frozen (BX.out.get 0 rfl) 0
     have hfz10_1 := blk_frozen (BX.out.get 0 rfl) 1
     go_wp2
     go_meet
     case rel => exact ⟨_, (decide (a0_0 > 1000000000000)), (by first | rfl | (simp; done) | (simp [*]; done) | (simp [bne_nil]; done)), H', ⟨by first | omega | exact Nat.le_refl _⟩, ⟨by (with_reducible repeat (first | apply boxes_drewN | apply boxes_drew | apply boxes_alloc)); exact BX.out⟩, ⟨by repeat (first | (with_reducible first | exact HB.out | apply below_alloc | apply pw_below_drewN | apply below_drew1 | refine below_set ?_ (Aside0.out (by assumption))) | exact HB.out)⟩⟩
 case rest =>
  clear HC2
  try clear p2
  try clear c3
  try clear c4
  try clear c4b0
  try clear c6
  try clear c6b0
  try clear c8
  try clear c8b0
  try clear hcz10_0
  try clear hcz10_1
  try clear hcz5_0
  try clear hcz5_1
  try clear hcz7_0
  try clear hcz7_1
  try clear hcz9_0
  try clear hcz9_1
  try clear hfz10_0
  try clear hfz10_1
  try clear hfz5_0
  try clear hfz5_1
  try clear hfz7_0
  try clear hfz7_1
  try clear hfz9_0
  try clear hfz9_1
  obtain ⟨kq, x23_1, rfl, HA, HJ1, BX, HB⟩ := hcut
  cases kq with
  | zero => exact absurd HA.out (by simp [whittlelaw1_right.j0])
  | succ kj1 =>
   have H := HA.out
   clear HA
   simp only [whittlelaw1_right.j0] at H
   by_cases c11 : x23_1 = true
   ·subst c11
    have H1 : (some false) = some r := by rw [if_pos rfl] at H; exact H
    clear H
    have H := H1
    clear H1
    obtain rfl := Option.some.inj H
    go_wp2
    go_ret
    exact ⟨by first | rfl | (simp [errW_none, errW_some] <;> rfl) | (simp [*, errW_none, errW_some] <;> rfl), by repeat (first | (with_reducible first | exact HB.out | apply below_alloc | apply pw_below_drewN | apply below_drew1 | refine below_set ?_ (Aside0.out (by assumption))) | exact HB.out)⟩
   ·replace c11 := Bool.eq_false_iff.mpr c11
    subst c11
    have H1 : (if a0_0 < 0 then (whittlelaw1_right.j1 kj1 (wrap64 (-a0_0)) a0_0 a0_1) else (whittlelaw1_right.j1 kj1 a0_0 a0_0 a0_1)) = some r := by rw [if_neg (show ¬ (false = true) by decide)] at H; exact H
    clear H
    have H := H1
    clear H1
    have HC12 := Aside0.mk H
    clear H
    have hcz13_0 : wc.cell? ⟨gb268, 0, none⟩ = some (.int .i64 a0_0) := (blk_cell (BX.out.get 0 rfl) 0).trans rfl
    have hcz13_1 : wc.cell? ⟨gb268, 1, none⟩ = some (.int .i64 a0_1) := (blk_cell (BX.out.get 0 rfl) 1).trans rfl
    have hfz13_0 := blk_frozen (BX.out.get 0 rfl) 0
    have hfz13_1 := blk_frozen (BX.out.get 0 rfl) 1
    go_upto_if 27 with (fail)
    go_cut [3] (fun v3 wc => ∃ (kq : Nat) (x3_11 : Int), v3 = .int .i64 x3_11 ∧ Aside0 (whittlelaw1_right.j1 kq x3_11 a0_0 a0_1 = some r) ∧ Aside0 (kq ≤ kj1) ∧ Aside0 (Boxes w.heap.size wc [(gb268, 23, #[.int .i64 a0_0, .int .i64 a0_1])]) ∧ Aside0 (Below w.heap.size w wc))
    case first =>
     have H := HC12.out
     clear HC12
     by_cases c14 : a0_0 < 0
     ·rw [if_pos c14] at H
      have c14b0 : decide (a0_0 < 0) = true := decide_eq_true c14
      clear c14
      (first | rw [c14b0] | (simp only [i64_w, i32_w]; rw [c14b0]) | skip)
      have H' := Aside0.mk H
      clear H
      go_wp2
      go_meet
      case rel => exact ⟨_, (wrap64 (-a0_0)), (by first | rfl | (simp; done) | (simp [*]; done) | (simp [bne_nil]; done)), H', ⟨by have := HJ1.out; first | omega | exact Nat.le_refl _⟩, ⟨by (with_reducible repeat (first | apply boxes_drewN | apply boxes_drew | apply boxes_alloc)); exact BX.out⟩, ⟨by repeat (first | (with_reducible first | exact HB.out | apply below_alloc | apply pw_below_drewN | apply below_drew1 | refine below_set ?_ (Aside0.out (by assumption))) | exact HB.out)⟩⟩
     ·rw [if_neg c14] at H
      have c14b0 : decide (a0_0 < 0) = false := decide_eq_false c14
      clear c14
      (first | rw [c14b0] | (simp only [i64_w, i32_w]; rw [c14b0]) | skip)
      have H' := Aside0.mk H
      clear H
      go_wp2
      go_meet
      case rel => exact ⟨_, (a0_0), (by first | rfl | (simp; done) | (simp [*]; done) | (simp [bne_nil]; done)), H', ⟨by have := HJ1.out; first | omega | exact Nat.le_refl _⟩, ⟨by (with_reducible repeat (first | apply boxes_drewN | apply boxes_drew | apply boxes_alloc)); exact BX.out⟩, ⟨by repeat (first | (with_reducible first | exact HB.out | apply below_alloc | apply pw_below_drewN | apply below_drew1 | refine below_set ?_ (Aside0.out (by assumption))) | exact HB.out)⟩⟩
    case rest =>
     clear HC12
     try clear c1
     try clear p2
     try clear c3
     try clear c4
     try clear c4b0
     try clear c6
     try clear c6b0
     try clear p6
     try clear c8
     try clear c8b0
     try clear c11
     try clear c14
     try clear c14b0
     try clear hcz10_0
     try clear hcz10_1
     try clear hcz13_0
     try clear hcz13_1
     try clear hcz5_0
     try clear hcz5_1
     try clear hcz7_0
     try clear hcz7_1
     try clear hcz9_0
     try clear hcz9_1
     try clear hfz10_0
     try clear hfz10_1
     try clear hfz13_0
     try clear hfz13_1
     try clear hfz5_0
     try clear hfz5_1
     try clear hfz7_0
     try clear hfz7_1
     try clear hfz9_0
     try clear hfz9_1
     try clear p2
     obtain ⟨kq, x3_11, rfl, HA, HJ11, BX, HB⟩ := hcut
     cases kq with
     | zero => exact absurd HA.out (by simp [whittlelaw1_right.j1])
     | succ kj11 =>
      have H := HA.out
      clear HA
      simp only [whittlelaw1_right.j1] at H
      have H' := Aside0.mk H
      clear H
      have hcz15_0 : wc.cell? ⟨gb268, 0, none⟩ = some (.int .i64 a0_0) := (blk_cell (BX.out.get 0 rfl) 0).trans rfl
      have hcz15_1 : wc.cell? ⟨gb268, 1, none⟩ = some (.int .i64 a0_1) := (blk_cell (BX.out.get 0 rfl) 1).trans rfl
      have hfz15_0 := blk_frozen (BX.out.get 0 rfl) 0
      have hfz15_1 := blk_frozen (BX.out.get 0 rfl) 1
      go_wp2
      go_loopg [3, 4] kj11 (fun kq v3 v4 w' => ∃ (x3_3 : Int) (x4_3 : Int), v3 = .int .i64 x3_3 ∧ v4 = .int .i64 x4_3 ∧ Aside0 (whittlelaw1_right.l0 kq x3_3 x4_3 = some r) ∧ Aside0 (kq ≤ kj11) ∧ Aside0 (Boxes w.heap.size w' [(gb268, 23, #[.int .i64 a0_0, .int .i64 a0_1])]) ∧ Aside0 (Below w.heap.size w w'))
      case atStart => exact ⟨(x3_11), (a0_1), (by first | rfl | (simp; done) | (simp [*]; done) | (simp [bne_nil]; done)), (by first | rfl | (simp; done) | (simp [*]; done) | (simp [bne_nil]; done)), H', ⟨Nat.le_refl _⟩, ⟨by (with_reducible repeat (first | apply boxes_drewN | apply boxes_drew | apply boxes_alloc)); exact BX.out⟩, ⟨by repeat (first | (with_reducible first | exact HB.out | apply below_alloc | apply pw_below_drewN | apply below_drew1 | refine below_set ?_ (Aside0.out (by assumption))) | exact HB.out)⟩⟩
      case round =>
       clear H'
       try clear c1
       try clear p2
       try clear c3
       try clear c4
       try clear c4b0
       try clear c6
       try clear c6b0
       try clear p6
       try clear c8
       try clear c8b0
       try clear c11
       try clear c14
       try clear c14b0
       try clear hcz10_0
       try clear hcz10_1
       try clear hcz13_0
       try clear hcz13_1
       try clear hcz15_0
       try clear hcz15_1
       try clear hcz5_0
       try clear hcz5_1
       try clear hcz7_0
       try clear hcz7_1
       try clear hcz9_0
       try clear hcz9_1
       try clear hfz10_0
       try clear hfz10_1
       try clear hfz13_0
       try clear hfz13_1
       try clear hfz15_0
       try clear hfz15_1
       try clear hfz5_0
       try clear hfz5_1
       try clear hfz7_0
       try clear hfz7_1
       try clear hfz9_0
       try clear hfz9_1
       try clear p2
       try clear p6
       obtain ⟨x3_3, x4_3, rfl, rfl, HA, HK3, BX, HB⟩ := hrel
       cases gk with
       | zero => exact absurd HA.out (by simp [whittlelaw1_right.l0])
       | succ k3 =>
        have H := HA.out
        clear HA
        simp only [whittlelaw1_right.l0] at H
        by_cases c16 : x3_3 = 0
        ·rw [if_pos c16] at H
         have c16b0 : (x3_3 == 0) = true := beq_iff_eq.mpr c16
         have c16b1 : (x3_3 != 0) = false := bne_eq_false_iff_eq.mpr c16
         clear c16
         obtain rfl := Option.some.inj H
         go_wp2
         go_ret
         exact ⟨by first | rfl | (simp [errW_none, errW_some] <;> rfl) | (simp [*, errW_none, errW_some] <;> rfl), by repeat (first | (with_reducible first | exact HB.out | apply below_alloc | apply pw_below_drewN | apply below_drew1 | refine below_set ?_ (Aside0.out (by assumption))) | exact HB.out)⟩
        ·rw [if_neg c16] at H
         have c16b0 : (x3_3 == 0) = false := beq_eq_false_iff_ne.mpr c16
         have c16b1 : (x3_3 != 0) = true := bne_iff_ne.mpr c16
         have H' := Aside0.mk H
         clear H
         go_wp2
         go_roundg k3
         case measure => have := HJ1.out; have := HJ11.out; have := HK3.out; omega
         case rel => exact ⟨(Int.tmod x4_3 x3_3), (x3_3), (by first | rfl | (simp; done) | (simp [*]; done) | (simp [bne_nil]; done)), (by first | rfl | (simp; done) | (simp [*]; done) | (simp [bne_nil]; done)), H', ⟨by have := HJ1.out; have := HJ11.out; have := HK3.out; omega⟩, ⟨by (with_reducible repeat (first | apply boxes_drewN | apply boxes_drew | apply boxes_alloc)); exact BX.out⟩, ⟨by repeat (first | (with_reducible first | exact HB.out | apply below_alloc | apply pw_below_drewN | apply below_drew1 | refine below_set ?_ (Aside0.out (by assumption))) | exact HB.out)⟩⟩

/-! ### whittlelaw1_zero: function 32 -/
def whittlelaw1_zero.f  : Option (Int × Int) := some (0, 1)
set_option maxHeartbeats 8000000 in
set_option maxRecDepth 100000 in
theorem whittlelaw1_zero.calls  (r1 : Int) (r2 : Int) (w : World) (h : whittlelaw1_zero.f  = some (r1, r2)) :
  Calls Tryd.prog 32 #[] w fun e w' => e = .returned (.agg #[.int .i64 r1, .int .i64 r2]) ∧ Below w.heap.size w w' := by
 have hu23 := Tryd.underlying23
 have HB := Aside0.mk (Below.refl w.heap.size w)
 have H : (some (0, 1)) = some (r1, r2) := h
 clear h
 simp only [Option.some.injEq, Prod.mk.injEq] at H
 obtain ⟨rfl, rfl⟩ := H
 go_enter Tryd.func32, Tryd.ntmps32
 go_wp2_with (first | ((with_reducible refine gate_dst (N := 0) rfl ?_); refine box_event ?hg (N := 0) ?hd (cs := #[.int .i64 0, .int .i64 0]) (t := 23) ?hr ?_; (case hd => rfl); (case hg => rfl); (case hr => first | (go_simp; done) | (go_simp; rfl)); intro gb269 hg w1 hbox hb; have n0_ := Aside0.mk (Boxes.new (b := w.heap.size) (L := []) trivial hg hbox hb (below_size (by repeat (first | (with_reducible first | exact HB.out | apply below_alloc | apply pw_below_drewN | apply below_drew1 | refine below_set ?_ (Aside0.out (by assumption))) | exact HB.out)))); have n1_ := Aside0.mk (below_step (by repeat (first | (with_reducible first | exact HB.out | apply below_alloc | apply pw_below_drewN | apply below_drew1 | refine below_set ?_ (Aside0.out (by assumption))) | exact HB.out)) hb); have n2_ := Aside0.mk ((by rw [hg]; exact (below_size (by repeat (first | (with_reducible first | exact HB.out | apply below_alloc | apply pw_below_drewN | apply below_drew1 | refine below_set ?_ (Aside0.out (by assumption))) | exact HB.out))) : w.heap.size ≤ gb269)); clear HB; have BX := n0_; have HB := n1_; have GE269 := n2_; clear n0_ n1_ n2_; clear hb hbox hg; have hcz2_0 : w1.cell? ⟨gb269, 0, none⟩ = some (.int .i64 0) := (blk_cell (BX.out.get 0 rfl) 0).trans rfl; have hcz2_1 : w1.cell? ⟨gb269, 1, none⟩ = some (.int .i64 0) := (blk_cell (BX.out.get 0 rfl) 1).trans rfl; have hfz2_0 := blk_frozen (BX.out.get 0 rfl) 0; have hfz2_1 := blk_frozen (BX.out.get 0 rfl) 1))
 refine bodyPost_ret (results_cell_row rfl _ _ gb269 23 #[.int .i64 0, .int .i64 1] (0, 0) _ rfl (by (with_reducible repeat (first | refine blk_drewN ?_ _ | refine blk_drew ?_ | refine blk_alloc ?_ _)); refine blk_put (cs := #[.int .i64 0, .int .i64 0]) ?_ 1 _ rfl; (with_reducible repeat (first | refine blk_drewN ?_ _ | refine blk_drew ?_ | refine blk_alloc ?_ _)); refine blk_put (cs := #[.int .i64 0, .int .i64 0]) ?_ 0 _ rfl; (with_reducible repeat (first | refine blk_drewN ?_ _ | refine blk_drew ?_ | refine blk_alloc ?_ _)); exact (BX.out.get 0 rfl)) Tryd.underlying23 rfl (by kernel_rfl)) rfl ?_
 exact ⟨by first | rfl | (simp [errW_none, errW_some] <;> rfl) | (simp [*, errW_none, errW_some] <;> rfl), by repeat (first | (with_reducible first | exact HB.out | apply below_alloc | apply pw_below_drewN | apply below_drew1 | refine below_set ?_ (Aside0.out (by assumption))) | exact HB.out)⟩

end Go.Proofs.YtlcjfabbnclalaaDoor.F
