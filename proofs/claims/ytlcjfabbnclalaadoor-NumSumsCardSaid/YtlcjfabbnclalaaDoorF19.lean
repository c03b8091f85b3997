-- Laid by program (wip/tools/gen.sh of this repo) out of the translation; Lean checks it.
import Derived.Test.YtlcjfabbnclalaaDoorF0
import Derived.Test.YtlcjfabbnclalaaDoorB0
import Derived.Test.YtlcjfabbnclalaaDoorF5
namespace Go.Proofs.YtlcjfabbnclalaaDoor.F
open Go.RowKit Go.Proofs.YtlcjfabbnclalaaDoorW.PrintWords Go.Proofs.YtlcjfabbnclalaaDoorW.PrintLast Go.Proofs.YtlcjfabbnclalaaDoorW.PrintMore
attribute [local go_sem] max2_int min2_int max_two min_two max_three min_three max_four min_four   -- for this text's walks alone
set_option linter.unusedVariables false
set_option linter.unusedSimpArgs false

/-! ### num_Sum: function 37 -/
def num_Sum.l0 : Nat → List (S23) → Int → Int → Int → Int → Option (Int × Int × Bool)
 | 0, _, _, _, _, _ => none
 | k + 1, x9, x10, x11, x349000, x349001 => if x11 < x10 then (if 0 ≤ x11 then (if x11 < (x9.length : Int) then ((num_Add.f k x349000 x349001 ((rd_T23 x9 x11).f0) ((rd_T23 x9 x11).f1)).bind fun bt351 => (if bt351.2.2 = true then (num_Sum.l0 k x9 x10 (wrap64 (x11 + 1)) bt351.1 bt351.2.1) else (some (0, 0, false)))) else (none)) else (none)) else (some (x349000, x349001, true))
def num_Sum.f (k : Nat) (l0 : List (S23)) : Option (Int × Int × Bool) := num_Sum.l0 k l0 (l0.length : Int) 0 0 1
theorem num_Sum.mono_l : ∀ k, (∀ y0 y1 y2 y3 y4, LeO (num_Sum.l0 k y0 y1 y2 y3 y4) (num_Sum.l0 (k + 1) y0 y1 y2 y3 y4))
 | 0 => fun _ _ _ _ _ r h => by simp [num_Sum.l0] at h
 | k + 1 => by
  have ih0 := num_Sum.mono_l k
  ·intro y0 y1 y2 y3 y4
   unfold num_Sum.l0
   repeat' first
   | (with_reducible exact ih0 _ _ _ _ _)
   | (with_reducible exact num_Add.mono _ _ _ _ _)
   | (with_reducible exact LeO.refl _)
   | (with_reducible exact LeO.none _)
   | (with_reducible refine LeO.ite ?_ ?_)
   | (with_reducible refine LeO.bind ?_ (fun _ => ?_))
   | exact ih0 _ _ _ _ _
   | exact num_Add.mono _ _ _ _ _
   | exact LeO.none _
   | refine LeO.ite ?_ ?_
   | refine LeO.bind ?_ (fun _ => ?_)
theorem num_Sum.mono : ∀ a0 k, LeO (num_Sum.f k a0) (num_Sum.f (k + 1) a0) := by
 intro a0 k
 have ih0 := num_Sum.mono_l k
 unfold num_Sum.f
 repeat' first
   | (with_reducible exact ih0 _ _ _ _ _)
   | (with_reducible exact num_Add.mono _ _ _ _ _)
   | (with_reducible exact LeO.refl _)
   | (with_reducible exact LeO.none _)
   | (with_reducible refine LeO.ite ?_ ?_)
   | (with_reducible refine LeO.bind ?_ (fun _ => ?_))
   | exact ih0 _ _ _ _ _
   | exact num_Add.mono _ _ _ _ _
   | exact LeO.none _
   | refine LeO.ite ?_ ?_
   | refine LeO.bind ?_ (fun _ => ?_)
set_option maxHeartbeats 8000000 in
set_option maxRecDepth 100000 in
theorem num_Sum.calls (k : Nat) (A0 : Option Addr) (c0 : Nat) (l0 : List (S23)) (r1 : Int) (r2 : Int) (r3 : Bool) (w : World) (hr0 : Kd.C k23 w A0 l0.length l0) (hc0 : l0.length ≤ c0) (h : num_Sum.f k l0 = some (r1, r2, r3)) :
  Calls Tryd.prog 37 #[.slice A0 l0.length c0] w fun e w' => e = .returned (.tuple #[.agg #[.int .i64 r1, .int .i64 r2], .bool r3]) ∧ Below w.heap.size w w' := by
 have hu23 := Tryd.underlying23
 have HR0 := Aside0.mk hr0
 have HC0 := Aside0.mk hc0
 clear hr0 hc0
 have HB := Aside0.mk (Below.refl w.heap.size w)
 have H : (num_Sum.l0 k l0 (l0.length : Int) 0 0 1) = some (r1, r2, r3) := h
 clear h
 have H' := Aside0.mk H
 clear H
 go_enter Tryd.func37, Tryd.ntmps37
 go_wp2_with (first | ((with_reducible refine gate_dst (N := 2) rfl ?_); refine box_event ?hg (N := 2) ?hd (cs := #[.int .i64 0, .int .i64 0]) (t := 23) ?hr ?_; (case hd => rfl); (case hg => rfl); (case hr => first | (go_simp; done) | (go_simp; rfl)); intro gb347 hg w2 hbox hb; have n0_ := Aside0.mk (Boxes.new (b := w.heap.size) (L := []) trivial hg hbox hb (below_size (by repeat (first | (with_reducible first | exact HB.out | apply below_alloc | apply pw_below_drewN | apply below_drew1 | refine below_set ?_ (Aside0.out (by assumption))) | exact HB.out)))); have n1_ := Aside0.mk (below_step (by repeat (first | (with_reducible first | exact HB.out | apply below_alloc | apply pw_below_drewN | apply below_drew1 | refine below_set ?_ (Aside0.out (by assumption))) | exact HB.out)) hb); have n2_ := Aside0.mk ((by rw [hg]; exact (below_size (by repeat (first | (with_reducible first | exact HB.out | apply below_alloc | apply pw_below_drewN | apply below_drew1 | refine below_set ?_ (Aside0.out (by assumption))) | exact HB.out))) : w.heap.size ≤ gb347)); clear HB; have BX := n0_; have HB := n1_; have GE347 := n2_; clear n0_ n1_ n2_; clear hb hbox hg) | ((with_reducible refine gate_dst (N := 4) rfl ?_); refine box_event ?hg (N := 4) ?hd (cs := #[.int .i64 0, .int .i64 0]) (t := 23) ?hr ?_; (case hd => rfl); (case hg => rfl); (case hr => first | (go_simp; done) | (go_simp; rfl)); intro gb348 hg w3 hbox hb; have n0_ := Aside0.mk (Boxes.new (by (with_reducible repeat (first | apply boxes_drewN | apply boxes_drew | apply boxes_alloc)); exact BX.out) hg hbox hb (below_size (by repeat (first | (with_reducible first | exact HB.out | apply below_alloc | apply pw_below_drewN | apply below_drew1 | refine below_set ?_ (Aside0.out (by assumption))) | exact HB.out)))); have n1_ := Aside0.mk (below_step (by repeat (first | (with_reducible first | exact HB.out | apply below_alloc | apply pw_below_drewN | apply below_drew1 | refine below_set ?_ (Aside0.out (by assumption))) | exact HB.out)) hb); have n2_ := Aside0.mk ((by rw [hg]; exact (below_size (by repeat (first | (with_reducible first | exact HB.out | apply below_alloc | apply pw_below_drewN | apply below_drew1 | refine below_set ?_ (Aside0.out (by assumption))) | exact HB.out))) : w.heap.size ≤ gb348)); clear BX HB; have BX := n0_; have HB := n1_; have GE348 := n2_; clear n0_ n1_ n2_; clear hb hbox hg; obtain ⟨⟨hnb4, hnc4⟩, -⟩ := BX.out.apart 0 rfl; have hcz5_0 : w3.cell? ⟨gb348, 0, none⟩ = some (.int .i64 0) := (blk_cell (BX.out.get 0 rfl) 0).trans rfl; have hcz5_1 : w3.cell? ⟨gb348, 1, none⟩ = some (.int .i64 0) := (blk_cell (BX.out.get 0 rfl) 1).trans rfl; have hfz5_0 := blk_frozen (BX.out.get 0 rfl) 0; have hfz5_1 := blk_frozen (BX.out.get 0 rfl) 1))
 go_loopg [11] k (fun kq v11 w' => ∃ (x11_1 : Int) (x348000_1 : Int) (x348001_1 : Int) (x349000_1 : Int) (x349001_1 : Int), v11 = .int .i64 x11_1 ∧ Aside0 (num_Sum.l0 kq l0 (l0.length : Int) x11_1 x349000_1 x349001_1 = some (r1, r2, r3)) ∧ Aside0 (kq ≤ k) ∧ Aside0 (Boxes w.heap.size w' [(gb348, 23, #[.int .i64 x349000_1, .int .i64 x349001_1]), (gb347, 23, #[.int .i64 x348000_1, .int .i64 x348001_1])]) ∧ Aside0 (Below w.heap.size w w'))
 case atStart => exact ⟨(0), (0), (0), (0), (1), (by first | rfl | (simp; done) | (simp [*]; done) | (simp [bne_nil]; done)), H', ⟨Nat.le_refl _⟩, ⟨by (with_reducible repeat (first | apply boxes_drewN | apply boxes_drew | apply boxes_alloc)); apply boxes_put 0; (with_reducible repeat (first | apply boxes_drewN | apply boxes_drew | apply boxes_alloc)); apply boxes_put 0; (with_reducible repeat (first | apply boxes_drewN | apply boxes_drew | apply boxes_alloc)); exact BX.out; (any_goals rfl)⟩, ⟨by repeat (first | (with_reducible first | exact HB.out | apply below_alloc | apply pw_below_drewN | apply below_drew1 | refine below_set ?_ (Aside0.out (by assumption))) | exact HB.out)⟩⟩
 case round =>
  clear H'
  try clear p2
  try clear c3
  try clear c4
  try clear hcz5_0
  try clear hcz5_1
  try clear hfz5_0
  try clear hfz5_1
  obtain ⟨x11_1, x348000_1, x348001_1, x349000_1, x349001_1, rfl, HA, HK1, BX, HB⟩ := hrel
  cases gk with
  | zero => exact absurd HA.out (by simp [num_Sum.l0])
  | succ k1 =>
   have H := HA.out
   clear HA
   simp only [num_Sum.l0] at H
   by_cases c6 : x11_1 < (l0.length : Int)
   ·rw [if_pos c6] at H
    have c6b0 : decide (x11_1 < (l0.length : Int)) = true := decide_eq_true c6
    clear c6
    by_cases c7 : 0 ≤ x11_1
    ·rw [if_pos c7] at H
     have c7b0 : decide (0 ≤ x11_1) = true := decide_eq_true c7
     clear c7
     by_cases c8 : x11_1 < (l0.length : Int)
     ·rw [if_pos c8] at H
      have c8b0 : decide (x11_1 < (l0.length : Int)) = true := decide_eq_true c8
      clear c8
      replace H := Option.bind_eq_some_iff.mp H
      obtain ⟨⟨t351, t352, t353⟩, A90, H⟩ := H
      replace H : (if t353 = true then (num_Sum.l0 k1 l0 (l0.length : Int) (wrap64 (x11_1 + 1)) t351 t352) else (some (0, 0, false))) = some (r1, r2, r3) := H
      have A9 := Aside0.mk A90
      clear A90
      by_cases c10 : t353 = true
      ·subst c10
       have H1 : (num_Sum.l0 k1 l0 (l0.length : Int) (wrap64 (x11_1 + 1)) t351 t352) = some (r1, r2, r3) := by rw [if_pos rfl] at H; exact H
       clear H
       have H := H1
       clear H1
       have H' := Aside0.mk H
       clear H
       have p349 : 0 ≤ (x11_1 : Int) := of_decide_eq_true (by first | (with_reducible assumption) | assumption)
       have q349 : x11_1 < (l0.length : Int) := of_decide_eq_true (by first | (with_reducible assumption) | assumption)
       obtain ⟨ad349, e349, hx349_0, hx349_1⟩ := at_T23 HR0.out x11_1 p349 q349
       cases e349
       replace hx349_0 := (HB.out.cell (World.block_lt_of_cell? w _ hx349_0)).trans hx349_0
       replace hx349_1 := (HB.out.cell (World.block_lt_of_cell? w _ hx349_1)).trans hx349_1
       replace p349 := eq_true p349
       replace q349 := eq_true q349
       go_wp2_with (first | ((with_reducible refine gate_dst (N := 7) rfl ?_); refine box_event ?hg (N := 7) ?hd (cs := #[.int .i64 0, .int .i64 0]) (t := 23) ?hr ?_; (case hd => rfl); (case hg => rfl); (case hr => first | (go_simp; done) | (go_simp; rfl)); intro gb350 hg w11 hbox hb; have n0_ := Aside0.mk (Boxes.new (by (with_reducible repeat (first | apply boxes_drewN | apply boxes_drew | apply boxes_alloc)); exact BX.out) hg hbox hb (below_size (by repeat (first | (with_reducible first | exact HB.out | apply below_alloc | apply pw_below_drewN | apply below_drew1 | refine below_set ?_ (Aside0.out (by assumption))) | exact HB.out)))); have n1_ := Aside0.mk (below_step (by repeat (first | (with_reducible first | exact HB.out | apply below_alloc | apply pw_below_drewN | apply below_drew1 | refine below_set ?_ (Aside0.out (by assumption))) | exact HB.out)) hb); have n2_ := Aside0.mk ((by rw [hg]; exact (below_size (by repeat (first | (with_reducible first | exact HB.out | apply below_alloc | apply pw_below_drewN | apply below_drew1 | refine below_set ?_ (Aside0.out (by assumption))) | exact HB.out))) : w.heap.size ≤ gb350)); clear BX HB; have BX := n0_; have HB := n1_; have GE350 := n2_; clear n0_ n1_ n2_; clear hb hbox hg; obtain ⟨⟨hnb13, hnc13⟩, ⟨hnb12, hnc12⟩, -⟩ := BX.out.apart 0 rfl; have hcz14_0 : w11.cell? ⟨gb350, 0, none⟩ = some (.int .i64 0) := (blk_cell (BX.out.get 0 rfl) 0).trans rfl; have hcz14_1 : w11.cell? ⟨gb350, 1, none⟩ = some (.int .i64 0) := (blk_cell (BX.out.get 0 rfl) 1).trans rfl; have hfz14_0 := blk_frozen (BX.out.get 0 rfl) 0; have hfz14_1 := blk_frozen (BX.out.get 0 rfl) 1; obtain ⟨-, ⟨hnb15, hnc15⟩, -⟩ := BX.out.apart 1 rfl; have hcz16_0 : w11.cell? ⟨gb348, 0, none⟩ = some (.int .i64 x349000_1) := (blk_cell (BX.out.get 1 rfl) 0).trans rfl; have hcz16_1 : w11.cell? ⟨gb348, 1, none⟩ = some (.int .i64 x349001_1) := (blk_cell (BX.out.get 1 rfl) 1).trans rfl; have hfz16_0 := blk_frozen (BX.out.get 1 rfl) 0; have hfz16_1 := blk_frozen (BX.out.get 1 rfl) 1) | ((with_reducible refine gate_callee (f := 33) rfl ?_); refine goesL_ (some 18) rfl rfl Tryd.func33 (by kernel_rfl) rfl #[.agg #[.int .i64 x349000_1, .int .i64 x349001_1], .agg #[.int .i64 ((rd_T23 l0 x11_1).f0), .int .i64 ((rd_T23 l0 x11_1).f1)]] rfl (by (try simp only [List.map_toArray, List.map_cons, List.map_nil]); first | done | rfl | (simp only [List.length_drop, List.length_take]; rfl)) ?_; (with_reducible refine (num_Add.calls k1 x349000_1 x349001_1 ((rd_T23 l0 x11_1).f0) ((rd_T23 l0 x11_1).f1) t351 t352 true _ A9.out).mono ?_); rintro e w17 ⟨rfl, hb⟩; refine ⟨_, rfl, ?_⟩; have n0_ : Aside0 (Boxes w.heap.size _ ((gb350, 23, #[.int .i64 ((rd_T23 l0 x11_1).f0), .int .i64 ((rd_T23 l0 x11_1).f1)]) :: _)) := ⟨Boxes.below (by (with_reducible repeat (first | apply boxes_drewN | apply boxes_drew | apply boxes_alloc)); apply boxes_put 0; (with_reducible repeat (first | apply boxes_drewN | apply boxes_drew | apply boxes_alloc)); apply boxes_put 0; (with_reducible repeat (first | apply boxes_drewN | apply boxes_drew | apply boxes_alloc)); exact BX.out; (any_goals rfl)) hb⟩; have n1_ := Aside0.mk (below_step (by repeat (first | (with_reducible first | exact HB.out | apply below_alloc | apply pw_below_drewN | apply below_drew1 | refine below_set ?_ (Aside0.out (by assumption))) | exact HB.out)) hb); clear BX HB; have BX := n0_; have HB := n1_; clear n0_ n1_; (try clear hb); (try clear hb2); (try clear hk); (try clear hi); have hcz18_0 : w17.cell? ⟨gb348, 0, none⟩ = some (.int .i64 x349000_1) := (blk_cell (BX.out.get 1 rfl) 0).trans rfl; have hcz18_1 : w17.cell? ⟨gb348, 1, none⟩ = some (.int .i64 x349001_1) := (blk_cell (BX.out.get 1 rfl) 1).trans rfl; have hfz18_0 := blk_frozen (BX.out.get 1 rfl) 0; have hfz18_1 := blk_frozen (BX.out.get 1 rfl) 1))
       go_roundg k1
       case measure => have := HK1.out; omega
       case rel => exact ⟨(wrap64 (x11_1 + 1)), (x348000_1), (x348001_1), (t351), (t352), (by first | rfl | (simp; done) | (simp [*]; done) | (simp [bne_nil]; done)), H', ⟨by have := HK1.out; omega⟩, ⟨by apply boxes_sub; (with_reducible repeat (first | apply boxes_drewN | apply boxes_drew | apply boxes_alloc)); apply boxes_put 1; (with_reducible repeat (first | apply boxes_drewN | apply boxes_drew | apply boxes_alloc)); apply boxes_put 1; (with_reducible repeat (first | apply boxes_drewN | apply boxes_drew | apply boxes_alloc)); exact BX.out; (any_goals rfl); repeat first | exact SubB.nil | apply SubB.same | apply SubB.skip⟩, ⟨by repeat (first | (with_reducible first | exact HB.out | apply below_alloc | apply pw_below_drewN | apply below_drew1 | refine below_set ?_ (Aside0.out (by assumption))) | exact HB.out)⟩⟩
      ·replace c10 := Bool.eq_false_iff.mpr c10
       subst c10
       have H1 : (some (0, 0, false)) = some (r1, r2, r3) := by rw [if_neg (show ¬ (false = true) by decide)] at H; exact H
       clear H
       have H := H1
       clear H1
       simp only [Option.some.injEq, Prod.mk.injEq] at H
       obtain ⟨rfl, rfl, rfl⟩ := H
       have p349 : 0 ≤ (x11_1 : Int) := of_decide_eq_true (by first | (with_reducible assumption) | assumption)
       have q349 : x11_1 < (l0.length : Int) := of_decide_eq_true (by first | (with_reducible assumption) | assumption)
       obtain ⟨ad349, e349, hx349_0, hx349_1⟩ := at_T23 HR0.out x11_1 p349 q349
       cases e349
       replace hx349_0 := (HB.out.cell (World.block_lt_of_cell? w _ hx349_0)).trans hx349_0
       replace hx349_1 := (HB.out.cell (World.block_lt_of_cell? w _ hx349_1)).trans hx349_1
       replace p349 := eq_true p349
       replace q349 := eq_true q349
       go_wp2_with (first | ((with_reducible refine gate_dst (N := 7) rfl ?_); refine box_event ?hg (N := 7) ?hd (cs := #[.int .i64 0, .int .i64 0]) (t := 23) ?hr ?_; (case hd => rfl); (case hg => rfl); (case hr => first | (go_simp; done) | (go_simp; rfl)); intro gb350 hg w19 hbox hb; have n0_ := Aside0.mk (Boxes.new (by (with_reducible repeat (first | apply boxes_drewN | apply boxes_drew | apply boxes_alloc)); exact BX.out) hg hbox hb (below_size (by repeat (first | (with_reducible first | exact HB.out | apply below_alloc | apply pw_below_drewN | apply below_drew1 | refine below_set ?_ (Aside0.out (by assumption))) | exact HB.out)))); have n1_ := Aside0.mk (below_step (by repeat (first | (with_reducible first | exact HB.out | apply below_alloc | apply pw_below_drewN | apply below_drew1 | refine below_set ?_ (Aside0.out (by assumption))) | exact HB.out)) hb); have n2_ := Aside0.mk ((by rw [hg]; exact (below_size (by repeat (first | (with_reducible first | exact HB.out | apply below_alloc | apply pw_below_drewN | apply below_drew1 | refine below_set ?_ (Aside0.out (by assumption))) | exact HB.out))) : w.heap.size ≤ gb350)); clear BX HB; have BX := n0_; have HB := n1_; have GE350 := n2_; clear n0_ n1_ n2_; clear hb hbox hg; obtain ⟨⟨hnb21, hnc21⟩, ⟨hnb20, hnc20⟩, -⟩ := BX.out.apart 0 rfl; have hcz22_0 : w19.cell? ⟨gb350, 0, none⟩ = some (.int .i64 0) := (blk_cell (BX.out.get 0 rfl) 0).trans rfl; have hcz22_1 : w19.cell? ⟨gb350, 1, none⟩ = some (.int .i64 0) := (blk_cell (BX.out.get 0 rfl) 1).trans rfl; have hfz22_0 := blk_frozen (BX.out.get 0 rfl) 0; have hfz22_1 := blk_frozen (BX.out.get 0 rfl) 1; obtain ⟨-, ⟨hnb23, hnc23⟩, -⟩ := BX.out.apart 1 rfl; have hcz24_0 : w19.cell? ⟨gb348, 0, none⟩ = some (.int .i64 x349000_1) := (blk_cell (BX.out.get 1 rfl) 0).trans rfl; have hcz24_1 : w19.cell? ⟨gb348, 1, none⟩ = some (.int .i64 x349001_1) := (blk_cell (BX.out.get 1 rfl) 1).trans rfl; have hfz24_0 := blk_frozen (BX.out.get 1 rfl) 0; have hfz24_1 := blk_frozen (BX.out.get 1 rfl) 1) | ((with_reducible refine gate_callee (f := 33) rfl ?_); refine goesL_ (some 18) rfl rfl Tryd.func33 (by kernel_rfl) rfl #[.agg #[.int .i64 x349000_1, .int .i64 x349001_1], .agg #[.int .i64 ((rd_T23 l0 x11_1).f0), .int .i64 ((rd_T23 l0 x11_1).f1)]] rfl (by (try simp only [List.map_toArray, List.map_cons, List.map_nil]); first | done | rfl | (simp only [List.length_drop, List.length_take]; rfl)) ?_; (with_reducible refine (num_Add.calls k1 x349000_1 x349001_1 ((rd_T23 l0 x11_1).f0) ((rd_T23 l0 x11_1).f1) t351 t352 false _ A9.out).mono ?_); rintro e w25 ⟨rfl, hb⟩; refine ⟨_, rfl, ?_⟩; have n0_ : Aside0 (Boxes w.heap.size _ ((gb350, 23, #[.int .i64 ((rd_T23 l0 x11_1).f0), .int .i64 ((rd_T23 l0 x11_1).f1)]) :: _)) := ⟨Boxes.below (by (with_reducible repeat (first | apply boxes_drewN | apply boxes_drew | apply boxes_alloc)); apply boxes_put 0; (with_reducible repeat (first | apply boxes_drewN | apply boxes_drew | apply boxes_alloc)); apply boxes_put 0; (with_reducible repeat (first | apply boxes_drewN | apply boxes_drew | apply boxes_alloc)); exact BX.out; (any_goals rfl)) hb⟩; have n1_ := Aside0.mk (below_step (by repeat (first | (with_reducible first | exact HB.out | apply below_alloc | apply pw_below_drewN | apply below_drew1 | refine below_set ?_ (Aside0.out (by assumption))) | exact HB.out)) hb); clear BX HB; have BX := n0_; have HB := n1_; clear n0_ n1_; (try clear hb); (try clear hb2); (try clear hk); (try clear hi); have hcz26_0 : w25.cell? ⟨gb348, 0, none⟩ = some (.int .i64 x349000_1) := (blk_cell (BX.out.get 1 rfl) 0).trans rfl; have hcz26_1 : w25.cell? ⟨gb348, 1, none⟩ = some (.int .i64 x349001_1) := (blk_cell (BX.out.get 1 rfl) 1).trans rfl; have hfz26_0 := blk_frozen (BX.out.get 1 rfl) 0; have hfz26_1 := blk_frozen (BX.out.get 1 rfl) 1; have hcz27_0 : w25.cell? ⟨gb347, 0, none⟩ = some (.int .i64 x348000_1) := (blk_cell (BX.out.get 2 rfl) 0).trans rfl; have hcz27_1 : w25.cell? ⟨gb347, 1, none⟩ = some (.int .i64 x348001_1) := (blk_cell (BX.out.get 2 rfl) 1).trans rfl; have hfz27_0 := blk_frozen (BX.out.get 2 rfl) 0; have hfz27_1 := blk_frozen (BX.out.get 2 rfl) 1))
       refine bodyPost_ret (results_ct rfl _ _ gb347 23 #[.int .i64 0, .int .i64 0] (0, 0) _ rfl (by (with_reducible repeat (first | refine blk_drewN ?_ _ | refine blk_drew ?_ | refine blk_alloc ?_ _)); refine blk_put (cs := #[.int .i64 0, .int .i64 x348001_1]) ?_ 1 _ rfl; (with_reducible repeat (first | refine blk_drewN ?_ _ | refine blk_drew ?_ | refine blk_alloc ?_ _)); refine blk_put (cs := #[.int .i64 x348000_1, .int .i64 x348001_1]) ?_ 0 _ rfl; (with_reducible repeat (first | refine blk_drewN ?_ _ | refine blk_drew ?_ | refine blk_alloc ?_ _)); refine blk_far ?_ (BX.out.ne 2 1 rfl rfl (by decide)) _; (with_reducible repeat (first | refine blk_drewN ?_ _ | refine blk_drew ?_ | refine blk_alloc ?_ _)); refine blk_far ?_ (BX.out.ne 2 1 rfl rfl (by decide)) _; (with_reducible repeat (first | refine blk_drewN ?_ _ | refine blk_drew ?_ | refine blk_alloc ?_ _)); exact (BX.out.get 2 rfl)) Tryd.underlying23 rfl (by kernel_rfl)) rfl ?_
       exact ⟨by first | rfl | (simp [errW_none, errW_some] <;> rfl) | (simp [*, errW_none, errW_some] <;> rfl), by repeat (first | (with_reducible first | exact HB.out | apply below_alloc | apply pw_below_drewN | apply below_drew1 | refine below_set ?_ (Aside0.out (by assumption))) | exact HB.out)⟩
     ·rw [if_neg c8] at H
      exact absurd H (by simp)
    ·rw [if_neg c7] at H
     exact absurd H (by simp)
   ·rw [if_neg c6] at H
    have c6b0 : decide (x11_1 < (l0.length : Int)) = false := decide_eq_false c6
    clear c6
    simp only [Option.some.injEq, Prod.mk.injEq] at H
    obtain ⟨rfl, rfl, rfl⟩ := H
    obtain ⟨⟨hnb28, hnc28⟩, -⟩ := BX.out.apart 0 rfl
    have hcz29_0 : wr.cell? ⟨gb348, 0, none⟩ = some (.int .i64 x349000_1) := (blk_cell (BX.out.get 0 rfl) 0).trans rfl
    have hcz29_1 : wr.cell? ⟨gb348, 1, none⟩ = some (.int .i64 x349001_1) := (blk_cell (BX.out.get 0 rfl) 1).trans rfl
    have hfz29_0 := blk_frozen (BX.out.get 0 rfl) 0
    have hfz29_1 := blk_frozen (BX.out.get 0 rfl) 1
    have hcz30_0 : wr.cell? ⟨gb347, 0, none⟩ = some (.int .i64 x348000_1) := (blk_cell (BX.out.get 1 rfl) 0).trans rfl
    have hcz30_1 : wr.cell? ⟨gb347, 1, none⟩ = some (.int .i64 x348001_1) := (blk_cell (BX.out.get 1 rfl) 1).trans rfl
    have hfz30_0 := blk_frozen (BX.out.get 1 rfl) 0
    have hfz30_1 := blk_frozen (BX.out.get 1 rfl) 1
    go_wp2
    refine bodyPost_ret (results_ct rfl _ _ gb347 23 #[.int .i64 x349000_1, .int .i64 x349001_1] (0, 0) _ rfl (by (with_reducible repeat (first | refine blk_drewN ?_ _ | refine blk_drew ?_ | refine blk_alloc ?_ _)); refine blk_put (cs := #[.int .i64 x349000_1, .int .i64 x348001_1]) ?_ 1 _ rfl; (with_reducible repeat (first | refine blk_drewN ?_ _ | refine blk_drew ?_ | refine blk_alloc ?_ _)); refine blk_put (cs := #[.int .i64 x348000_1, .int .i64 x348001_1]) ?_ 0 _ rfl; (with_reducible repeat (first | refine blk_drewN ?_ _ | refine blk_drew ?_ | refine blk_alloc ?_ _)); exact (BX.out.get 1 rfl)) Tryd.underlying23 rfl (by kernel_rfl)) rfl ?_
    exact ⟨by first | rfl | (simp [errW_none, errW_some] <;> rfl) | (simp [*, errW_none, errW_some] <;> rfl), by repeat (first | (with_reducible first | exact HB.out | apply below_alloc | apply pw_below_drewN | apply below_drew1 | refine below_set ?_ (Aside0.out (by assumption))) | exact HB.out)⟩

end Go.Proofs.YtlcjfabbnclalaaDoor.F
