-- Laid by program (wip/tools/genv.sh, pack.py, merge.py of this repo) out of the translation; Lean checks it.
import Derived.Test.YtmakkdlkgfgaoaaGreatDoorF0
import Derived.Test.YtmakkdlkgfgaoaaGreatDoorC0
import Derived.Test.YtmakkdlkgfgaoaaGreatDoorF106
import Derived.Test.YtmakkdlkgfgaoaaGreatDoorF108
namespace Go.Proofs.YtmakkdlkgfgaoaaGreatDoor.F
open Go.RowKit Go.Proofs.YtmakkdlkgfgaoaaGreatDoorW.PrintWords Go.Proofs.YtmakkdlkgfgaoaaGreatDoorW.PrintLast Go.Proofs.YtmakkdlkgfgaoaaGreatDoorW.PrintMore
attribute [local go_sem] max2_int min2_int max_two min_two max_three min_three max_four min_four
attribute [local go_sem high] bx_cell bx_frozen
set_option linter.unusedVariables false
set_option linter.unusedSimpArgs false

section
/-! ### whittleref2_as: function 53 -/
def whittleref2_as.f (a0_0 : Int) (a0_1 : Int) (a0_2 : Int) (a0_3 : ByteArray) (a0_4 : Bool) (a0_5 : Int) (a1 : Int) : Option (Int × Int × Int × ByteArray × Bool × Int) := if a0_0 = 0 then (if a1 = 1 then (some (1, 0, 1, (⟨#[]⟩ : ByteArray), false, 0)) else (if a1 = 2 then (some (a1, 0, 0, (⟨#[]⟩ : ByteArray), false, 0)) else (if a1 = 3 then (some (a1, 0, 0, (⟨#[]⟩ : ByteArray), false, 0)) else (some (a0_0, a0_1, a0_2, a0_3, a0_4, a0_5))))) else (some (a0_0, a0_1, a0_2, a0_3, a0_4, a0_5))
set_option maxHeartbeats 8000000 in
set_option maxRecDepth 100000 in
theorem whittleref2_as.calls (a0_0 : Int) (a0_1 : Int) (a0_2 : Int) (a0_3 : ByteArray) (a0_4 : Bool) (a0_5 : Int) (a1 : Int) (r1 : Int) (r2 : Int) (r3 : Int) (r4 : ByteArray) (r5 : Bool) (r6 : Int) (w : World) (h : whittleref2_as.f a0_0 a0_1 a0_2 a0_3 a0_4 a0_5 a1 = some (r1, r2, r3, r4, r5, r6)) :
  Calls Tryz.prog 53 #[.agg #[.int .i64 a0_0, .int .i64 a0_1, .int .i64 a0_2, .string a0_3, .bool a0_4, .int .i64 a0_5], .int .i64 a1] w fun e w' => e = .returned (.agg #[.int .i64 r1, .int .i64 r2, .int .i64 r3, .string r4, .bool r5, .int .i64 r6]) ∧ Below w.heap.size w w' := by
 have hu25 := Tryz.underlying25
 have hu23 := Tryz.underlying23
 have BX := Bx.start w
 have H : (if a0_0 = 0 then (if a1 = 1 then (some (1, 0, 1, (⟨#[]⟩ : ByteArray), false, 0)) else (if a1 = 2 then (some (a1, 0, 0, (⟨#[]⟩ : ByteArray), false, 0)) else (if a1 = 3 then (some (a1, 0, 0, (⟨#[]⟩ : ByteArray), false, 0)) else (some (a0_0, a0_1, a0_2, a0_3, a0_4, a0_5))))) else (some (a0_0, a0_1, a0_2, a0_3, a0_4, a0_5))) = some (r1, r2, r3, r4, r5, r6) := h
 clear h
 by_cases c3 : a0_0 = 0
 ·rw [if_pos c3] at H
  have c3b0 : (a0_0 == 0) = true := beq_iff_eq.mpr c3
  have c3b1 : (a0_0 != 0) = false := bne_eq_false_iff_eq.mpr c3
  clear c3
  by_cases c4 : a1 = 1
  ·rw [if_pos c4] at H
   have c4b0 : (a1 == 1) = true := beq_iff_eq.mpr c4
   have c4b1 : (a1 != 1) = false := bne_eq_false_iff_eq.mpr c4
   clear c4
   simp only [Option.some.injEq, Prod.mk.injEq] at H
   obtain ⟨rfl, rfl, rfl, rfl, rfl, rfl⟩ := H
   go_enter Tryz.func53, Tryz.ntmps53
   go_wp2_with (first | ((with_reducible refine gate_dst (N := 2) rfl ?_); refine bxe 2 #[.int .i64 a0_0, .int .i64 a0_1, .int .i64 a0_2, .string a0_3, .bool a0_4, .int .i64 a0_5] 25 rfl rfl gr ?_; clear BX; intro gb624 w5 GE624 BX) | ((with_reducible refine gate_dst (N := 4) rfl ?_); refine bxe 4 #[.int .i64 0, .int .i64 0, .int .i64 0, .string (⟨#[]⟩ : ByteArray), .bool false, .int .i64 0] 25 rfl rfl gr ?_; clear BX; intro gb625 w6 GE625 BX))
   refine bodyPost_ret (results_cell_row rfl _ _ gb625 25 #[.int .i64 1, .int .i64 0, .int .i64 1, .string (⟨#[]⟩ : ByteArray), .bool false, .int .i64 0] (0, 0) _ rfl bx_get Tryz.underlying25 rfl kr) rfl ?_
   exact ⟨er2, bx_bl⟩
  ·rw [if_neg c4] at H
   have c4b0 : (a1 == 1) = false := beq_eq_false_iff_ne.mpr c4
   have c4b1 : (a1 != 1) = true := bne_iff_ne.mpr c4
   by_cases c10 : a1 = 2
   ·rw [if_pos c10] at H
    have c10b0 : (a1 == 2) = true := beq_iff_eq.mpr c10
    have c10b1 : (a1 != 2) = false := bne_eq_false_iff_eq.mpr c10
    clear c10
    simp only [Option.some.injEq, Prod.mk.injEq] at H
    obtain ⟨rfl, rfl, rfl, rfl, rfl, rfl⟩ := H
    go_enter Tryz.func53, Tryz.ntmps53
    go_wp2_with (first | ((with_reducible refine gate_dst (N := 2) rfl ?_); refine bxe 2 #[.int .i64 a0_0, .int .i64 a0_1, .int .i64 a0_2, .string a0_3, .bool a0_4, .int .i64 a0_5] 25 rfl rfl gr ?_; clear BX; intro gb624 w11 GE624 BX) | ((with_reducible refine gate_dst (N := 4) rfl ?_); refine bxe 4 #[.int .i64 0, .int .i64 0, .int .i64 0, .string (⟨#[]⟩ : ByteArray), .bool false, .int .i64 0] 25 rfl rfl gr ?_; clear BX; intro gb625 w12 GE625 BX))
    refine bodyPost_ret (results_cell_row rfl _ _ gb625 25 #[.int .i64 a1, .int .i64 0, .int .i64 0, .string (⟨#[]⟩ : ByteArray), .bool false, .int .i64 0] (0, 0) _ rfl bx_get Tryz.underlying25 rfl kr) rfl ?_
    exact ⟨er2, bx_bl⟩
   ·rw [if_neg c10] at H
    have c10b0 : (a1 == 2) = false := beq_eq_false_iff_ne.mpr c10
    have c10b1 : (a1 != 2) = true := bne_iff_ne.mpr c10
    by_cases c16 : a1 = 3
    ·rw [if_pos c16] at H
     have c16b0 : (a1 == 3) = true := beq_iff_eq.mpr c16
     have c16b1 : (a1 != 3) = false := bne_eq_false_iff_eq.mpr c16
     clear c16
     simp only [Option.some.injEq, Prod.mk.injEq] at H
     obtain ⟨rfl, rfl, rfl, rfl, rfl, rfl⟩ := H
     go_enter Tryz.func53, Tryz.ntmps53
     go_wp2_with (first | ((with_reducible refine gate_dst (N := 2) rfl ?_); refine bxe 2 #[.int .i64 a0_0, .int .i64 a0_1, .int .i64 a0_2, .string a0_3, .bool a0_4, .int .i64 a0_5] 25 rfl rfl gr ?_; clear BX; intro gb624 w17 GE624 BX) | ((with_reducible refine gate_dst (N := 4) rfl ?_); refine bxe 4 #[.int .i64 0, .int .i64 0, .int .i64 0, .string (⟨#[]⟩ : ByteArray), .bool false, .int .i64 0] 25 rfl rfl gr ?_; clear BX; intro gb625 w18 GE625 BX))
     refine bodyPost_ret (results_cell_row rfl _ _ gb625 25 #[.int .i64 a1, .int .i64 0, .int .i64 0, .string (⟨#[]⟩ : ByteArray), .bool false, .int .i64 0] (0, 0) _ rfl bx_get Tryz.underlying25 rfl kr) rfl ?_
     exact ⟨er2, bx_bl⟩
    ·rw [if_neg c16] at H
     have c16b0 : (a1 == 3) = false := beq_eq_false_iff_ne.mpr c16
     have c16b1 : (a1 != 3) = true := bne_iff_ne.mpr c16
     simp only [Option.some.injEq, Prod.mk.injEq] at H
     obtain ⟨rfl, rfl, rfl, rfl, rfl, rfl⟩ := H
     go_enter Tryz.func53, Tryz.ntmps53
     go_wp2_with (first | ((with_reducible refine gate_dst (N := 2) rfl ?_); refine bxe 2 #[.int .i64 a0_0, .int .i64 a0_1, .int .i64 a0_2, .string a0_3, .bool a0_4, .int .i64 a0_5] 25 rfl rfl gr ?_; clear BX; intro gb624 w22 GE624 BX) | ((with_reducible refine gate_dst (N := 4) rfl ?_); refine bxe 4 #[.int .i64 0, .int .i64 0, .int .i64 0, .string (⟨#[]⟩ : ByteArray), .bool false, .int .i64 0] 25 rfl rfl gr ?_; clear BX; intro gb625 w23 GE625 BX))
     refine bodyPost_ret (results_cell_row rfl _ _ gb625 25 #[.int .i64 a0_0, .int .i64 a0_1, .int .i64 a0_2, .string a0_3, .bool a0_4, .int .i64 a0_5] (0, 0) _ rfl bx_get Tryz.underlying25 rfl kr) rfl ?_
     exact ⟨er2, bx_bl⟩
 ·rw [if_neg c3] at H
  have c3b0 : (a0_0 == 0) = false := beq_eq_false_iff_ne.mpr c3
  have c3b1 : (a0_0 != 0) = true := bne_iff_ne.mpr c3
  simp only [Option.some.injEq, Prod.mk.injEq] at H
  obtain ⟨rfl, rfl, rfl, rfl, rfl, rfl⟩ := H
  go_enter Tryz.func53, Tryz.ntmps53
  go_wp2_with (first | ((with_reducible refine gate_dst (N := 2) rfl ?_); refine bxe 2 #[.int .i64 a0_0, .int .i64 a0_1, .int .i64 a0_2, .string a0_3, .bool a0_4, .int .i64 a0_5] 25 rfl rfl gr ?_; clear BX; intro gb624 w27 GE624 BX) | ((with_reducible refine gate_dst (N := 4) rfl ?_); refine bxe 4 #[.int .i64 0, .int .i64 0, .int .i64 0, .string (⟨#[]⟩ : ByteArray), .bool false, .int .i64 0] 25 rfl rfl gr ?_; clear BX; intro gb625 w28 GE625 BX))
  refine bodyPost_ret (results_cell_row rfl _ _ gb625 25 #[.int .i64 a0_0, .int .i64 a0_1, .int .i64 a0_2, .string a0_3, .bool a0_4, .int .i64 a0_5] (0, 0) _ rfl bx_get Tryz.underlying25 rfl kr) rfl ?_
  exact ⟨er2, bx_bl⟩
end
section
/-! ### whittleref2_order: function 54 -/
def whittleref2_order.f (a0 : Int) (a1 : Int) : Option (Int) := if a0 < a1 then (some (-1)) else (if a0 > a1 then (some 1) else (some 0))
set_option maxHeartbeats 8000000 in
set_option maxRecDepth 100000 in
theorem whittleref2_order.calls (a0 : Int) (a1 : Int) (r : Int) (w : World) (h : whittleref2_order.f a0 a1 = some r) :
  Calls Tryz.prog 54 #[.int .i64 a0, .int .i64 a1] w fun e w' => e = .returned (.int .i64 r) ∧ Drawn0 w w' := by
 have H : (if a0 < a1 then (some (-1)) else (if a0 > a1 then (some 1) else (some 0))) = some r := h
 clear h
 by_cases c3 : a0 < a1
 ·rw [if_pos c3] at H
  have c3b0 : decide (a0 < a1) = true := decide_eq_true c3
  clear c3
  obtain rfl := Option.some.inj H
  go_enter Tryz.func54, Tryz.ntmps54
  go_wp2
  go_ret
  exact ⟨er, dr⟩
 ·rw [if_neg c3] at H
  have c3b0 : decide (a0 < a1) = false := decide_eq_false c3
  clear c3
  by_cases c4 : a0 > a1
  ·rw [if_pos c4] at H
   have c4b0 : decide (a1 < a0) = true := decide_eq_true c4
   clear c4
   obtain rfl := Option.some.inj H
   go_enter Tryz.func54, Tryz.ntmps54
   go_wp2
   go_ret
   exact ⟨er, dr⟩
  ·rw [if_neg c4] at H
   have c4b0 : decide (a1 < a0) = false := decide_eq_false c4
   clear c4
   obtain rfl := Option.some.inj H
   go_enter Tryz.func54, Tryz.ntmps54
   go_wp2
   go_ret
   exact ⟨er, dr⟩
end
section
/-! ### whittleref2_rank: function 55 -/
def whittleref2_rank.f (a0 : Int) : Option (Int) := if a0 = 1 then (some 1) else (if a0 = 2 then (some 2) else (if a0 = 3 then (some 3) else (if a0 = 4 then (some 4) else (some 0))))
set_option maxHeartbeats 8000000 in
set_option maxRecDepth 100000 in
theorem whittleref2_rank.calls (a0 : Int) (r : Int) (w : World) (h : whittleref2_rank.f a0 = some r) :
  Calls Tryz.prog 55 #[.int .i64 a0] w fun e w' => e = .returned (.int .i64 r) ∧ Drawn0 w w' := by
 have H : (if a0 = 1 then (some 1) else (if a0 = 2 then (some 2) else (if a0 = 3 then (some 3) else (if a0 = 4 then (some 4) else (some 0))))) = some r := h
 clear h
 by_cases c2 : a0 = 1
 ·rw [if_pos c2] at H
  have c2b0 : (a0 == 1) = true := beq_iff_eq.mpr c2
  have c2b1 : (a0 != 1) = false := bne_eq_false_iff_eq.mpr c2
  clear c2
  obtain rfl := Option.some.inj H
  go_enter Tryz.func55, Tryz.ntmps55
  go_wp2
  go_ret
  exact ⟨er, dr⟩
 ·rw [if_neg c2] at H
  have c2b0 : (a0 == 1) = false := beq_eq_false_iff_ne.mpr c2
  have c2b1 : (a0 != 1) = true := bne_iff_ne.mpr c2
  by_cases c3 : a0 = 2
  ·rw [if_pos c3] at H
   have c3b0 : (a0 == 2) = true := beq_iff_eq.mpr c3
   have c3b1 : (a0 != 2) = false := bne_eq_false_iff_eq.mpr c3
   clear c3
   obtain rfl := Option.some.inj H
   go_enter Tryz.func55, Tryz.ntmps55
   go_wp2
   go_ret
   exact ⟨er, dr⟩
  ·rw [if_neg c3] at H
   have c3b0 : (a0 == 2) = false := beq_eq_false_iff_ne.mpr c3
   have c3b1 : (a0 != 2) = true := bne_iff_ne.mpr c3
   by_cases c4 : a0 = 3
   ·rw [if_pos c4] at H
    have c4b0 : (a0 == 3) = true := beq_iff_eq.mpr c4
    have c4b1 : (a0 != 3) = false := bne_eq_false_iff_eq.mpr c4
    clear c4
    obtain rfl := Option.some.inj H
    go_enter Tryz.func55, Tryz.ntmps55
    go_wp2
    go_ret
    exact ⟨er, dr⟩
   ·rw [if_neg c4] at H
    have c4b0 : (a0 == 3) = false := beq_eq_false_iff_ne.mpr c4
    have c4b1 : (a0 != 3) = true := bne_iff_ne.mpr c4
    by_cases c5 : a0 = 4
    ·rw [if_pos c5] at H
     have c5b0 : (a0 == 4) = true := beq_iff_eq.mpr c5
     have c5b1 : (a0 != 4) = false := bne_eq_false_iff_eq.mpr c5
     clear c5
     obtain rfl := Option.some.inj H
     go_enter Tryz.func55, Tryz.ntmps55
     go_wp2
     go_ret
     exact ⟨er, dr⟩
    ·rw [if_neg c5] at H
     have c5b0 : (a0 == 4) = false := beq_eq_false_iff_ne.mpr c5
     have c5b1 : (a0 != 4) = true := bne_iff_ne.mpr c5
     obtain rfl := Option.some.inj H
     go_enter Tryz.func55, Tryz.ntmps55
     go_wp2
     go_ret
     exact ⟨er, dr⟩
end
section
attribute [local go_sem high] str_gtr
/-! ### whittleref2_Cmp: function 27 -/
def whittleref2_Cmp.f (k : Nat) (a0_0 : Int) (a0_1 : Int) (a0_2 : Int) (a0_3 : ByteArray) (a0_4 : Bool) (a0_5 : Int) (a1_0 : Int) (a1_1 : Int) (a1_2 : Int) (a1_3 : ByteArray) (a1_4 : Bool) (a1_5 : Int) : Option (Int) := (whittleref2_Of.f k a0_0 a0_1 a0_2 a0_3 a0_4 a0_5).bind fun bt634 => ((whittleref2_Of.f k a1_0 a1_1 a1_2 a1_3 a1_4 a1_5).bind fun bt640 => ((whittleref2_as.f bt634.1 bt634.2.1 bt634.2.2.1 bt634.2.2.2.1 bt634.2.2.2.2.1 bt634.2.2.2.2.2 bt640.1).bind fun bt646 => ((whittleref2_as.f bt640.1 bt640.2.1 bt640.2.2.1 bt640.2.2.2.1 bt640.2.2.2.2.1 bt640.2.2.2.2.2 bt634.1).bind fun bt653 => (if bt646.1 = bt653.1 then (if bt646.1 = 1 then ((whittleref1_Cmp.f k bt646.2.1 bt646.2.2.1 bt653.2.1 bt653.2.2.1).bind fun t663 => (some t663)) else (if bt646.1 = 2 then (if (Op.bytesLess bt646.2.2.2.1.toList bt653.2.2.2.1.toList) = true then (some (-1)) else (if (Op.bytesLess bt653.2.2.2.1.toList bt646.2.2.2.1.toList) = true then (some 1) else (some 0))) else (if bt646.1 = 3 then (if (bt646.2.2.2.2.1 == bt653.2.2.2.2.1) = true then (some 0) else (if bt653.2.2.2.2.1 = true then (some (-1)) else (some 1))) else ((whittleref2_order.f bt646.2.2.2.2.2 bt653.2.2.2.2.2).bind fun t664 => (some t664))))) else ((whittleref2_rank.f bt646.1).bind fun t660 => ((whittleref2_rank.f bt653.1).bind fun t661 => ((whittleref2_order.f t660 t661).bind fun t662 => (some t662))))))))
theorem whittleref2_Cmp.mono : ∀ a0 a1 a2 a3 a4 a5 a6 a7 a8 a9 a10 a11 k, LeO (whittleref2_Cmp.f k a0 a1 a2 a3 a4 a5 a6 a7 a8 a9 a10 a11) (whittleref2_Cmp.f (k + 1) a0 a1 a2 a3 a4 a5 a6 a7 a8 a9 a10 a11) := by
 intro a0 a1 a2 a3 a4 a5 a6 a7 a8 a9 a10 a11 k
 unfold whittleref2_Cmp.f
 repeat' first
   | (with_reducible exact whittleref1_Cmp.mono _ _ _ _ _)
   | (with_reducible exact whittleref2_Of.mono _ _ _ _ _ _ _)
   | (with_reducible exact LeO.refl _)
   | (with_reducible exact LeO.none _)
   | (with_reducible refine LeO.ite ?_ ?_)
   | (with_reducible refine LeO.bind ?_ (fun _ => ?_))
   | exact whittleref1_Cmp.mono _ _ _ _ _
   | exact whittleref2_Of.mono _ _ _ _ _ _ _
   | exact LeO.none _
   | refine LeO.ite ?_ ?_
   | refine LeO.bind ?_ (fun _ => ?_)
set_option maxHeartbeats 8000000 in
set_option maxRecDepth 100000 in
theorem whittleref2_Cmp.calls (k : Nat) (a0_0 : Int) (a0_1 : Int) (a0_2 : Int) (a0_3 : ByteArray) (a0_4 : Bool) (a0_5 : Int) (a1_0 : Int) (a1_1 : Int) (a1_2 : Int) (a1_3 : ByteArray) (a1_4 : Bool) (a1_5 : Int) (r : Int) (w : World) (h : whittleref2_Cmp.f k a0_0 a0_1 a0_2 a0_3 a0_4 a0_5 a1_0 a1_1 a1_2 a1_3 a1_4 a1_5 = some r) :
  Calls Tryz.prog 27 #[.agg #[.int .i64 a0_0, .int .i64 a0_1, .int .i64 a0_2, .string a0_3, .bool a0_4, .int .i64 a0_5], .agg #[.int .i64 a1_0, .int .i64 a1_1, .int .i64 a1_2, .string a1_3, .bool a1_4, .int .i64 a1_5]] w fun e w' => e = .returned (.int .i64 r) ∧ Below w.heap.size w w' := by
 have hu25 := Tryz.underlying25
 have hu23 := Tryz.underlying23
 have BX := Bx.start w
 have H : ((whittleref2_Of.f k a0_0 a0_1 a0_2 a0_3 a0_4 a0_5).bind fun bt634 => ((whittleref2_Of.f k a1_0 a1_1 a1_2 a1_3 a1_4 a1_5).bind fun bt640 => ((whittleref2_as.f bt634.1 bt634.2.1 bt634.2.2.1 bt634.2.2.2.1 bt634.2.2.2.2.1 bt634.2.2.2.2.2 bt640.1).bind fun bt646 => ((whittleref2_as.f bt640.1 bt640.2.1 bt640.2.2.1 bt640.2.2.2.1 bt640.2.2.2.2.1 bt640.2.2.2.2.2 bt634.1).bind fun bt653 => (if bt646.1 = bt653.1 then (if bt646.1 = 1 then ((whittleref1_Cmp.f k bt646.2.1 bt646.2.2.1 bt653.2.1 bt653.2.2.1).bind fun t663 => (some t663)) else (if bt646.1 = 2 then (if (Op.bytesLess bt646.2.2.2.1.toList bt653.2.2.2.1.toList) = true then (some (-1)) else (if (Op.bytesLess bt653.2.2.2.1.toList bt646.2.2.2.1.toList) = true then (some 1) else (some 0))) else (if bt646.1 = 3 then (if (bt646.2.2.2.2.1 == bt653.2.2.2.2.1) = true then (some 0) else (if bt653.2.2.2.2.1 = true then (some (-1)) else (some 1))) else ((whittleref2_order.f bt646.2.2.2.2.2 bt653.2.2.2.2.2).bind fun t664 => (some t664))))) else ((whittleref2_rank.f bt646.1).bind fun t660 => ((whittleref2_rank.f bt653.1).bind fun t661 => ((whittleref2_order.f t660 t661).bind fun t662 => (some t662))))))))) = some r := h
 clear h
 replace H := Option.bind_eq_some_iff.mp H
 obtain ⟨⟨t634, t635, t636, t637, t638, t639⟩, A30, H⟩ := H
 have A3 := Aside0.mk A30
 clear A30
 replace H := Option.bind_eq_some_iff.mp H
 obtain ⟨⟨t640, t641, t642, t643, t644, t645⟩, A40, H⟩ := H
 have A4 := Aside0.mk A40
 clear A40
 replace H := Option.bind_eq_some_iff.mp H
 obtain ⟨⟨t646, t647, t648, t649, t650, t651⟩, A50, H⟩ := H
 have A5 := Aside0.mk A50
 clear A50
 replace H := Option.bind_eq_some_iff.mp H
 obtain ⟨⟨t653, t654, t655, t656, t657, t658⟩, A60, H⟩ := H
 replace H : (if t646 = t653 then (if t646 = 1 then ((whittleref1_Cmp.f k t647 t648 t654 t655).bind fun t663 => (some t663)) else (if t646 = 2 then (if (Op.bytesLess t649.toList t656.toList) = true then (some (-1)) else (if (Op.bytesLess t656.toList t649.toList) = true then (some 1) else (some 0))) else (if t646 = 3 then (if (t650 == t657) = true then (some 0) else (if t657 = true then (some (-1)) else (some 1))) else ((whittleref2_order.f t651 t658).bind fun t664 => (some t664))))) else ((whittleref2_rank.f t646).bind fun t660 => ((whittleref2_rank.f t653).bind fun t661 => ((whittleref2_order.f t660 t661).bind fun t662 => (some t662))))) = some r := H
 have A6 := Aside0.mk A60
 clear A60
 by_cases c7 : t646 = t653
 ·rw [if_pos c7] at H
  have c7b0 : (t646 == t653) = true := beq_iff_eq.mpr c7
  have c7b1 : (t646 != t653) = false := bne_eq_false_iff_eq.mpr c7
  clear c7
  by_cases c8 : t646 = 1
  ·rw [if_pos c8] at H
   have c8b0 : (t646 == 1) = true := beq_iff_eq.mpr c8
   have c8b1 : (t646 != 1) = false := bne_eq_false_iff_eq.mpr c8
   clear c8
   replace H := Option.bind_eq_some_iff.mp H
   obtain ⟨t663, A90, H⟩ := H
   replace H : (some t663) = some r := H
   have A9 := Aside0.mk A90
   clear A90
   obtain rfl := Option.some.inj H
   go_enter Tryz.func27, Tryz.ntmps27
   go_wp2_with (first | ((with_reducible refine gate_dst (N := 2) rfl ?_); refine bxe 2 #[.int .i64 a0_0, .int .i64 a0_1, .int .i64 a0_2, .string a0_3, .bool a0_4, .int .i64 a0_5] 25 rfl rfl gr ?_; clear BX; intro gb632 w10 GE632 BX) | ((with_reducible refine gate_dst (N := 3) rfl ?_); refine bxe 3 #[.int .i64 a1_0, .int .i64 a1_1, .int .i64 a1_2, .string a1_3, .bool a1_4, .int .i64 a1_5] 25 rfl rfl gr ?_; clear BX; intro gb633 w11 GE633 BX) | (go_at_call 23; (with_reducible refine (whittleref2_Of.calls k a0_0 a0_1 a0_2 a0_3 a0_4 a0_5 t634 t635 t636 t637 t638 t639 _ A3.out).mono ?_); rintro e w14 ⟨rfl, hb⟩; replace BX := bx_call hb; clear hb) | (go_at_call 23; (with_reducible refine (whittleref2_Of.calls k a1_0 a1_1 a1_2 a1_3 a1_4 a1_5 t640 t641 t642 t643 t644 t645 _ A4.out).mono ?_); rintro e w17 ⟨rfl, hb⟩; replace BX := bx_call hb; clear hb) | (go_at_call 53; (with_reducible refine (whittleref2_as.calls t634 t635 t636 t637 t638 t639 t640 t646 t647 t648 t649 t650 t651 _ A5.out).mono ?_); rintro e w20 ⟨rfl, hb⟩; replace BX := bx_call hb; clear hb) | ((with_reducible refine gate_dst (N := 5) rfl ?_); refine bxe 5 #[.int .i64 0, .int .i64 0, .int .i64 0, .string (⟨#[]⟩ : ByteArray), .bool false, .int .i64 0] 25 rfl rfl gr ?_; clear BX; intro gb652 w21 GE652 BX) | (go_at_call 53; (with_reducible refine (whittleref2_as.calls t640 t641 t642 t643 t644 t645 t634 t653 t654 t655 t656 t657 t658 _ A6.out).mono ?_); rintro e w27 ⟨rfl, hb⟩; replace BX := bx_call hb; clear hb) | ((with_reducible refine gate_dst (N := 6) rfl ?_); refine bxe 6 #[.int .i64 0, .int .i64 0, .int .i64 0, .string (⟨#[]⟩ : ByteArray), .bool false, .int .i64 0] 25 rfl rfl gr ?_; clear BX; intro gb659 w28 GE659 BX) | (go_at_call 56; (with_reducible refine (whittleref1_Cmp.calls k t647 t648 t654 t655 t663 _ A9.out).mono ?_); rintro e w34 ⟨rfl, hb⟩; replace BX := bx_call hb; clear hb))
   repeat (go_quiet (first | ((with_reducible refine gate_dst (N := 2) rfl ?_); refine bxe 2 #[.int .i64 a0_0, .int .i64 a0_1, .int .i64 a0_2, .string a0_3, .bool a0_4, .int .i64 a0_5] 25 rfl rfl gr ?_; clear BX; intro gb632 w10 GE632 BX) | ((with_reducible refine gate_dst (N := 3) rfl ?_); refine bxe 3 #[.int .i64 a1_0, .int .i64 a1_1, .int .i64 a1_2, .string a1_3, .bool a1_4, .int .i64 a1_5] 25 rfl rfl gr ?_; clear BX; intro gb633 w11 GE633 BX) | (go_at_call 23; (with_reducible refine (whittleref2_Of.calls k a0_0 a0_1 a0_2 a0_3 a0_4 a0_5 t634 t635 t636 t637 t638 t639 _ A3.out).mono ?_); rintro e w14 ⟨rfl, hb⟩; replace BX := bx_call hb; clear hb) | (go_at_call 23; (with_reducible refine (whittleref2_Of.calls k a1_0 a1_1 a1_2 a1_3 a1_4 a1_5 t640 t641 t642 t643 t644 t645 _ A4.out).mono ?_); rintro e w17 ⟨rfl, hb⟩; replace BX := bx_call hb; clear hb) | (go_at_call 53; (with_reducible refine (whittleref2_as.calls t634 t635 t636 t637 t638 t639 t640 t646 t647 t648 t649 t650 t651 _ A5.out).mono ?_); rintro e w20 ⟨rfl, hb⟩; replace BX := bx_call hb; clear hb) | ((with_reducible refine gate_dst (N := 5) rfl ?_); refine bxe 5 #[.int .i64 0, .int .i64 0, .int .i64 0, .string (⟨#[]⟩ : ByteArray), .bool false, .int .i64 0] 25 rfl rfl gr ?_; clear BX; intro gb652 w21 GE652 BX) | (go_at_call 53; (with_reducible refine (whittleref2_as.calls t640 t641 t642 t643 t644 t645 t634 t653 t654 t655 t656 t657 t658 _ A6.out).mono ?_); rintro e w27 ⟨rfl, hb⟩; replace BX := bx_call hb; clear hb) | ((with_reducible refine gate_dst (N := 6) rfl ?_); refine bxe 6 #[.int .i64 0, .int .i64 0, .int .i64 0, .string (⟨#[]⟩ : ByteArray), .bool false, .int .i64 0] 25 rfl rfl gr ?_; clear BX; intro gb659 w28 GE659 BX) | (go_at_call 56; (with_reducible refine (whittleref1_Cmp.calls k t647 t648 t654 t655 t663 _ A9.out).mono ?_); rintro e w34 ⟨rfl, hb⟩; replace BX := bx_call hb; clear hb)); try go_wp2_with (first | ((with_reducible refine gate_dst (N := 2) rfl ?_); refine bxe 2 #[.int .i64 a0_0, .int .i64 a0_1, .int .i64 a0_2, .string a0_3, .bool a0_4, .int .i64 a0_5] 25 rfl rfl gr ?_; clear BX; intro gb632 w10 GE632 BX) | ((with_reducible refine gate_dst (N := 3) rfl ?_); refine bxe 3 #[.int .i64 a1_0, .int .i64 a1_1, .int .i64 a1_2, .string a1_3, .bool a1_4, .int .i64 a1_5] 25 rfl rfl gr ?_; clear BX; intro gb633 w11 GE633 BX) | (go_at_call 23; (with_reducible refine (whittleref2_Of.calls k a0_0 a0_1 a0_2 a0_3 a0_4 a0_5 t634 t635 t636 t637 t638 t639 _ A3.out).mono ?_); rintro e w14 ⟨rfl, hb⟩; replace BX := bx_call hb; clear hb) | (go_at_call 23; (with_reducible refine (whittleref2_Of.calls k a1_0 a1_1 a1_2 a1_3 a1_4 a1_5 t640 t641 t642 t643 t644 t645 _ A4.out).mono ?_); rintro e w17 ⟨rfl, hb⟩; replace BX := bx_call hb; clear hb) | (go_at_call 53; (with_reducible refine (whittleref2_as.calls t634 t635 t636 t637 t638 t639 t640 t646 t647 t648 t649 t650 t651 _ A5.out).mono ?_); rintro e w20 ⟨rfl, hb⟩; replace BX := bx_call hb; clear hb) | ((with_reducible refine gate_dst (N := 5) rfl ?_); refine bxe 5 #[.int .i64 0, .int .i64 0, .int .i64 0, .string (⟨#[]⟩ : ByteArray), .bool false, .int .i64 0] 25 rfl rfl gr ?_; clear BX; intro gb652 w21 GE652 BX) | (go_at_call 53; (with_reducible refine (whittleref2_as.calls t640 t641 t642 t643 t644 t645 t634 t653 t654 t655 t656 t657 t658 _ A6.out).mono ?_); rintro e w27 ⟨rfl, hb⟩; replace BX := bx_call hb; clear hb) | ((with_reducible refine gate_dst (N := 6) rfl ?_); refine bxe 6 #[.int .i64 0, .int .i64 0, .int .i64 0, .string (⟨#[]⟩ : ByteArray), .bool false, .int .i64 0] 25 rfl rfl gr ?_; clear BX; intro gb659 w28 GE659 BX) | (go_at_call 56; (with_reducible refine (whittleref1_Cmp.calls k t647 t648 t654 t655 t663 _ A9.out).mono ?_); rintro e w34 ⟨rfl, hb⟩; replace BX := bx_call hb; clear hb)))
   go_ret
   exact ⟨er2, bx_bl⟩
  ·rw [if_neg c8] at H
   have c8b0 : (t646 == 1) = false := beq_eq_false_iff_ne.mpr c8
   have c8b1 : (t646 != 1) = true := bne_iff_ne.mpr c8
   by_cases c35 : t646 = 2
   ·rw [if_pos c35] at H
    have c35b0 : (t646 == 2) = true := beq_iff_eq.mpr c35
    have c35b1 : (t646 != 2) = false := bne_eq_false_iff_eq.mpr c35
    clear c35
    by_cases c36 : (Op.bytesLess t649.toList t656.toList) = true
    ·rw [if_pos c36] at H
     have c36b0 : (Op.bytesLess t649.toList t656.toList) = true := c36
     clear c36
     obtain rfl := Option.some.inj H
     go_enter Tryz.func27, Tryz.ntmps27
     go_wp2_with (first | ((with_reducible refine gate_dst (N := 2) rfl ?_); refine bxe 2 #[.int .i64 a0_0, .int .i64 a0_1, .int .i64 a0_2, .string a0_3, .bool a0_4, .int .i64 a0_5] 25 rfl rfl gr ?_; clear BX; intro gb632 w37 GE632 BX) | ((with_reducible refine gate_dst (N := 3) rfl ?_); refine bxe 3 #[.int .i64 a1_0, .int .i64 a1_1, .int .i64 a1_2, .string a1_3, .bool a1_4, .int .i64 a1_5] 25 rfl rfl gr ?_; clear BX; intro gb633 w38 GE633 BX) | (go_at_call 23; (with_reducible refine (whittleref2_Of.calls k a0_0 a0_1 a0_2 a0_3 a0_4 a0_5 t634 t635 t636 t637 t638 t639 _ A3.out).mono ?_); rintro e w41 ⟨rfl, hb⟩; replace BX := bx_call hb; clear hb) | (go_at_call 23; (with_reducible refine (whittleref2_Of.calls k a1_0 a1_1 a1_2 a1_3 a1_4 a1_5 t640 t641 t642 t643 t644 t645 _ A4.out).mono ?_); rintro e w44 ⟨rfl, hb⟩; replace BX := bx_call hb; clear hb) | (go_at_call 53; (with_reducible refine (whittleref2_as.calls t634 t635 t636 t637 t638 t639 t640 t646 t647 t648 t649 t650 t651 _ A5.out).mono ?_); rintro e w47 ⟨rfl, hb⟩; replace BX := bx_call hb; clear hb) | ((with_reducible refine gate_dst (N := 5) rfl ?_); refine bxe 5 #[.int .i64 0, .int .i64 0, .int .i64 0, .string (⟨#[]⟩ : ByteArray), .bool false, .int .i64 0] 25 rfl rfl gr ?_; clear BX; intro gb652 w48 GE652 BX) | (go_at_call 53; (with_reducible refine (whittleref2_as.calls t640 t641 t642 t643 t644 t645 t634 t653 t654 t655 t656 t657 t658 _ A6.out).mono ?_); rintro e w54 ⟨rfl, hb⟩; replace BX := bx_call hb; clear hb) | ((with_reducible refine gate_dst (N := 6) rfl ?_); refine bxe 6 #[.int .i64 0, .int .i64 0, .int .i64 0, .string (⟨#[]⟩ : ByteArray), .bool false, .int .i64 0] 25 rfl rfl gr ?_; clear BX; intro gb659 w55 GE659 BX))
     repeat (go_quiet (first | ((with_reducible refine gate_dst (N := 2) rfl ?_); refine bxe 2 #[.int .i64 a0_0, .int .i64 a0_1, .int .i64 a0_2, .string a0_3, .bool a0_4, .int .i64 a0_5] 25 rfl rfl gr ?_; clear BX; intro gb632 w37 GE632 BX) | ((with_reducible refine gate_dst (N := 3) rfl ?_); refine bxe 3 #[.int .i64 a1_0, .int .i64 a1_1, .int .i64 a1_2, .string a1_3, .bool a1_4, .int .i64 a1_5] 25 rfl rfl gr ?_; clear BX; intro gb633 w38 GE633 BX) | (go_at_call 23; (with_reducible refine (whittleref2_Of.calls k a0_0 a0_1 a0_2 a0_3 a0_4 a0_5 t634 t635 t636 t637 t638 t639 _ A3.out).mono ?_); rintro e w41 ⟨rfl, hb⟩; replace BX := bx_call hb; clear hb) | (go_at_call 23; (with_reducible refine (whittleref2_Of.calls k a1_0 a1_1 a1_2 a1_3 a1_4 a1_5 t640 t641 t642 t643 t644 t645 _ A4.out).mono ?_); rintro e w44 ⟨rfl, hb⟩; replace BX := bx_call hb; clear hb) | (go_at_call 53; (with_reducible refine (whittleref2_as.calls t634 t635 t636 t637 t638 t639 t640 t646 t647 t648 t649 t650 t651 _ A5.out).mono ?_); rintro e w47 ⟨rfl, hb⟩; replace BX := bx_call hb; clear hb) | ((with_reducible refine gate_dst (N := 5) rfl ?_); refine bxe 5 #[.int .i64 0, .int .i64 0, .int .i64 0, .string (⟨#[]⟩ : ByteArray), .bool false, .int .i64 0] 25 rfl rfl gr ?_; clear BX; intro gb652 w48 GE652 BX) | (go_at_call 53; (with_reducible refine (whittleref2_as.calls t640 t641 t642 t643 t644 t645 t634 t653 t654 t655 t656 t657 t658 _ A6.out).mono ?_); rintro e w54 ⟨rfl, hb⟩; replace BX := bx_call hb; clear hb) | ((with_reducible refine gate_dst (N := 6) rfl ?_); refine bxe 6 #[.int .i64 0, .int .i64 0, .int .i64 0, .string (⟨#[]⟩ : ByteArray), .bool false, .int .i64 0] 25 rfl rfl gr ?_; clear BX; intro gb659 w55 GE659 BX)); try go_wp2_with (first | ((with_reducible refine gate_dst (N := 2) rfl ?_); refine bxe 2 #[.int .i64 a0_0, .int .i64 a0_1, .int .i64 a0_2, .string a0_3, .bool a0_4, .int .i64 a0_5] 25 rfl rfl gr ?_; clear BX; intro gb632 w37 GE632 BX) | ((with_reducible refine gate_dst (N := 3) rfl ?_); refine bxe 3 #[.int .i64 a1_0, .int .i64 a1_1, .int .i64 a1_2, .string a1_3, .bool a1_4, .int .i64 a1_5] 25 rfl rfl gr ?_; clear BX; intro gb633 w38 GE633 BX) | (go_at_call 23; (with_reducible refine (whittleref2_Of.calls k a0_0 a0_1 a0_2 a0_3 a0_4 a0_5 t634 t635 t636 t637 t638 t639 _ A3.out).mono ?_); rintro e w41 ⟨rfl, hb⟩; replace BX := bx_call hb; clear hb) | (go_at_call 23; (with_reducible refine (whittleref2_Of.calls k a1_0 a1_1 a1_2 a1_3 a1_4 a1_5 t640 t641 t642 t643 t644 t645 _ A4.out).mono ?_); rintro e w44 ⟨rfl, hb⟩; replace BX := bx_call hb; clear hb) | (go_at_call 53; (with_reducible refine (whittleref2_as.calls t634 t635 t636 t637 t638 t639 t640 t646 t647 t648 t649 t650 t651 _ A5.out).mono ?_); rintro e w47 ⟨rfl, hb⟩; replace BX := bx_call hb; clear hb) | ((with_reducible refine gate_dst (N := 5) rfl ?_); refine bxe 5 #[.int .i64 0, .int .i64 0, .int .i64 0, .string (⟨#[]⟩ : ByteArray), .bool false, .int .i64 0] 25 rfl rfl gr ?_; clear BX; intro gb652 w48 GE652 BX) | (go_at_call 53; (with_reducible refine (whittleref2_as.calls t640 t641 t642 t643 t644 t645 t634 t653 t654 t655 t656 t657 t658 _ A6.out).mono ?_); rintro e w54 ⟨rfl, hb⟩; replace BX := bx_call hb; clear hb) | ((with_reducible refine gate_dst (N := 6) rfl ?_); refine bxe 6 #[.int .i64 0, .int .i64 0, .int .i64 0, .string (⟨#[]⟩ : ByteArray), .bool false, .int .i64 0] 25 rfl rfl gr ?_; clear BX; intro gb659 w55 GE659 BX)))
     go_ret
     exact ⟨er2, bx_bl⟩
    ·rw [if_neg c36] at H
     have c36b0 : (Op.bytesLess t649.toList t656.toList) = false := by simpa using c36
     clear c36
     by_cases c61 : (Op.bytesLess t656.toList t649.toList) = true
     ·rw [if_pos c61] at H
      have c61b0 : (Op.bytesLess t656.toList t649.toList) = true := c61
      clear c61
      obtain rfl := Option.some.inj H
      go_enter Tryz.func27, Tryz.ntmps27
      go_wp2_with (first | ((with_reducible refine gate_dst (N := 2) rfl ?_); refine bxe 2 #[.int .i64 a0_0, .int .i64 a0_1, .int .i64 a0_2, .string a0_3, .bool a0_4, .int .i64 a0_5] 25 rfl rfl gr ?_; clear BX; intro gb632 w62 GE632 BX) | ((with_reducible refine gate_dst (N := 3) rfl ?_); refine bxe 3 #[.int .i64 a1_0, .int .i64 a1_1, .int .i64 a1_2, .string a1_3, .bool a1_4, .int .i64 a1_5] 25 rfl rfl gr ?_; clear BX; intro gb633 w63 GE633 BX) | (go_at_call 23; (with_reducible refine (whittleref2_Of.calls k a0_0 a0_1 a0_2 a0_3 a0_4 a0_5 t634 t635 t636 t637 t638 t639 _ A3.out).mono ?_); rintro e w66 ⟨rfl, hb⟩; replace BX := bx_call hb; clear hb) | (go_at_call 23; (with_reducible refine (whittleref2_Of.calls k a1_0 a1_1 a1_2 a1_3 a1_4 a1_5 t640 t641 t642 t643 t644 t645 _ A4.out).mono ?_); rintro e w69 ⟨rfl, hb⟩; replace BX := bx_call hb; clear hb) | (go_at_call 53; (with_reducible refine (whittleref2_as.calls t634 t635 t636 t637 t638 t639 t640 t646 t647 t648 t649 t650 t651 _ A5.out).mono ?_); rintro e w72 ⟨rfl, hb⟩; replace BX := bx_call hb; clear hb) | ((with_reducible refine gate_dst (N := 5) rfl ?_); refine bxe 5 #[.int .i64 0, .int .i64 0, .int .i64 0, .string (⟨#[]⟩ : ByteArray), .bool false, .int .i64 0] 25 rfl rfl gr ?_; clear BX; intro gb652 w73 GE652 BX) | (go_at_call 53; (with_reducible refine (whittleref2_as.calls t640 t641 t642 t643 t644 t645 t634 t653 t654 t655 t656 t657 t658 _ A6.out).mono ?_); rintro e w79 ⟨rfl, hb⟩; replace BX := bx_call hb; clear hb) | ((with_reducible refine gate_dst (N := 6) rfl ?_); refine bxe 6 #[.int .i64 0, .int .i64 0, .int .i64 0, .string (⟨#[]⟩ : ByteArray), .bool false, .int .i64 0] 25 rfl rfl gr ?_; clear BX; intro gb659 w80 GE659 BX))
      repeat (go_quiet (first | ((with_reducible refine gate_dst (N := 2) rfl ?_); refine bxe 2 #[.int .i64 a0_0, .int .i64 a0_1, .int .i64 a0_2, .string a0_3, .bool a0_4, .int .i64 a0_5] 25 rfl rfl gr ?_; clear BX; intro gb632 w62 GE632 BX) | ((with_reducible refine gate_dst (N := 3) rfl ?_); refine bxe 3 #[.int .i64 a1_0, .int .i64 a1_1, .int .i64 a1_2, .string a1_3, .bool a1_4, .int .i64 a1_5] 25 rfl rfl gr ?_; clear BX; intro gb633 w63 GE633 BX) | (go_at_call 23; (with_reducible refine (whittleref2_Of.calls k a0_0 a0_1 a0_2 a0_3 a0_4 a0_5 t634 t635 t636 t637 t638 t639 _ A3.out).mono ?_); rintro e w66 ⟨rfl, hb⟩; replace BX := bx_call hb; clear hb) | (go_at_call 23; (with_reducible refine (whittleref2_Of.calls k a1_0 a1_1 a1_2 a1_3 a1_4 a1_5 t640 t641 t642 t643 t644 t645 _ A4.out).mono ?_); rintro e w69 ⟨rfl, hb⟩; replace BX := bx_call hb; clear hb) | (go_at_call 53; (with_reducible refine (whittleref2_as.calls t634 t635 t636 t637 t638 t639 t640 t646 t647 t648 t649 t650 t651 _ A5.out).mono ?_); rintro e w72 ⟨rfl, hb⟩; replace BX := bx_call hb; clear hb) | ((with_reducible refine gate_dst (N := 5) rfl ?_); refine bxe 5 #[.int .i64 0, .int .i64 0, .int .i64 0, .string (⟨#[]⟩ : ByteArray), .bool false, .int .i64 0] 25 rfl rfl gr ?_; clear BX; intro gb652 w73 GE652 BX) | (go_at_call 53; (with_reducible refine (whittleref2_as.calls t640 t641 t642 t643 t644 t645 t634 t653 t654 t655 t656 t657 t658 _ A6.out).mono ?_); rintro e w79 ⟨rfl, hb⟩; replace BX := bx_call hb; clear hb) | ((with_reducible refine gate_dst (N := 6) rfl ?_); refine bxe 6 #[.int .i64 0, .int .i64 0, .int .i64 0, .string (⟨#[]⟩ : ByteArray), .bool false, .int .i64 0] 25 rfl rfl gr ?_; clear BX; intro gb659 w80 GE659 BX)); try go_wp2_with (first | ((with_reducible refine gate_dst (N := 2) rfl ?_); refine bxe 2 #[.int .i64 a0_0, .int .i64 a0_1, .int .i64 a0_2, .string a0_3, .bool a0_4, .int .i64 a0_5] 25 rfl rfl gr ?_; clear BX; intro gb632 w62 GE632 BX) | ((with_reducible refine gate_dst (N := 3) rfl ?_); refine bxe 3 #[.int .i64 a1_0, .int .i64 a1_1, .int .i64 a1_2, .string a1_3, .bool a1_4, .int .i64 a1_5] 25 rfl rfl gr ?_; clear BX; intro gb633 w63 GE633 BX) | (go_at_call 23; (with_reducible refine (whittleref2_Of.calls k a0_0 a0_1 a0_2 a0_3 a0_4 a0_5 t634 t635 t636 t637 t638 t639 _ A3.out).mono ?_); rintro e w66 ⟨rfl, hb⟩; replace BX := bx_call hb; clear hb) | (go_at_call 23; (with_reducible refine (whittleref2_Of.calls k a1_0 a1_1 a1_2 a1_3 a1_4 a1_5 t640 t641 t642 t643 t644 t645 _ A4.out).mono ?_); rintro e w69 ⟨rfl, hb⟩; replace BX := bx_call hb; clear hb) | (go_at_call 53; (with_reducible refine (whittleref2_as.calls t634 t635 t636 t637 t638 t639 t640 t646 t647 t648 t649 t650 t651 _ A5.out).mono ?_); rintro e w72 ⟨rfl, hb⟩; replace BX := bx_call hb; clear hb) | ((with_reducible refine gate_dst (N := 5) rfl ?_); refine bxe 5 #[.int .i64 0, .int .i64 0, .int .i64 0, .string (⟨#[]⟩ : ByteArray), .bool false, .int .i64 0] 25 rfl rfl gr ?_; clear BX; intro gb652 w73 GE652 BX) | (go_at_call 53; (with_reducible refine (whittleref2_as.calls t640 t641 t642 t643 t644 t645 t634 t653 t654 t655 t656 t657 t658 _ A6.out).mono ?_); rintro e w79 ⟨rfl, hb⟩; replace BX := bx_call hb; clear hb) | ((with_reducible refine gate_dst (N := 6) rfl ?_); refine bxe 6 #[.int .i64 0, .int .i64 0, .int .i64 0, .string (⟨#[]⟩ : ByteArray), .bool false, .int .i64 0] 25 rfl rfl gr ?_; clear BX; intro gb659 w80 GE659 BX)))
      go_ret
      exact ⟨er2, bx_bl⟩
     ·rw [if_neg c61] at H
      have c61b0 : (Op.bytesLess t656.toList t649.toList) = false := by simpa using c61
      clear c61
      obtain rfl := Option.some.inj H
      go_enter Tryz.func27, Tryz.ntmps27
      go_wp2_with (first | ((with_reducible refine gate_dst (N := 2) rfl ?_); refine bxe 2 #[.int .i64 a0_0, .int .i64 a0_1, .int .i64 a0_2, .string a0_3, .bool a0_4, .int .i64 a0_5] 25 rfl rfl gr ?_; clear BX; intro gb632 w86 GE632 BX) | ((with_reducible refine gate_dst (N := 3) rfl ?_); refine bxe 3 #[.int .i64 a1_0, .int .i64 a1_1, .int .i64 a1_2, .string a1_3, .bool a1_4, .int .i64 a1_5] 25 rfl rfl gr ?_; clear BX; intro gb633 w87 GE633 BX) | (go_at_call 23; (with_reducible refine (whittleref2_Of.calls k a0_0 a0_1 a0_2 a0_3 a0_4 a0_5 t634 t635 t636 t637 t638 t639 _ A3.out).mono ?_); rintro e w90 ⟨rfl, hb⟩; replace BX := bx_call hb; clear hb) | (go_at_call 23; (with_reducible refine (whittleref2_Of.calls k a1_0 a1_1 a1_2 a1_3 a1_4 a1_5 t640 t641 t642 t643 t644 t645 _ A4.out).mono ?_); rintro e w93 ⟨rfl, hb⟩; replace BX := bx_call hb; clear hb) | (go_at_call 53; (with_reducible refine (whittleref2_as.calls t634 t635 t636 t637 t638 t639 t640 t646 t647 t648 t649 t650 t651 _ A5.out).mono ?_); rintro e w96 ⟨rfl, hb⟩; replace BX := bx_call hb; clear hb) | ((with_reducible refine gate_dst (N := 5) rfl ?_); refine bxe 5 #[.int .i64 0, .int .i64 0, .int .i64 0, .string (⟨#[]⟩ : ByteArray), .bool false, .int .i64 0] 25 rfl rfl gr ?_; clear BX; intro gb652 w97 GE652 BX) | (go_at_call 53; (with_reducible refine (whittleref2_as.calls t640 t641 t642 t643 t644 t645 t634 t653 t654 t655 t656 t657 t658 _ A6.out).mono ?_); rintro e w103 ⟨rfl, hb⟩; replace BX := bx_call hb; clear hb) | ((with_reducible refine gate_dst (N := 6) rfl ?_); refine bxe 6 #[.int .i64 0, .int .i64 0, .int .i64 0, .string (⟨#[]⟩ : ByteArray), .bool false, .int .i64 0] 25 rfl rfl gr ?_; clear BX; intro gb659 w104 GE659 BX))
      repeat (go_quiet (first | ((with_reducible refine gate_dst (N := 2) rfl ?_); refine bxe 2 #[.int .i64 a0_0, .int .i64 a0_1, .int .i64 a0_2, .string a0_3, .bool a0_4, .int .i64 a0_5] 25 rfl rfl gr ?_; clear BX; intro gb632 w86 GE632 BX) | ((with_reducible refine gate_dst (N := 3) rfl ?_); refine bxe 3 #[.int .i64 a1_0, .int .i64 a1_1, .int .i64 a1_2, .string a1_3, .bool a1_4, .int .i64 a1_5] 25 rfl rfl gr ?_; clear BX; intro gb633 w87 GE633 BX) | (go_at_call 23; (with_reducible refine (whittleref2_Of.calls k a0_0 a0_1 a0_2 a0_3 a0_4 a0_5 t634 t635 t636 t637 t638 t639 _ A3.out).mono ?_); rintro e w90 ⟨rfl, hb⟩; replace BX := bx_call hb; clear hb) | (go_at_call 23; (with_reducible refine (whittleref2_Of.calls k a1_0 a1_1 a1_2 a1_3 a1_4 a1_5 t640 t641 t642 t643 t644 t645 _ A4.out).mono ?_); rintro e w93 ⟨rfl, hb⟩; replace BX := bx_call hb; clear hb) | (go_at_call 53; (with_reducible refine (whittleref2_as.calls t634 t635 t636 t637 t638 t639 t640 t646 t647 t648 t649 t650 t651 _ A5.out).mono ?_); rintro e w96 ⟨rfl, hb⟩; replace BX := bx_call hb; clear hb) | ((with_reducible refine gate_dst (N := 5) rfl ?_); refine bxe 5 #[.int .i64 0, .int .i64 0, .int .i64 0, .string (⟨#[]⟩ : ByteArray), .bool false, .int .i64 0] 25 rfl rfl gr ?_; clear BX; intro gb652 w97 GE652 BX) | (go_at_call 53; (with_reducible refine (whittleref2_as.calls t640 t641 t642 t643 t644 t645 t634 t653 t654 t655 t656 t657 t658 _ A6.out).mono ?_); rintro e w103 ⟨rfl, hb⟩; replace BX := bx_call hb; clear hb) | ((with_reducible refine gate_dst (N := 6) rfl ?_); refine bxe 6 #[.int .i64 0, .int .i64 0, .int .i64 0, .string (⟨#[]⟩ : ByteArray), .bool false, .int .i64 0] 25 rfl rfl gr ?_; clear BX; intro gb659 w104 GE659 BX)); try go_wp2_with (first | ((with_reducible refine gate_dst (N := 2) rfl ?_); refine bxe 2 #[.int .i64 a0_0, .int .i64 a0_1, .int .i64 a0_2, .string a0_3, .bool a0_4, .int .i64 a0_5] 25 rfl rfl gr ?_; clear BX; intro gb632 w86 GE632 BX) | ((with_reducible refine gate_dst (N := 3) rfl ?_); refine bxe 3 #[.int .i64 a1_0, .int .i64 a1_1, .int .i64 a1_2, .string a1_3, .bool a1_4, .int .i64 a1_5] 25 rfl rfl gr ?_; clear BX; intro gb633 w87 GE633 BX) | (go_at_call 23; (with_reducible refine (whittleref2_Of.calls k a0_0 a0_1 a0_2 a0_3 a0_4 a0_5 t634 t635 t636 t637 t638 t639 _ A3.out).mono ?_); rintro e w90 ⟨rfl, hb⟩; replace BX := bx_call hb; clear hb) | (go_at_call 23; (with_reducible refine (whittleref2_Of.calls k a1_0 a1_1 a1_2 a1_3 a1_4 a1_5 t640 t641 t642 t643 t644 t645 _ A4.out).mono ?_); rintro e w93 ⟨rfl, hb⟩; replace BX := bx_call hb; clear hb) | (go_at_call 53; (with_reducible refine (whittleref2_as.calls t634 t635 t636 t637 t638 t639 t640 t646 t647 t648 t649 t650 t651 _ A5.out).mono ?_); rintro e w96 ⟨rfl, hb⟩; replace BX := bx_call hb; clear hb) | ((with_reducible refine gate_dst (N := 5) rfl ?_); refine bxe 5 #[.int .i64 0, .int .i64 0, .int .i64 0, .string (⟨#[]⟩ : ByteArray), .bool false, .int .i64 0] 25 rfl rfl gr ?_; clear BX; intro gb652 w97 GE652 BX) | (go_at_call 53; (with_reducible refine (whittleref2_as.calls t640 t641 t642 t643 t644 t645 t634 t653 t654 t655 t656 t657 t658 _ A6.out).mono ?_); rintro e w103 ⟨rfl, hb⟩; replace BX := bx_call hb; clear hb) | ((with_reducible refine gate_dst (N := 6) rfl ?_); refine bxe 6 #[.int .i64 0, .int .i64 0, .int .i64 0, .string (⟨#[]⟩ : ByteArray), .bool false, .int .i64 0] 25 rfl rfl gr ?_; clear BX; intro gb659 w104 GE659 BX)))
      go_ret
      exact ⟨er2, bx_bl⟩
   ·rw [if_neg c35] at H
    have c35b0 : (t646 == 2) = false := beq_eq_false_iff_ne.mpr c35
    have c35b1 : (t646 != 2) = true := bne_iff_ne.mpr c35
    by_cases c110 : t646 = 3
    ·rw [if_pos c110] at H
     have c110b0 : (t646 == 3) = true := beq_iff_eq.mpr c110
     have c110b1 : (t646 != 3) = false := bne_eq_false_iff_eq.mpr c110
     clear c110
     by_cases c111 : (t650 == t657) = true
     ·rw [if_pos c111] at H
      have c111b0 : (t650 == t657) = true := c111
      (try (have c111b1 : decide (t650 = t657) = true := by simpa using c111))
      (try (have c111b2 : (t650 == t657) = true := by simpa using c111))
      clear c111
      obtain rfl := Option.some.inj H
      go_enter Tryz.func27, Tryz.ntmps27
      go_wp2_with (first | ((with_reducible refine gate_dst (N := 2) rfl ?_); refine bxe 2 #[.int .i64 a0_0, .int .i64 a0_1, .int .i64 a0_2, .string a0_3, .bool a0_4, .int .i64 a0_5] 25 rfl rfl gr ?_; clear BX; intro gb632 w112 GE632 BX) | ((with_reducible refine gate_dst (N := 3) rfl ?_); refine bxe 3 #[.int .i64 a1_0, .int .i64 a1_1, .int .i64 a1_2, .string a1_3, .bool a1_4, .int .i64 a1_5] 25 rfl rfl gr ?_; clear BX; intro gb633 w113 GE633 BX) | (go_at_call 23; (with_reducible refine (whittleref2_Of.calls k a0_0 a0_1 a0_2 a0_3 a0_4 a0_5 t634 t635 t636 t637 t638 t639 _ A3.out).mono ?_); rintro e w116 ⟨rfl, hb⟩; replace BX := bx_call hb; clear hb) | (go_at_call 23; (with_reducible refine (whittleref2_Of.calls k a1_0 a1_1 a1_2 a1_3 a1_4 a1_5 t640 t641 t642 t643 t644 t645 _ A4.out).mono ?_); rintro e w119 ⟨rfl, hb⟩; replace BX := bx_call hb; clear hb) | (go_at_call 53; (with_reducible refine (whittleref2_as.calls t634 t635 t636 t637 t638 t639 t640 t646 t647 t648 t649 t650 t651 _ A5.out).mono ?_); rintro e w122 ⟨rfl, hb⟩; replace BX := bx_call hb; clear hb) | ((with_reducible refine gate_dst (N := 5) rfl ?_); refine bxe 5 #[.int .i64 0, .int .i64 0, .int .i64 0, .string (⟨#[]⟩ : ByteArray), .bool false, .int .i64 0] 25 rfl rfl gr ?_; clear BX; intro gb652 w123 GE652 BX) | (go_at_call 53; (with_reducible refine (whittleref2_as.calls t640 t641 t642 t643 t644 t645 t634 t653 t654 t655 t656 t657 t658 _ A6.out).mono ?_); rintro e w129 ⟨rfl, hb⟩; replace BX := bx_call hb; clear hb) | ((with_reducible refine gate_dst (N := 6) rfl ?_); refine bxe 6 #[.int .i64 0, .int .i64 0, .int .i64 0, .string (⟨#[]⟩ : ByteArray), .bool false, .int .i64 0] 25 rfl rfl gr ?_; clear BX; intro gb659 w130 GE659 BX))
      repeat (go_quiet (first | ((with_reducible refine gate_dst (N := 2) rfl ?_); refine bxe 2 #[.int .i64 a0_0, .int .i64 a0_1, .int .i64 a0_2, .string a0_3, .bool a0_4, .int .i64 a0_5] 25 rfl rfl gr ?_; clear BX; intro gb632 w112 GE632 BX) | ((with_reducible refine gate_dst (N := 3) rfl ?_); refine bxe 3 #[.int .i64 a1_0, .int .i64 a1_1, .int .i64 a1_2, .string a1_3, .bool a1_4, .int .i64 a1_5] 25 rfl rfl gr ?_; clear BX; intro gb633 w113 GE633 BX) | (go_at_call 23; (with_reducible refine (whittleref2_Of.calls k a0_0 a0_1 a0_2 a0_3 a0_4 a0_5 t634 t635 t636 t637 t638 t639 _ A3.out).mono ?_); rintro e w116 ⟨rfl, hb⟩; replace BX := bx_call hb; clear hb) | (go_at_call 23; (with_reducible refine (whittleref2_Of.calls k a1_0 a1_1 a1_2 a1_3 a1_4 a1_5 t640 t641 t642 t643 t644 t645 _ A4.out).mono ?_); rintro e w119 ⟨rfl, hb⟩; replace BX := bx_call hb; clear hb) | (go_at_call 53; (with_reducible refine (whittleref2_as.calls t634 t635 t636 t637 t638 t639 t640 t646 t647 t648 t649 t650 t651 _ A5.out).mono ?_); rintro e w122 ⟨rfl, hb⟩; replace BX := bx_call hb; clear hb) | ((with_reducible refine gate_dst (N := 5) rfl ?_); refine bxe 5 #[.int .i64 0, .int .i64 0, .int .i64 0, .string (⟨#[]⟩ : ByteArray), .bool false, .int .i64 0] 25 rfl rfl gr ?_; clear BX; intro gb652 w123 GE652 BX) | (go_at_call 53; (with_reducible refine (whittleref2_as.calls t640 t641 t642 t643 t644 t645 t634 t653 t654 t655 t656 t657 t658 _ A6.out).mono ?_); rintro e w129 ⟨rfl, hb⟩; replace BX := bx_call hb; clear hb) | ((with_reducible refine gate_dst (N := 6) rfl ?_); refine bxe 6 #[.int .i64 0, .int .i64 0, .int .i64 0, .string (⟨#[]⟩ : ByteArray), .bool false, .int .i64 0] 25 rfl rfl gr ?_; clear BX; intro gb659 w130 GE659 BX)); try go_wp2_with (first | ((with_reducible refine gate_dst (N := 2) rfl ?_); refine bxe 2 #[.int .i64 a0_0, .int .i64 a0_1, .int .i64 a0_2, .string a0_3, .bool a0_4, .int .i64 a0_5] 25 rfl rfl gr ?_; clear BX; intro gb632 w112 GE632 BX) | ((with_reducible refine gate_dst (N := 3) rfl ?_); refine bxe 3 #[.int .i64 a1_0, .int .i64 a1_1, .int .i64 a1_2, .string a1_3, .bool a1_4, .int .i64 a1_5] 25 rfl rfl gr ?_; clear BX; intro gb633 w113 GE633 BX) | (go_at_call 23; (with_reducible refine (whittleref2_Of.calls k a0_0 a0_1 a0_2 a0_3 a0_4 a0_5 t634 t635 t636 t637 t638 t639 _ A3.out).mono ?_); rintro e w116 ⟨rfl, hb⟩; replace BX := bx_call hb; clear hb) | (go_at_call 23; (with_reducible refine (whittleref2_Of.calls k a1_0 a1_1 a1_2 a1_3 a1_4 a1_5 t640 t641 t642 t643 t644 t645 _ A4.out).mono ?_); rintro e w119 ⟨rfl, hb⟩; replace BX := bx_call hb; clear hb) | (go_at_call 53; (with_reducible refine (whittleref2_as.calls t634 t635 t636 t637 t638 t639 t640 t646 t647 t648 t649 t650 t651 _ A5.out).mono ?_); rintro e w122 ⟨rfl, hb⟩; replace BX := bx_call hb; clear hb) | ((with_reducible refine gate_dst (N := 5) rfl ?_); refine bxe 5 #[.int .i64 0, .int .i64 0, .int .i64 0, .string (⟨#[]⟩ : ByteArray), .bool false, .int .i64 0] 25 rfl rfl gr ?_; clear BX; intro gb652 w123 GE652 BX) | (go_at_call 53; (with_reducible refine (whittleref2_as.calls t640 t641 t642 t643 t644 t645 t634 t653 t654 t655 t656 t657 t658 _ A6.out).mono ?_); rintro e w129 ⟨rfl, hb⟩; replace BX := bx_call hb; clear hb) | ((with_reducible refine gate_dst (N := 6) rfl ?_); refine bxe 6 #[.int .i64 0, .int .i64 0, .int .i64 0, .string (⟨#[]⟩ : ByteArray), .bool false, .int .i64 0] 25 rfl rfl gr ?_; clear BX; intro gb659 w130 GE659 BX)))
      go_ret
      exact ⟨er2, bx_bl⟩
     ·rw [if_neg c111] at H
      have c111b0 : (t650 == t657) = false := by simpa using c111
      (try (have c111b1 : decide (t650 = t657) = false := by simpa using c111))
      (try (have c111b2 : (t650 == t657) = false := by simpa using c111))
      (try (have c111b3 : ¬ (t650 = t657) := by simpa using c111))
      clear c111
      by_cases c136 : t657 = true
      ·subst c136
       have H1 : (some (-1)) = some r := by rw [if_pos rfl] at H; exact H
       clear H
       have H := H1
       clear H1
       obtain rfl := Option.some.inj H
       go_enter Tryz.func27, Tryz.ntmps27
       go_wp2_with (first | ((with_reducible refine gate_dst (N := 2) rfl ?_); refine bxe 2 #[.int .i64 a0_0, .int .i64 a0_1, .int .i64 a0_2, .string a0_3, .bool a0_4, .int .i64 a0_5] 25 rfl rfl gr ?_; clear BX; intro gb632 w137 GE632 BX) | ((with_reducible refine gate_dst (N := 3) rfl ?_); refine bxe 3 #[.int .i64 a1_0, .int .i64 a1_1, .int .i64 a1_2, .string a1_3, .bool a1_4, .int .i64 a1_5] 25 rfl rfl gr ?_; clear BX; intro gb633 w138 GE633 BX) | (go_at_call 23; (with_reducible refine (whittleref2_Of.calls k a0_0 a0_1 a0_2 a0_3 a0_4 a0_5 t634 t635 t636 t637 t638 t639 _ A3.out).mono ?_); rintro e w141 ⟨rfl, hb⟩; replace BX := bx_call hb; clear hb) | (go_at_call 23; (with_reducible refine (whittleref2_Of.calls k a1_0 a1_1 a1_2 a1_3 a1_4 a1_5 t640 t641 t642 t643 t644 t645 _ A4.out).mono ?_); rintro e w144 ⟨rfl, hb⟩; replace BX := bx_call hb; clear hb) | (go_at_call 53; (with_reducible refine (whittleref2_as.calls t634 t635 t636 t637 t638 t639 t640 t646 t647 t648 t649 t650 t651 _ A5.out).mono ?_); rintro e w147 ⟨rfl, hb⟩; replace BX := bx_call hb; clear hb) | ((with_reducible refine gate_dst (N := 5) rfl ?_); refine bxe 5 #[.int .i64 0, .int .i64 0, .int .i64 0, .string (⟨#[]⟩ : ByteArray), .bool false, .int .i64 0] 25 rfl rfl gr ?_; clear BX; intro gb652 w148 GE652 BX) | (go_at_call 53; (with_reducible refine (whittleref2_as.calls t640 t641 t642 t643 t644 t645 t634 t653 t654 t655 t656 true t658 _ A6.out).mono ?_); rintro e w154 ⟨rfl, hb⟩; replace BX := bx_call hb; clear hb) | ((with_reducible refine gate_dst (N := 6) rfl ?_); refine bxe 6 #[.int .i64 0, .int .i64 0, .int .i64 0, .string (⟨#[]⟩ : ByteArray), .bool false, .int .i64 0] 25 rfl rfl gr ?_; clear BX; intro gb659 w155 GE659 BX))
       repeat (go_quiet (first | ((with_reducible refine gate_dst (N := 2) rfl ?_); refine bxe 2 #[.int .i64 a0_0, .int .i64 a0_1, .int .i64 a0_2, .string a0_3, .bool a0_4, .int .i64 a0_5] 25 rfl rfl gr ?_; clear BX; intro gb632 w137 GE632 BX) | ((with_reducible refine gate_dst (N := 3) rfl ?_); refine bxe 3 #[.int .i64 a1_0, .int .i64 a1_1, .int .i64 a1_2, .string a1_3, .bool a1_4, .int .i64 a1_5] 25 rfl rfl gr ?_; clear BX; intro gb633 w138 GE633 BX) | (go_at_call 23; (with_reducible refine (whittleref2_Of.calls k a0_0 a0_1 a0_2 a0_3 a0_4 a0_5 t634 t635 t636 t637 t638 t639 _ A3.out).mono ?_); rintro e w141 ⟨rfl, hb⟩; replace BX := bx_call hb; clear hb) | (go_at_call 23; (with_reducible refine (whittleref2_Of.calls k a1_0 a1_1 a1_2 a1_3 a1_4 a1_5 t640 t641 t642 t643 t644 t645 _ A4.out).mono ?_); rintro e w144 ⟨rfl, hb⟩; replace BX := bx_call hb; clear hb) | (go_at_call 53; (with_reducible refine (whittleref2_as.calls t634 t635 t636 t637 t638 t639 t640 t646 t647 t648 t649 t650 t651 _ A5.out).mono ?_); rintro e w147 ⟨rfl, hb⟩; replace BX := bx_call hb; clear hb) | ((with_reducible refine gate_dst (N := 5) rfl ?_); refine bxe 5 #[.int .i64 0, .int .i64 0, .int .i64 0, .string (⟨#[]⟩ : ByteArray), .bool false, .int .i64 0] 25 rfl rfl gr ?_; clear BX; intro gb652 w148 GE652 BX) | (go_at_call 53; (with_reducible refine (whittleref2_as.calls t640 t641 t642 t643 t644 t645 t634 t653 t654 t655 t656 true t658 _ A6.out).mono ?_); rintro e w154 ⟨rfl, hb⟩; replace BX := bx_call hb; clear hb) | ((with_reducible refine gate_dst (N := 6) rfl ?_); refine bxe 6 #[.int .i64 0, .int .i64 0, .int .i64 0, .string (⟨#[]⟩ : ByteArray), .bool false, .int .i64 0] 25 rfl rfl gr ?_; clear BX; intro gb659 w155 GE659 BX)); try go_wp2_with (first | ((with_reducible refine gate_dst (N := 2) rfl ?_); refine bxe 2 #[.int .i64 a0_0, .int .i64 a0_1, .int .i64 a0_2, .string a0_3, .bool a0_4, .int .i64 a0_5] 25 rfl rfl gr ?_; clear BX; intro gb632 w137 GE632 BX) | ((with_reducible refine gate_dst (N := 3) rfl ?_); refine bxe 3 #[.int .i64 a1_0, .int .i64 a1_1, .int .i64 a1_2, .string a1_3, .bool a1_4, .int .i64 a1_5] 25 rfl rfl gr ?_; clear BX; intro gb633 w138 GE633 BX) | (go_at_call 23; (with_reducible refine (whittleref2_Of.calls k a0_0 a0_1 a0_2 a0_3 a0_4 a0_5 t634 t635 t636 t637 t638 t639 _ A3.out).mono ?_); rintro e w141 ⟨rfl, hb⟩; replace BX := bx_call hb; clear hb) | (go_at_call 23; (with_reducible refine (whittleref2_Of.calls k a1_0 a1_1 a1_2 a1_3 a1_4 a1_5 t640 t641 t642 t643 t644 t645 _ A4.out).mono ?_); rintro e w144 ⟨rfl, hb⟩; replace BX := bx_call hb; clear hb) | (go_at_call 53; (with_reducible refine (whittleref2_as.calls t634 t635 t636 t637 t638 t639 t640 t646 t647 t648 t649 t650 t651 _ A5.out).mono ?_); rintro e w147 ⟨rfl, hb⟩; replace BX := bx_call hb; clear hb) | ((with_reducible refine gate_dst (N := 5) rfl ?_); refine bxe 5 #[.int .i64 0, .int .i64 0, .int .i64 0, .string (⟨#[]⟩ : ByteArray), .bool false, .int .i64 0] 25 rfl rfl gr ?_; clear BX; intro gb652 w148 GE652 BX) | (go_at_call 53; (with_reducible refine (whittleref2_as.calls t640 t641 t642 t643 t644 t645 t634 t653 t654 t655 t656 true t658 _ A6.out).mono ?_); rintro e w154 ⟨rfl, hb⟩; replace BX := bx_call hb; clear hb) | ((with_reducible refine gate_dst (N := 6) rfl ?_); refine bxe 6 #[.int .i64 0, .int .i64 0, .int .i64 0, .string (⟨#[]⟩ : ByteArray), .bool false, .int .i64 0] 25 rfl rfl gr ?_; clear BX; intro gb659 w155 GE659 BX)))
       go_ret
       exact ⟨er2, bx_bl⟩
      ·replace c136 := Bool.eq_false_iff.mpr c136
       subst c136
       have H1 : (some 1) = some r := by rw [if_neg (show ¬ (false = true) by decide)] at H; exact H
       clear H
       have H := H1
       clear H1
       obtain rfl := Option.some.inj H
       go_enter Tryz.func27, Tryz.ntmps27
       go_wp2_with (first | ((with_reducible refine gate_dst (N := 2) rfl ?_); refine bxe 2 #[.int .i64 a0_0, .int .i64 a0_1, .int .i64 a0_2, .string a0_3, .bool a0_4, .int .i64 a0_5] 25 rfl rfl gr ?_; clear BX; intro gb632 w161 GE632 BX) | ((with_reducible refine gate_dst (N := 3) rfl ?_); refine bxe 3 #[.int .i64 a1_0, .int .i64 a1_1, .int .i64 a1_2, .string a1_3, .bool a1_4, .int .i64 a1_5] 25 rfl rfl gr ?_; clear BX; intro gb633 w162 GE633 BX) | (go_at_call 23; (with_reducible refine (whittleref2_Of.calls k a0_0 a0_1 a0_2 a0_3 a0_4 a0_5 t634 t635 t636 t637 t638 t639 _ A3.out).mono ?_); rintro e w165 ⟨rfl, hb⟩; replace BX := bx_call hb; clear hb) | (go_at_call 23; (with_reducible refine (whittleref2_Of.calls k a1_0 a1_1 a1_2 a1_3 a1_4 a1_5 t640 t641 t642 t643 t644 t645 _ A4.out).mono ?_); rintro e w168 ⟨rfl, hb⟩; replace BX := bx_call hb; clear hb) | (go_at_call 53; (with_reducible refine (whittleref2_as.calls t634 t635 t636 t637 t638 t639 t640 t646 t647 t648 t649 t650 t651 _ A5.out).mono ?_); rintro e w171 ⟨rfl, hb⟩; replace BX := bx_call hb; clear hb) | ((with_reducible refine gate_dst (N := 5) rfl ?_); refine bxe 5 #[.int .i64 0, .int .i64 0, .int .i64 0, .string (⟨#[]⟩ : ByteArray), .bool false, .int .i64 0] 25 rfl rfl gr ?_; clear BX; intro gb652 w172 GE652 BX) | (go_at_call 53; (with_reducible refine (whittleref2_as.calls t640 t641 t642 t643 t644 t645 t634 t653 t654 t655 t656 false t658 _ A6.out).mono ?_); rintro e w178 ⟨rfl, hb⟩; replace BX := bx_call hb; clear hb) | ((with_reducible refine gate_dst (N := 6) rfl ?_); refine bxe 6 #[.int .i64 0, .int .i64 0, .int .i64 0, .string (⟨#[]⟩ : ByteArray), .bool false, .int .i64 0] 25 rfl rfl gr ?_; clear BX; intro gb659 w179 GE659 BX))
       repeat (go_quiet (first | ((with_reducible refine gate_dst (N := 2) rfl ?_); refine bxe 2 #[.int .i64 a0_0, .int .i64 a0_1, .int .i64 a0_2, .string a0_3, .bool a0_4, .int .i64 a0_5] 25 rfl rfl gr ?_; clear BX; intro gb632 w161 GE632 BX) | ((with_reducible refine gate_dst (N := 3) rfl ?_); refine bxe 3 #[.int .i64 a1_0, .int .i64 a1_1, .int .i64 a1_2, .string a1_3, .bool a1_4, .int .i64 a1_5] 25 rfl rfl gr ?_; clear BX; intro gb633 w162 GE633 BX) | (go_at_call 23; (with_reducible refine (whittleref2_Of.calls k a0_0 a0_1 a0_2 a0_3 a0_4 a0_5 t634 t635 t636 t637 t638 t639 _ A3.out).mono ?_); rintro e w165 ⟨rfl, hb⟩; replace BX := bx_call hb; clear hb) | (go_at_call 23; (with_reducible refine (whittleref2_Of.calls k a1_0 a1_1 a1_2 a1_3 a1_4 a1_5 t640 t641 t642 t643 t644 t645 _ A4.out).mono ?_); rintro e w168 ⟨rfl, hb⟩; replace BX := bx_call hb; clear hb) | (go_at_call 53; (with_reducible refine (whittleref2_as.calls t634 t635 t636 t637 t638 t639 t640 t646 t647 t648 t649 t650 t651 _ A5.out).mono ?_); rintro e w171 ⟨rfl, hb⟩; replace BX := bx_call hb; clear hb) | ((with_reducible refine gate_dst (N := 5) rfl ?_); refine bxe 5 #[.int .i64 0, .int .i64 0, .int .i64 0, .string (⟨#[]⟩ : ByteArray), .bool false, .int .i64 0] 25 rfl rfl gr ?_; clear BX; intro gb652 w172 GE652 BX) | (go_at_call 53; (with_reducible refine (whittleref2_as.calls t640 t641 t642 t643 t644 t645 t634 t653 t654 t655 t656 false t658 _ A6.out).mono ?_); rintro e w178 ⟨rfl, hb⟩; replace BX := bx_call hb; clear hb) | ((with_reducible refine gate_dst (N := 6) rfl ?_); refine bxe 6 #[.int .i64 0, .int .i64 0, .int .i64 0, .string (⟨#[]⟩ : ByteArray), .bool false, .int .i64 0] 25 rfl rfl gr ?_; clear BX; intro gb659 w179 GE659 BX)); try go_wp2_with (first | ((with_reducible refine gate_dst (N := 2) rfl ?_); refine bxe 2 #[.int .i64 a0_0, .int .i64 a0_1, .int .i64 a0_2, .string a0_3, .bool a0_4, .int .i64 a0_5] 25 rfl rfl gr ?_; clear BX; intro gb632 w161 GE632 BX) | ((with_reducible refine gate_dst (N := 3) rfl ?_); refine bxe 3 #[.int .i64 a1_0, .int .i64 a1_1, .int .i64 a1_2, .string a1_3, .bool a1_4, .int .i64 a1_5] 25 rfl rfl gr ?_; clear BX; intro gb633 w162 GE633 BX) | (go_at_call 23; (with_reducible refine (whittleref2_Of.calls k a0_0 a0_1 a0_2 a0_3 a0_4 a0_5 t634 t635 t636 t637 t638 t639 _ A3.out).mono ?_); rintro e w165 ⟨rfl, hb⟩; replace BX := bx_call hb; clear hb) | (go_at_call 23; (with_reducible refine (whittleref2_Of.calls k a1_0 a1_1 a1_2 a1_3 a1_4 a1_5 t640 t641 t642 t643 t644 t645 _ A4.out).mono ?_); rintro e w168 ⟨rfl, hb⟩; replace BX := bx_call hb; clear hb) | (go_at_call 53; (with_reducible refine (whittleref2_as.calls t634 t635 t636 t637 t638 t639 t640 t646 t647 t648 t649 t650 t651 _ A5.out).mono ?_); rintro e w171 ⟨rfl, hb⟩; replace BX := bx_call hb; clear hb) | ((with_reducible refine gate_dst (N := 5) rfl ?_); refine bxe 5 #[.int .i64 0, .int .i64 0, .int .i64 0, .string (⟨#[]⟩ : ByteArray), .bool false, .int .i64 0] 25 rfl rfl gr ?_; clear BX; intro gb652 w172 GE652 BX) | (go_at_call 53; (with_reducible refine (whittleref2_as.calls t640 t641 t642 t643 t644 t645 t634 t653 t654 t655 t656 false t658 _ A6.out).mono ?_); rintro e w178 ⟨rfl, hb⟩; replace BX := bx_call hb; clear hb) | ((with_reducible refine gate_dst (N := 6) rfl ?_); refine bxe 6 #[.int .i64 0, .int .i64 0, .int .i64 0, .string (⟨#[]⟩ : ByteArray), .bool false, .int .i64 0] 25 rfl rfl gr ?_; clear BX; intro gb659 w179 GE659 BX)))
       go_ret
       exact ⟨er2, bx_bl⟩
    ·rw [if_neg c110] at H
     have c110b0 : (t646 == 3) = false := beq_eq_false_iff_ne.mpr c110
     have c110b1 : (t646 != 3) = true := bne_iff_ne.mpr c110
     replace H := Option.bind_eq_some_iff.mp H
     obtain ⟨t664, A1850, H⟩ := H
     replace H : (some t664) = some r := H
     have A185 := Aside0.mk A1850
     clear A1850
     obtain rfl := Option.some.inj H
     go_enter Tryz.func27, Tryz.ntmps27
     go_wp2_with (first | ((with_reducible refine gate_dst (N := 2) rfl ?_); refine bxe 2 #[.int .i64 a0_0, .int .i64 a0_1, .int .i64 a0_2, .string a0_3, .bool a0_4, .int .i64 a0_5] 25 rfl rfl gr ?_; clear BX; intro gb632 w186 GE632 BX) | ((with_reducible refine gate_dst (N := 3) rfl ?_); refine bxe 3 #[.int .i64 a1_0, .int .i64 a1_1, .int .i64 a1_2, .string a1_3, .bool a1_4, .int .i64 a1_5] 25 rfl rfl gr ?_; clear BX; intro gb633 w187 GE633 BX) | (go_at_call 23; (with_reducible refine (whittleref2_Of.calls k a0_0 a0_1 a0_2 a0_3 a0_4 a0_5 t634 t635 t636 t637 t638 t639 _ A3.out).mono ?_); rintro e w190 ⟨rfl, hb⟩; replace BX := bx_call hb; clear hb) | (go_at_call 23; (with_reducible refine (whittleref2_Of.calls k a1_0 a1_1 a1_2 a1_3 a1_4 a1_5 t640 t641 t642 t643 t644 t645 _ A4.out).mono ?_); rintro e w193 ⟨rfl, hb⟩; replace BX := bx_call hb; clear hb) | (go_at_call 53; (with_reducible refine (whittleref2_as.calls t634 t635 t636 t637 t638 t639 t640 t646 t647 t648 t649 t650 t651 _ A5.out).mono ?_); rintro e w196 ⟨rfl, hb⟩; replace BX := bx_call hb; clear hb) | ((with_reducible refine gate_dst (N := 5) rfl ?_); refine bxe 5 #[.int .i64 0, .int .i64 0, .int .i64 0, .string (⟨#[]⟩ : ByteArray), .bool false, .int .i64 0] 25 rfl rfl gr ?_; clear BX; intro gb652 w197 GE652 BX) | (go_at_call 53; (with_reducible refine (whittleref2_as.calls t640 t641 t642 t643 t644 t645 t634 t653 t654 t655 t656 t657 t658 _ A6.out).mono ?_); rintro e w203 ⟨rfl, hb⟩; replace BX := bx_call hb; clear hb) | ((with_reducible refine gate_dst (N := 6) rfl ?_); refine bxe 6 #[.int .i64 0, .int .i64 0, .int .i64 0, .string (⟨#[]⟩ : ByteArray), .bool false, .int .i64 0] 25 rfl rfl gr ?_; clear BX; intro gb659 w204 GE659 BX) | (go_at_call 54; (with_reducible refine (whittleref2_order.calls t651 t658 t664 _ A185.out).mono ?_); rintro e w' ⟨rfl, ⟨nd, rfl⟩⟩; (try first | exact ⟨rfl, _, World.drewN_drewN _ _ _⟩ | exact ⟨rfl, _, Eq.trans (World.drewN_drewN _ _ _) (congrArg (World.drewN _) (Nat.add_assoc _ _ _))⟩)))
     repeat (go_quiet (first | ((with_reducible refine gate_dst (N := 2) rfl ?_); refine bxe 2 #[.int .i64 a0_0, .int .i64 a0_1, .int .i64 a0_2, .string a0_3, .bool a0_4, .int .i64 a0_5] 25 rfl rfl gr ?_; clear BX; intro gb632 w186 GE632 BX) | ((with_reducible refine gate_dst (N := 3) rfl ?_); refine bxe 3 #[.int .i64 a1_0, .int .i64 a1_1, .int .i64 a1_2, .string a1_3, .bool a1_4, .int .i64 a1_5] 25 rfl rfl gr ?_; clear BX; intro gb633 w187 GE633 BX) | (go_at_call 23; (with_reducible refine (whittleref2_Of.calls k a0_0 a0_1 a0_2 a0_3 a0_4 a0_5 t634 t635 t636 t637 t638 t639 _ A3.out).mono ?_); rintro e w190 ⟨rfl, hb⟩; replace BX := bx_call hb; clear hb) | (go_at_call 23; (with_reducible refine (whittleref2_Of.calls k a1_0 a1_1 a1_2 a1_3 a1_4 a1_5 t640 t641 t642 t643 t644 t645 _ A4.out).mono ?_); rintro e w193 ⟨rfl, hb⟩; replace BX := bx_call hb; clear hb) | (go_at_call 53; (with_reducible refine (whittleref2_as.calls t634 t635 t636 t637 t638 t639 t640 t646 t647 t648 t649 t650 t651 _ A5.out).mono ?_); rintro e w196 ⟨rfl, hb⟩; replace BX := bx_call hb; clear hb) | ((with_reducible refine gate_dst (N := 5) rfl ?_); refine bxe 5 #[.int .i64 0, .int .i64 0, .int .i64 0, .string (⟨#[]⟩ : ByteArray), .bool false, .int .i64 0] 25 rfl rfl gr ?_; clear BX; intro gb652 w197 GE652 BX) | (go_at_call 53; (with_reducible refine (whittleref2_as.calls t640 t641 t642 t643 t644 t645 t634 t653 t654 t655 t656 t657 t658 _ A6.out).mono ?_); rintro e w203 ⟨rfl, hb⟩; replace BX := bx_call hb; clear hb) | ((with_reducible refine gate_dst (N := 6) rfl ?_); refine bxe 6 #[.int .i64 0, .int .i64 0, .int .i64 0, .string (⟨#[]⟩ : ByteArray), .bool false, .int .i64 0] 25 rfl rfl gr ?_; clear BX; intro gb659 w204 GE659 BX) | (go_at_call 54; (with_reducible refine (whittleref2_order.calls t651 t658 t664 _ A185.out).mono ?_); rintro e w' ⟨rfl, ⟨nd, rfl⟩⟩; (try first | exact ⟨rfl, _, World.drewN_drewN _ _ _⟩ | exact ⟨rfl, _, Eq.trans (World.drewN_drewN _ _ _) (congrArg (World.drewN _) (Nat.add_assoc _ _ _))⟩))); try go_wp2_with (first | ((with_reducible refine gate_dst (N := 2) rfl ?_); refine bxe 2 #[.int .i64 a0_0, .int .i64 a0_1, .int .i64 a0_2, .string a0_3, .bool a0_4, .int .i64 a0_5] 25 rfl rfl gr ?_; clear BX; intro gb632 w186 GE632 BX) | ((with_reducible refine gate_dst (N := 3) rfl ?_); refine bxe 3 #[.int .i64 a1_0, .int .i64 a1_1, .int .i64 a1_2, .string a1_3, .bool a1_4, .int .i64 a1_5] 25 rfl rfl gr ?_; clear BX; intro gb633 w187 GE633 BX) | (go_at_call 23; (with_reducible refine (whittleref2_Of.calls k a0_0 a0_1 a0_2 a0_3 a0_4 a0_5 t634 t635 t636 t637 t638 t639 _ A3.out).mono ?_); rintro e w190 ⟨rfl, hb⟩; replace BX := bx_call hb; clear hb) | (go_at_call 23; (with_reducible refine (whittleref2_Of.calls k a1_0 a1_1 a1_2 a1_3 a1_4 a1_5 t640 t641 t642 t643 t644 t645 _ A4.out).mono ?_); rintro e w193 ⟨rfl, hb⟩; replace BX := bx_call hb; clear hb) | (go_at_call 53; (with_reducible refine (whittleref2_as.calls t634 t635 t636 t637 t638 t639 t640 t646 t647 t648 t649 t650 t651 _ A5.out).mono ?_); rintro e w196 ⟨rfl, hb⟩; replace BX := bx_call hb; clear hb) | ((with_reducible refine gate_dst (N := 5) rfl ?_); refine bxe 5 #[.int .i64 0, .int .i64 0, .int .i64 0, .string (⟨#[]⟩ : ByteArray), .bool false, .int .i64 0] 25 rfl rfl gr ?_; clear BX; intro gb652 w197 GE652 BX) | (go_at_call 53; (with_reducible refine (whittleref2_as.calls t640 t641 t642 t643 t644 t645 t634 t653 t654 t655 t656 t657 t658 _ A6.out).mono ?_); rintro e w203 ⟨rfl, hb⟩; replace BX := bx_call hb; clear hb) | ((with_reducible refine gate_dst (N := 6) rfl ?_); refine bxe 6 #[.int .i64 0, .int .i64 0, .int .i64 0, .string (⟨#[]⟩ : ByteArray), .bool false, .int .i64 0] 25 rfl rfl gr ?_; clear BX; intro gb659 w204 GE659 BX) | (go_at_call 54; (with_reducible refine (whittleref2_order.calls t651 t658 t664 _ A185.out).mono ?_); rintro e w' ⟨rfl, ⟨nd, rfl⟩⟩; (try first | exact ⟨rfl, _, World.drewN_drewN _ _ _⟩ | exact ⟨rfl, _, Eq.trans (World.drewN_drewN _ _ _) (congrArg (World.drewN _) (Nat.add_assoc _ _ _))⟩))))
     go_ret
     exact ⟨er2, bx_bl⟩
 ·rw [if_neg c7] at H
  have c7b0 : (t646 == t653) = false := beq_eq_false_iff_ne.mpr c7
  have c7b1 : (t646 != t653) = true := bne_iff_ne.mpr c7
  replace H := Option.bind_eq_some_iff.mp H
  obtain ⟨t660, A2100, H⟩ := H
  have A210 := Aside0.mk A2100
  clear A2100
  replace H := Option.bind_eq_some_iff.mp H
  obtain ⟨t661, A2110, H⟩ := H
  have A211 := Aside0.mk A2110
  clear A2110
  replace H := Option.bind_eq_some_iff.mp H
  obtain ⟨t662, A2120, H⟩ := H
  replace H : (some t662) = some r := H
  have A212 := Aside0.mk A2120
  clear A2120
  obtain rfl := Option.some.inj H
  go_enter Tryz.func27, Tryz.ntmps27
  go_wp2_with (first | ((with_reducible refine gate_dst (N := 2) rfl ?_); refine bxe 2 #[.int .i64 a0_0, .int .i64 a0_1, .int .i64 a0_2, .string a0_3, .bool a0_4, .int .i64 a0_5] 25 rfl rfl gr ?_; clear BX; intro gb632 w213 GE632 BX) | ((with_reducible refine gate_dst (N := 3) rfl ?_); refine bxe 3 #[.int .i64 a1_0, .int .i64 a1_1, .int .i64 a1_2, .string a1_3, .bool a1_4, .int .i64 a1_5] 25 rfl rfl gr ?_; clear BX; intro gb633 w214 GE633 BX) | (go_at_call 23; (with_reducible refine (whittleref2_Of.calls k a0_0 a0_1 a0_2 a0_3 a0_4 a0_5 t634 t635 t636 t637 t638 t639 _ A3.out).mono ?_); rintro e w217 ⟨rfl, hb⟩; replace BX := bx_call hb; clear hb) | (go_at_call 23; (with_reducible refine (whittleref2_Of.calls k a1_0 a1_1 a1_2 a1_3 a1_4 a1_5 t640 t641 t642 t643 t644 t645 _ A4.out).mono ?_); rintro e w220 ⟨rfl, hb⟩; replace BX := bx_call hb; clear hb) | (go_at_call 53; (with_reducible refine (whittleref2_as.calls t634 t635 t636 t637 t638 t639 t640 t646 t647 t648 t649 t650 t651 _ A5.out).mono ?_); rintro e w223 ⟨rfl, hb⟩; replace BX := bx_call hb; clear hb) | ((with_reducible refine gate_dst (N := 5) rfl ?_); refine bxe 5 #[.int .i64 0, .int .i64 0, .int .i64 0, .string (⟨#[]⟩ : ByteArray), .bool false, .int .i64 0] 25 rfl rfl gr ?_; clear BX; intro gb652 w224 GE652 BX) | (go_at_call 53; (with_reducible refine (whittleref2_as.calls t640 t641 t642 t643 t644 t645 t634 t653 t654 t655 t656 t657 t658 _ A6.out).mono ?_); rintro e w230 ⟨rfl, hb⟩; replace BX := bx_call hb; clear hb) | ((with_reducible refine gate_dst (N := 6) rfl ?_); refine bxe 6 #[.int .i64 0, .int .i64 0, .int .i64 0, .string (⟨#[]⟩ : ByteArray), .bool false, .int .i64 0] 25 rfl rfl gr ?_; clear BX; intro gb659 w231 GE659 BX) | (go_at_call 55; (with_reducible refine (whittleref2_rank.calls t646 t660 _ A210.out).mono ?_); rintro e w' ⟨rfl, ⟨nd, rfl⟩⟩; (try first | exact ⟨rfl, _, World.drewN_drewN _ _ _⟩ | exact ⟨rfl, _, Eq.trans (World.drewN_drewN _ _ _) (congrArg (World.drewN _) (Nat.add_assoc _ _ _))⟩)) | (go_at_call 55; (with_reducible refine (whittleref2_rank.calls t653 t661 _ A211.out).mono ?_); rintro e w' ⟨rfl, ⟨nd, rfl⟩⟩; (try first | exact ⟨rfl, _, World.drewN_drewN _ _ _⟩ | exact ⟨rfl, _, Eq.trans (World.drewN_drewN _ _ _) (congrArg (World.drewN _) (Nat.add_assoc _ _ _))⟩)) | (go_at_call 54; (with_reducible refine (whittleref2_order.calls t660 t661 t662 _ A212.out).mono ?_); rintro e w' ⟨rfl, ⟨nd, rfl⟩⟩; (try first | exact ⟨rfl, _, World.drewN_drewN _ _ _⟩ | exact ⟨rfl, _, Eq.trans (World.drewN_drewN _ _ _) (congrArg (World.drewN _) (Nat.add_assoc _ _ _))⟩)))
  repeat (go_quiet (first | ((with_reducible refine gate_dst (N := 2) rfl ?_); refine bxe 2 #[.int .i64 a0_0, .int .i64 a0_1, .int .i64 a0_2, .string a0_3, .bool a0_4, .int .i64 a0_5] 25 rfl rfl gr ?_; clear BX; intro gb632 w213 GE632 BX) | ((with_reducible refine gate_dst (N := 3) rfl ?_); refine bxe 3 #[.int .i64 a1_0, .int .i64 a1_1, .int .i64 a1_2, .string a1_3, .bool a1_4, .int .i64 a1_5] 25 rfl rfl gr ?_; clear BX; intro gb633 w214 GE633 BX) | (go_at_call 23; (with_reducible refine (whittleref2_Of.calls k a0_0 a0_1 a0_2 a0_3 a0_4 a0_5 t634 t635 t636 t637 t638 t639 _ A3.out).mono ?_); rintro e w217 ⟨rfl, hb⟩; replace BX := bx_call hb; clear hb) | (go_at_call 23; (with_reducible refine (whittleref2_Of.calls k a1_0 a1_1 a1_2 a1_3 a1_4 a1_5 t640 t641 t642 t643 t644 t645 _ A4.out).mono ?_); rintro e w220 ⟨rfl, hb⟩; replace BX := bx_call hb; clear hb) | (go_at_call 53; (with_reducible refine (whittleref2_as.calls t634 t635 t636 t637 t638 t639 t640 t646 t647 t648 t649 t650 t651 _ A5.out).mono ?_); rintro e w223 ⟨rfl, hb⟩; replace BX := bx_call hb; clear hb) | ((with_reducible refine gate_dst (N := 5) rfl ?_); refine bxe 5 #[.int .i64 0, .int .i64 0, .int .i64 0, .string (⟨#[]⟩ : ByteArray), .bool false, .int .i64 0] 25 rfl rfl gr ?_; clear BX; intro gb652 w224 GE652 BX) | (go_at_call 53; (with_reducible refine (whittleref2_as.calls t640 t641 t642 t643 t644 t645 t634 t653 t654 t655 t656 t657 t658 _ A6.out).mono ?_); rintro e w230 ⟨rfl, hb⟩; replace BX := bx_call hb; clear hb) | ((with_reducible refine gate_dst (N := 6) rfl ?_); refine bxe 6 #[.int .i64 0, .int .i64 0, .int .i64 0, .string (⟨#[]⟩ : ByteArray), .bool false, .int .i64 0] 25 rfl rfl gr ?_; clear BX; intro gb659 w231 GE659 BX) | (go_at_call 55; (with_reducible refine (whittleref2_rank.calls t646 t660 _ A210.out).mono ?_); rintro e w' ⟨rfl, ⟨nd, rfl⟩⟩; (try first | exact ⟨rfl, _, World.drewN_drewN _ _ _⟩ | exact ⟨rfl, _, Eq.trans (World.drewN_drewN _ _ _) (congrArg (World.drewN _) (Nat.add_assoc _ _ _))⟩)) | (go_at_call 55; (with_reducible refine (whittleref2_rank.calls t653 t661 _ A211.out).mono ?_); rintro e w' ⟨rfl, ⟨nd, rfl⟩⟩; (try first | exact ⟨rfl, _, World.drewN_drewN _ _ _⟩ | exact ⟨rfl, _, Eq.trans (World.drewN_drewN _ _ _) (congrArg (World.drewN _) (Nat.add_assoc _ _ _))⟩)) | (go_at_call 54; (with_reducible refine (whittleref2_order.calls t660 t661 t662 _ A212.out).mono ?_); rintro e w' ⟨rfl, ⟨nd, rfl⟩⟩; (try first | exact ⟨rfl, _, World.drewN_drewN _ _ _⟩ | exact ⟨rfl, _, Eq.trans (World.drewN_drewN _ _ _) (congrArg (World.drewN _) (Nat.add_assoc _ _ _))⟩))); try go_wp2_with (first | ((with_reducible refine gate_dst (N := 2) rfl ?_); refine bxe 2 #[.int .i64 a0_0, .int .i64 a0_1, .int .i64 a0_2, .string a0_3, .bool a0_4, .int .i64 a0_5] 25 rfl rfl gr ?_; clear BX; intro gb632 w213 GE632 BX) | ((with_reducible refine gate_dst (N := 3) rfl ?_); refine bxe 3 #[.int .i64 a1_0, .int .i64 a1_1, .int .i64 a1_2, .string a1_3, .bool a1_4, .int .i64 a1_5] 25 rfl rfl gr ?_; clear BX; intro gb633 w214 GE633 BX) | (go_at_call 23; (with_reducible refine (whittleref2_Of.calls k a0_0 a0_1 a0_2 a0_3 a0_4 a0_5 t634 t635 t636 t637 t638 t639 _ A3.out).mono ?_); rintro e w217 ⟨rfl, hb⟩; replace BX := bx_call hb; clear hb) | (go_at_call 23; (with_reducible refine (whittleref2_Of.calls k a1_0 a1_1 a1_2 a1_3 a1_4 a1_5 t640 t641 t642 t643 t644 t645 _ A4.out).mono ?_); rintro e w220 ⟨rfl, hb⟩; replace BX := bx_call hb; clear hb) | (go_at_call 53; (with_reducible refine (whittleref2_as.calls t634 t635 t636 t637 t638 t639 t640 t646 t647 t648 t649 t650 t651 _ A5.out).mono ?_); rintro e w223 ⟨rfl, hb⟩; replace BX := bx_call hb; clear hb) | ((with_reducible refine gate_dst (N := 5) rfl ?_); refine bxe 5 #[.int .i64 0, .int .i64 0, .int .i64 0, .string (⟨#[]⟩ : ByteArray), .bool false, .int .i64 0] 25 rfl rfl gr ?_; clear BX; intro gb652 w224 GE652 BX) | (go_at_call 53; (with_reducible refine (whittleref2_as.calls t640 t641 t642 t643 t644 t645 t634 t653 t654 t655 t656 t657 t658 _ A6.out).mono ?_); rintro e w230 ⟨rfl, hb⟩; replace BX := bx_call hb; clear hb) | ((with_reducible refine gate_dst (N := 6) rfl ?_); refine bxe 6 #[.int .i64 0, .int .i64 0, .int .i64 0, .string (⟨#[]⟩ : ByteArray), .bool false, .int .i64 0] 25 rfl rfl gr ?_; clear BX; intro gb659 w231 GE659 BX) | (go_at_call 55; (with_reducible refine (whittleref2_rank.calls t646 t660 _ A210.out).mono ?_); rintro e w' ⟨rfl, ⟨nd, rfl⟩⟩; (try first | exact ⟨rfl, _, World.drewN_drewN _ _ _⟩ | exact ⟨rfl, _, Eq.trans (World.drewN_drewN _ _ _) (congrArg (World.drewN _) (Nat.add_assoc _ _ _))⟩)) | (go_at_call 55; (with_reducible refine (whittleref2_rank.calls t653 t661 _ A211.out).mono ?_); rintro e w' ⟨rfl, ⟨nd, rfl⟩⟩; (try first | exact ⟨rfl, _, World.drewN_drewN _ _ _⟩ | exact ⟨rfl, _, Eq.trans (World.drewN_drewN _ _ _) (congrArg (World.drewN _) (Nat.add_assoc _ _ _))⟩)) | (go_at_call 54; (with_reducible refine (whittleref2_order.calls t660 t661 t662 _ A212.out).mono ?_); rintro e w' ⟨rfl, ⟨nd, rfl⟩⟩; (try first | exact ⟨rfl, _, World.drewN_drewN _ _ _⟩ | exact ⟨rfl, _, Eq.trans (World.drewN_drewN _ _ _) (congrArg (World.drewN _) (Nat.add_assoc _ _ _))⟩))))
  go_ret
  exact ⟨er2, bx_bl⟩
end
end Go.Proofs.YtmakkdlkgfgaoaaGreatDoor.F
