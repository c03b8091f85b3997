-- Laid by program (wip/tools/genv.sh, pack.py, merge.py of this repo) out of the translation; Lean checks it.
import Derived.Test.YtmakkdlkgfgaoaaDoorF0
import Derived.Test.YtmakkdlkgfgaoaaDoorC0
import Derived.Test.YtmakkdlkgfgaoaaDoorF106
import Derived.Test.YtmakkdlkgfgaoaaDoorF108
namespace Go.Proofs.YtmakkdlkgfgaoaaDoor.F
open Go.RowKit Go.Proofs.YtmakkdlkgfgaoaaDoorW.PrintWords Go.Proofs.YtmakkdlkgfgaoaaDoorW.PrintLast Go.Proofs.YtmakkdlkgfgaoaaDoorW.PrintMore
attribute [local go_sem] max2_int min2_int max_two min_two max_three min_three max_four min_four
attribute [local go_sem high] bx_cell bx_frozen
set_option linter.unusedVariables false
set_option linter.unusedSimpArgs false

section
/-! ### whittleref2_as: function 68 -/
def whittleref2_as.f (a0_0 : Int) (a0_1 : Int) (a0_2 : Int) (a0_3 : ByteArray) (a0_4 : Bool) (a0_5 : Int) (a1 : Int) : Option (Int × Int × Int × ByteArray × Bool × Int) := if a0_0 = 0 then (if a1 = 1 then (some (1, 0, 1, (⟨#[]⟩ : ByteArray), false, 0)) else (if a1 = 2 then (some (a1, 0, 0, (⟨#[]⟩ : ByteArray), false, 0)) else (if a1 = 3 then (some (a1, 0, 0, (⟨#[]⟩ : ByteArray), false, 0)) else (some (a0_0, a0_1, a0_2, a0_3, a0_4, a0_5))))) else (some (a0_0, a0_1, a0_2, a0_3, a0_4, a0_5))
set_option maxHeartbeats 8000000 in
set_option maxRecDepth 100000 in
theorem whittleref2_as.calls (a0_0 : Int) (a0_1 : Int) (a0_2 : Int) (a0_3 : ByteArray) (a0_4 : Bool) (a0_5 : Int) (a1 : Int) (r1 : Int) (r2 : Int) (r3 : Int) (r4 : ByteArray) (r5 : Bool) (r6 : Int) (w : World) (h : whittleref2_as.f a0_0 a0_1 a0_2 a0_3 a0_4 a0_5 a1 = some (r1, r2, r3, r4, r5, r6)) :
  Calls Tryd.prog 68 #[.agg #[.int .i64 a0_0, .int .i64 a0_1, .int .i64 a0_2, .string a0_3, .bool a0_4, .int .i64 a0_5], .int .i64 a1] w fun e w' => e = .returned (.agg #[.int .i64 r1, .int .i64 r2, .int .i64 r3, .string r4, .bool r5, .int .i64 r6]) ∧ Below w.heap.size w w' := by
 have hu25 := Tryd.underlying25
 have hu23 := Tryd.underlying23
 have BX := Bx.start w
 have H : (if a0_0 = 0 then (if a1 = 1 then (some (1, 0, 1, (⟨#[]⟩ : ByteArray), false, 0)) else (if a1 = 2 then (some (a1, 0, 0, (⟨#[]⟩ : ByteArray), false, 0)) else (if a1 = 3 then (some (a1, 0, 0, (⟨#[]⟩ : ByteArray), false, 0)) else (some (a0_0, a0_1, a0_2, a0_3, a0_4, a0_5))))) else (some (a0_0, a0_1, a0_2, a0_3, a0_4, a0_5))) = some (r1, r2, r3, r4, r5, r6) := h
 clear h
 by_cases c3 : a0_0 = 0
 ·rw [if_pos c3] at H
  have c3b0 : (a0_0 == 0) = true := beq_iff_eq.mpr c3
  have c3b1 : (a0_0 != 0) = false := bne_eq_false_iff_eq.mpr c3
  clear c3
  by_cases c4 : a1 = 1
  ·rw [if_pos c4] at H
   have c4b0 : (a1 == 1) = true := beq_iff_eq.mpr c4
   have c4b1 : (a1 != 1) = false := bne_eq_false_iff_eq.mpr c4
   clear c4
   simp only [Option.some.injEq, Prod.mk.injEq] at H
   obtain ⟨rfl, rfl, rfl, rfl, rfl, rfl⟩ := H
   go_enter Tryd.func68, Tryd.ntmps68
   go_wp2_with (first | ((with_reducible refine gate_dst (N := 2) rfl ?_); refine bxe 2 #[.int .i64 a0_0, .int .i64 a0_1, .int .i64 a0_2, .string a0_3, .bool a0_4, .int .i64 a0_5] 25 rfl rfl gr ?_; clear BX; intro gb879 w5 GE879 BX) | ((with_reducible refine gate_dst (N := 4) rfl ?_); refine bxe 4 #[.int .i64 0, .int .i64 0, .int .i64 0, .string (⟨#[]⟩ : ByteArray), .bool false, .int .i64 0] 25 rfl rfl gr ?_; clear BX; intro gb880 w6 GE880 BX))
   refine bodyPost_ret (results_cell_row rfl _ _ gb880 25 #[.int .i64 1, .int .i64 0, .int .i64 1, .string (⟨#[]⟩ : ByteArray), .bool false, .int .i64 0] (0, 0) _ rfl bx_get Tryd.underlying25 rfl kr) rfl ?_
   exact ⟨er2, bx_bl⟩
  ·rw [if_neg c4] at H
   have c4b0 : (a1 == 1) = false := beq_eq_false_iff_ne.mpr c4
   have c4b1 : (a1 != 1) = true := bne_iff_ne.mpr c4
   by_cases c10 : a1 = 2
   ·rw [if_pos c10] at H
    have c10b0 : (a1 == 2) = true := beq_iff_eq.mpr c10
    have c10b1 : (a1 != 2) = false := bne_eq_false_iff_eq.mpr c10
    clear c10
    simp only [Option.some.injEq, Prod.mk.injEq] at H
    obtain ⟨rfl, rfl, rfl, rfl, rfl, rfl⟩ := H
    go_enter Tryd.func68, Tryd.ntmps68
    go_wp2_with (first | ((with_reducible refine gate_dst (N := 2) rfl ?_); refine bxe 2 #[.int .i64 a0_0, .int .i64 a0_1, .int .i64 a0_2, .string a0_3, .bool a0_4, .int .i64 a0_5] 25 rfl rfl gr ?_; clear BX; intro gb879 w11 GE879 BX) | ((with_reducible refine gate_dst (N := 4) rfl ?_); refine bxe 4 #[.int .i64 0, .int .i64 0, .int .i64 0, .string (⟨#[]⟩ : ByteArray), .bool false, .int .i64 0] 25 rfl rfl gr ?_; clear BX; intro gb880 w12 GE880 BX))
    refine bodyPost_ret (results_cell_row rfl _ _ gb880 25 #[.int .i64 a1, .int .i64 0, .int .i64 0, .string (⟨#[]⟩ : ByteArray), .bool false, .int .i64 0] (0, 0) _ rfl bx_get Tryd.underlying25 rfl kr) rfl ?_
    exact ⟨er2, bx_bl⟩
   ·rw [if_neg c10] at H
    have c10b0 : (a1 == 2) = false := beq_eq_false_iff_ne.mpr c10
    have c10b1 : (a1 != 2) = true := bne_iff_ne.mpr c10
    by_cases c16 : a1 = 3
    ·rw [if_pos c16] at H
     have c16b0 : (a1 == 3) = true := beq_iff_eq.mpr c16
     have c16b1 : (a1 != 3) = false := bne_eq_false_iff_eq.mpr c16
     clear c16
     simp only [Option.some.injEq, Prod.mk.injEq] at H
     obtain ⟨rfl, rfl, rfl, rfl, rfl, rfl⟩ := H
     go_enter Tryd.func68, Tryd.ntmps68
     go_wp2_with (first | ((with_reducible refine gate_dst (N := 2) rfl ?_); refine bxe 2 #[.int .i64 a0_0, .int .i64 a0_1, .int .i64 a0_2, .string a0_3, .bool a0_4, .int .i64 a0_5] 25 rfl rfl gr ?_; clear BX; intro gb879 w17 GE879 BX) | ((with_reducible refine gate_dst (N := 4) rfl ?_); refine bxe 4 #[.int .i64 0, .int .i64 0, .int .i64 0, .string (⟨#[]⟩ : ByteArray), .bool false, .int .i64 0] 25 rfl rfl gr ?_; clear BX; intro gb880 w18 GE880 BX))
     refine bodyPost_ret (results_cell_row rfl _ _ gb880 25 #[.int .i64 a1, .int .i64 0, .int .i64 0, .string (⟨#[]⟩ : ByteArray), .bool false, .int .i64 0] (0, 0) _ rfl bx_get Tryd.underlying25 rfl kr) rfl ?_
     exact ⟨er2, bx_bl⟩
    ·rw [if_neg c16] at H
     have c16b0 : (a1 == 3) = false := beq_eq_false_iff_ne.mpr c16
     have c16b1 : (a1 != 3) = true := bne_iff_ne.mpr c16
     simp only [Option.some.injEq, Prod.mk.injEq] at H
     obtain ⟨rfl, rfl, rfl, rfl, rfl, rfl⟩ := H
     go_enter Tryd.func68, Tryd.ntmps68
     go_wp2_with (first | ((with_reducible refine gate_dst (N := 2) rfl ?_); refine bxe 2 #[.int .i64 a0_0, .int .i64 a0_1, .int .i64 a0_2, .string a0_3, .bool a0_4, .int .i64 a0_5] 25 rfl rfl gr ?_; clear BX; intro gb879 w22 GE879 BX) | ((with_reducible refine gate_dst (N := 4) rfl ?_); refine bxe 4 #[.int .i64 0, .int .i64 0, .int .i64 0, .string (⟨#[]⟩ : ByteArray), .bool false, .int .i64 0] 25 rfl rfl gr ?_; clear BX; intro gb880 w23 GE880 BX))
     refine bodyPost_ret (results_cell_row rfl _ _ gb880 25 #[.int .i64 a0_0, .int .i64 a0_1, .int .i64 a0_2, .string a0_3, .bool a0_4, .int .i64 a0_5] (0, 0) _ rfl bx_get Tryd.underlying25 rfl kr) rfl ?_
     exact ⟨er2, bx_bl⟩
 ·rw [if_neg c3] at H
  have c3b0 : (a0_0 == 0) = false := beq_eq_false_iff_ne.mpr c3
  have c3b1 : (a0_0 != 0) = true := bne_iff_ne.mpr c3
  simp only [Option.some.injEq, Prod.mk.injEq] at H
  obtain ⟨rfl, rfl, rfl, rfl, rfl, rfl⟩ := H
  go_enter Tryd.func68, Tryd.ntmps68
  go_wp2_with (first | ((with_reducible refine gate_dst (N := 2) rfl ?_); refine bxe 2 #[.int .i64 a0_0, .int .i64 a0_1, .int .i64 a0_2, .string a0_3, .bool a0_4, .int .i64 a0_5] 25 rfl rfl gr ?_; clear BX; intro gb879 w27 GE879 BX) | ((with_reducible refine gate_dst (N := 4) rfl ?_); refine bxe 4 #[.int .i64 0, .int .i64 0, .int .i64 0, .string (⟨#[]⟩ : ByteArray), .bool false, .int .i64 0] 25 rfl rfl gr ?_; clear BX; intro gb880 w28 GE880 BX))
  refine bodyPost_ret (results_cell_row rfl _ _ gb880 25 #[.int .i64 a0_0, .int .i64 a0_1, .int .i64 a0_2, .string a0_3, .bool a0_4, .int .i64 a0_5] (0, 0) _ rfl bx_get Tryd.underlying25 rfl kr) rfl ?_
  exact ⟨er2, bx_bl⟩
end
section
/-! ### whittleref2_order: function 69 -/
def whittleref2_order.f (a0 : Int) (a1 : Int) : Option (Int) := if a0 < a1 then (some (-1)) else (if a0 > a1 then (some 1) else (some 0))
set_option maxHeartbeats 8000000 in
set_option maxRecDepth 100000 in
theorem whittleref2_order.calls (a0 : Int) (a1 : Int) (r : Int) (w : World) (h : whittleref2_order.f a0 a1 = some r) :
  Calls Tryd.prog 69 #[.int .i64 a0, .int .i64 a1] w fun e w' => e = .returned (.int .i64 r) ∧ Drawn0 w w' := by
 have H : (if a0 < a1 then (some (-1)) else (if a0 > a1 then (some 1) else (some 0))) = some r := h
 clear h
 by_cases c3 : a0 < a1
 ·rw [if_pos c3] at H
  have c3b0 : decide (a0 < a1) = true := decide_eq_true c3
  clear c3
  obtain rfl := Option.some.inj H
  go_enter Tryd.func69, Tryd.ntmps69
  go_wp2
  go_ret
  exact ⟨er, dr⟩
 ·rw [if_neg c3] at H
  have c3b0 : decide (a0 < a1) = false := decide_eq_false c3
  clear c3
  by_cases c4 : a0 > a1
  ·rw [if_pos c4] at H
   have c4b0 : decide (a1 < a0) = true := decide_eq_true c4
   clear c4
   obtain rfl := Option.some.inj H
   go_enter Tryd.func69, Tryd.ntmps69
   go_wp2
   go_ret
   exact ⟨er, dr⟩
  ·rw [if_neg c4] at H
   have c4b0 : decide (a1 < a0) = false := decide_eq_false c4
   clear c4
   obtain rfl := Option.some.inj H
   go_enter Tryd.func69, Tryd.ntmps69
   go_wp2
   go_ret
   exact ⟨er, dr⟩
end
section
/-! ### whittleref2_rank: function 70 -/
def whittleref2_rank.f (a0 : Int) : Option (Int) := if a0 = 1 then (some 1) else (if a0 = 2 then (some 2) else (if a0 = 3 then (some 3) else (if a0 = 4 then (some 4) else (some 0))))
set_option maxHeartbeats 8000000 in
set_option maxRecDepth 100000 in
theorem whittleref2_rank.calls (a0 : Int) (r : Int) (w : World) (h : whittleref2_rank.f a0 = some r) :
  Calls Tryd.prog 70 #[.int .i64 a0] w fun e w' => e = .returned (.int .i64 r) ∧ Drawn0 w w' := by
 have H : (if a0 = 1 then (some 1) else (if a0 = 2 then (some 2) else (if a0 = 3 then (some 3) else (if a0 = 4 then (some 4) else (some 0))))) = some r := h
 clear h
 by_cases c2 : a0 = 1
 ·rw [if_pos c2] at H
  have c2b0 : (a0 == 1) = true := beq_iff_eq.mpr c2
  have c2b1 : (a0 != 1) = false := bne_eq_false_iff_eq.mpr c2
  clear c2
  obtain rfl := Option.some.inj H
  go_enter Tryd.func70, Tryd.ntmps70
  go_wp2
  go_ret
  exact ⟨er, dr⟩
 ·rw [if_neg c2] at H
  have c2b0 : (a0 == 1) = false := beq_eq_false_iff_ne.mpr c2
  have c2b1 : (a0 != 1) = true := bne_iff_ne.mpr c2
  by_cases c3 : a0 = 2
  ·rw [if_pos c3] at H
   have c3b0 : (a0 == 2) = true := beq_iff_eq.mpr c3
   have c3b1 : (a0 != 2) = false := bne_eq_false_iff_eq.mpr c3
   clear c3
   obtain rfl := Option.some.inj H
   go_enter Tryd.func70, Tryd.ntmps70
   go_wp2
   go_ret
   exact ⟨er, dr⟩
  ·rw [if_neg c3] at H
   have c3b0 : (a0 == 2) = false := beq_eq_false_iff_ne.mpr c3
   have c3b1 : (a0 != 2) = true := bne_iff_ne.mpr c3
   by_cases c4 : a0 = 3
   ·rw [if_pos c4] at H
    have c4b0 : (a0 == 3) = true := beq_iff_eq.mpr c4
    have c4b1 : (a0 != 3) = false := bne_eq_false_iff_eq.mpr c4
    clear c4
    obtain rfl := Option.some.inj H
    go_enter Tryd.func70, Tryd.ntmps70
    go_wp2
    go_ret
    exact ⟨er, dr⟩
   ·rw [if_neg c4] at H
    have c4b0 : (a0 == 3) = false := beq_eq_false_iff_ne.mpr c4
    have c4b1 : (a0 != 3) = true := bne_iff_ne.mpr c4
    by_cases c5 : a0 = 4
    ·rw [if_pos c5] at H
     have c5b0 : (a0 == 4) = true := beq_iff_eq.mpr c5
     have c5b1 : (a0 != 4) = false := bne_eq_false_iff_eq.mpr c5
     clear c5
     obtain rfl := Option.some.inj H
     go_enter Tryd.func70, Tryd.ntmps70
     go_wp2
     go_ret
     exact ⟨er, dr⟩
    ·rw [if_neg c5] at H
     have c5b0 : (a0 == 4) = false := beq_eq_false_iff_ne.mpr c5
     have c5b1 : (a0 != 4) = true := bne_iff_ne.mpr c5
     obtain rfl := Option.some.inj H
     go_enter Tryd.func70, Tryd.ntmps70
     go_wp2
     go_ret
     exact ⟨er, dr⟩
end
section
attribute [local go_sem high] str_gtr
/-! ### whittleref2_Cmp: function 33 -/
def whittleref2_Cmp.f (k : Nat) (a0_0 : Int) (a0_1 : Int) (a0_2 : Int) (a0_3 : ByteArray) (a0_4 : Bool) (a0_5 : Int) (a1_0 : Int) (a1_1 : Int) (a1_2 : Int) (a1_3 : ByteArray) (a1_4 : Bool) (a1_5 : Int) : Option (Int) := (whittleref2_Of.f k a0_0 a0_1 a0_2 a0_3 a0_4 a0_5).bind fun bt889 => ((whittleref2_Of.f k a1_0 a1_1 a1_2 a1_3 a1_4 a1_5).bind fun bt895 => ((whittleref2_as.f bt889.1 bt889.2.1 bt889.2.2.1 bt889.2.2.2.1 bt889.2.2.2.2.1 bt889.2.2.2.2.2 bt895.1).bind fun bt901 => ((whittleref2_as.f bt895.1 bt895.2.1 bt895.2.2.1 bt895.2.2.2.1 bt895.2.2.2.2.1 bt895.2.2.2.2.2 bt889.1).bind fun bt908 => (if bt901.1 = bt908.1 then (if bt901.1 = 1 then ((whittleref1_Cmp.f k bt901.2.1 bt901.2.2.1 bt908.2.1 bt908.2.2.1).bind fun t918 => (some t918)) else (if bt901.1 = 2 then (if (Op.bytesLess bt901.2.2.2.1.toList bt908.2.2.2.1.toList) = true then (some (-1)) else (if (Op.bytesLess bt908.2.2.2.1.toList bt901.2.2.2.1.toList) = true then (some 1) else (some 0))) else (if bt901.1 = 3 then (if (bt901.2.2.2.2.1 == bt908.2.2.2.2.1) = true then (some 0) else (if bt908.2.2.2.2.1 = true then (some (-1)) else (some 1))) else ((whittleref2_order.f bt901.2.2.2.2.2 bt908.2.2.2.2.2).bind fun t919 => (some t919))))) else ((whittleref2_rank.f bt901.1).bind fun t915 => ((whittleref2_rank.f bt908.1).bind fun t916 => ((whittleref2_order.f t915 t916).bind fun t917 => (some t917))))))))
theorem whittleref2_Cmp.mono : ∀ a0 a1 a2 a3 a4 a5 a6 a7 a8 a9 a10 a11 k, LeO (whittleref2_Cmp.f k a0 a1 a2 a3 a4 a5 a6 a7 a8 a9 a10 a11) (whittleref2_Cmp.f (k + 1) a0 a1 a2 a3 a4 a5 a6 a7 a8 a9 a10 a11) := by
 intro a0 a1 a2 a3 a4 a5 a6 a7 a8 a9 a10 a11 k
 unfold whittleref2_Cmp.f
 repeat' first
   | (with_reducible exact whittleref1_Cmp.mono _ _ _ _ _)
   | (with_reducible exact whittleref2_Of.mono _ _ _ _ _ _ _)
   | (with_reducible exact LeO.refl _)
   | (with_reducible exact LeO.none _)
   | (with_reducible refine LeO.ite ?_ ?_)
   | (with_reducible refine LeO.bind ?_ (fun _ => ?_))
   | exact whittleref1_Cmp.mono _ _ _ _ _
   | exact whittleref2_Of.mono _ _ _ _ _ _ _
   | exact LeO.none _
   | refine LeO.ite ?_ ?_
   | refine LeO.bind ?_ (fun _ => ?_)
set_option maxHeartbeats 8000000 in
set_option maxRecDepth 100000 in
theorem whittleref2_Cmp.calls (k : Nat) (a0_0 : Int) (a0_1 : Int) (a0_2 : Int) (a0_3 : ByteArray) (a0_4 : Bool) (a0_5 : Int) (a1_0 : Int) (a1_1 : Int) (a1_2 : Int) (a1_3 : ByteArray) (a1_4 : Bool) (a1_5 : Int) (r : Int) (w : World) (h : whittleref2_Cmp.f k a0_0 a0_1 a0_2 a0_3 a0_4 a0_5 a1_0 a1_1 a1_2 a1_3 a1_4 a1_5 = some r) :
  Calls Tryd.prog 33 #[.agg #[.int .i64 a0_0, .int .i64 a0_1, .int .i64 a0_2, .string a0_3, .bool a0_4, .int .i64 a0_5], .agg #[.int .i64 a1_0, .int .i64 a1_1, .int .i64 a1_2, .string a1_3, .bool a1_4, .int .i64 a1_5]] w fun e w' => e = .returned (.int .i64 r) ∧ Below w.heap.size w w' := by
 have hu25 := Tryd.underlying25
 have hu23 := Tryd.underlying23
 have BX := Bx.start w
 have H : ((whittleref2_Of.f k a0_0 a0_1 a0_2 a0_3 a0_4 a0_5).bind fun bt889 => ((whittleref2_Of.f k a1_0 a1_1 a1_2 a1_3 a1_4 a1_5).bind fun bt895 => ((whittleref2_as.f bt889.1 bt889.2.1 bt889.2.2.1 bt889.2.2.2.1 bt889.2.2.2.2.1 bt889.2.2.2.2.2 bt895.1).bind fun bt901 => ((whittleref2_as.f bt895.1 bt895.2.1 bt895.2.2.1 bt895.2.2.2.1 bt895.2.2.2.2.1 bt895.2.2.2.2.2 bt889.1).bind fun bt908 => (if bt901.1 = bt908.1 then (if bt901.1 = 1 then ((whittleref1_Cmp.f k bt901.2.1 bt901.2.2.1 bt908.2.1 bt908.2.2.1).bind fun t918 => (some t918)) else (if bt901.1 = 2 then (if (Op.bytesLess bt901.2.2.2.1.toList bt908.2.2.2.1.toList) = true then (some (-1)) else (if (Op.bytesLess bt908.2.2.2.1.toList bt901.2.2.2.1.toList) = true then (some 1) else (some 0))) else (if bt901.1 = 3 then (if (bt901.2.2.2.2.1 == bt908.2.2.2.2.1) = true then (some 0) else (if bt908.2.2.2.2.1 = true then (some (-1)) else (some 1))) else ((whittleref2_order.f bt901.2.2.2.2.2 bt908.2.2.2.2.2).bind fun t919 => (some t919))))) else ((whittleref2_rank.f bt901.1).bind fun t915 => ((whittleref2_rank.f bt908.1).bind fun t916 => ((whittleref2_order.f t915 t916).bind fun t917 => (some t917))))))))) = some r := h
 clear h
 replace H := Option.bind_eq_some_iff.mp H
 obtain ⟨⟨t889, t890, t891, t892, t893, t894⟩, A30, H⟩ := H
 have A3 := Aside0.mk A30
 clear A30
 replace H := Option.bind_eq_some_iff.mp H
 obtain ⟨⟨t895, t896, t897, t898, t899, t900⟩, A40, H⟩ := H
 have A4 := Aside0.mk A40
 clear A40
 replace H := Option.bind_eq_some_iff.mp H
 obtain ⟨⟨t901, t902, t903, t904, t905, t906⟩, A50, H⟩ := H
 have A5 := Aside0.mk A50
 clear A50
 replace H := Option.bind_eq_some_iff.mp H
 obtain ⟨⟨t908, t909, t910, t911, t912, t913⟩, A60, H⟩ := H
 replace H : (if t901 = t908 then (if t901 = 1 then ((whittleref1_Cmp.f k t902 t903 t909 t910).bind fun t918 => (some t918)) else (if t901 = 2 then (if (Op.bytesLess t904.toList t911.toList) = true then (some (-1)) else (if (Op.bytesLess t911.toList t904.toList) = true then (some 1) else (some 0))) else (if t901 = 3 then (if (t905 == t912) = true then (some 0) else (if t912 = true then (some (-1)) else (some 1))) else ((whittleref2_order.f t906 t913).bind fun t919 => (some t919))))) else ((whittleref2_rank.f t901).bind fun t915 => ((whittleref2_rank.f t908).bind fun t916 => ((whittleref2_order.f t915 t916).bind fun t917 => (some t917))))) = some r := H
 have A6 := Aside0.mk A60
 clear A60
 by_cases c7 : t901 = t908
 ·rw [if_pos c7] at H
  have c7b0 : (t901 == t908) = true := beq_iff_eq.mpr c7
  have c7b1 : (t901 != t908) = false := bne_eq_false_iff_eq.mpr c7
  clear c7
  by_cases c8 : t901 = 1
  ·rw [if_pos c8] at H
   have c8b0 : (t901 == 1) = true := beq_iff_eq.mpr c8
   have c8b1 : (t901 != 1) = false := bne_eq_false_iff_eq.mpr c8
   clear c8
   replace H := Option.bind_eq_some_iff.mp H
   obtain ⟨t918, A90, H⟩ := H
   replace H : (some t918) = some r := H
   have A9 := Aside0.mk A90
   clear A90
   obtain rfl := Option.some.inj H
   go_enter Tryd.func33, Tryd.ntmps33
   go_wp2_with (first | ((with_reducible refine gate_dst (N := 2) rfl ?_); refine bxe 2 #[.int .i64 a0_0, .int .i64 a0_1, .int .i64 a0_2, .string a0_3, .bool a0_4, .int .i64 a0_5] 25 rfl rfl gr ?_; clear BX; intro gb887 w10 GE887 BX) | ((with_reducible refine gate_dst (N := 3) rfl ?_); refine bxe 3 #[.int .i64 a1_0, .int .i64 a1_1, .int .i64 a1_2, .string a1_3, .bool a1_4, .int .i64 a1_5] 25 rfl rfl gr ?_; clear BX; intro gb888 w11 GE888 BX) | (go_at_call 60; (with_reducible refine (whittleref2_Of.calls k a0_0 a0_1 a0_2 a0_3 a0_4 a0_5 t889 t890 t891 t892 t893 t894 _ A3.out).mono ?_); rintro e w14 ⟨rfl, hb⟩; replace BX := bx_call hb; clear hb) | (go_at_call 60; (with_reducible refine (whittleref2_Of.calls k a1_0 a1_1 a1_2 a1_3 a1_4 a1_5 t895 t896 t897 t898 t899 t900 _ A4.out).mono ?_); rintro e w17 ⟨rfl, hb⟩; replace BX := bx_call hb; clear hb) | (go_at_call 68; (with_reducible refine (whittleref2_as.calls t889 t890 t891 t892 t893 t894 t895 t901 t902 t903 t904 t905 t906 _ A5.out).mono ?_); rintro e w20 ⟨rfl, hb⟩; replace BX := bx_call hb; clear hb) | ((with_reducible refine gate_dst (N := 5) rfl ?_); refine bxe 5 #[.int .i64 0, .int .i64 0, .int .i64 0, .string (⟨#[]⟩ : ByteArray), .bool false, .int .i64 0] 25 rfl rfl gr ?_; clear BX; intro gb907 w21 GE907 BX) | (go_at_call 68; (with_reducible refine (whittleref2_as.calls t895 t896 t897 t898 t899 t900 t889 t908 t909 t910 t911 t912 t913 _ A6.out).mono ?_); rintro e w27 ⟨rfl, hb⟩; replace BX := bx_call hb; clear hb) | ((with_reducible refine gate_dst (N := 6) rfl ?_); refine bxe 6 #[.int .i64 0, .int .i64 0, .int .i64 0, .string (⟨#[]⟩ : ByteArray), .bool false, .int .i64 0] 25 rfl rfl gr ?_; clear BX; intro gb914 w28 GE914 BX) | (go_at_call 71; (with_reducible refine (whittleref1_Cmp.calls k t902 t903 t909 t910 t918 _ A9.out).mono ?_); rintro e w34 ⟨rfl, hb⟩; replace BX := bx_call hb; clear hb))
   repeat (go_quiet (first | ((with_reducible refine gate_dst (N := 2) rfl ?_); refine bxe 2 #[.int .i64 a0_0, .int .i64 a0_1, .int .i64 a0_2, .string a0_3, .bool a0_4, .int .i64 a0_5] 25 rfl rfl gr ?_; clear BX; intro gb887 w10 GE887 BX) | ((with_reducible refine gate_dst (N := 3) rfl ?_); refine bxe 3 #[.int .i64 a1_0, .int .i64 a1_1, .int .i64 a1_2, .string a1_3, .bool a1_4, .int .i64 a1_5] 25 rfl rfl gr ?_; clear BX; intro gb888 w11 GE888 BX) | (go_at_call 60; (with_reducible refine (whittleref2_Of.calls k a0_0 a0_1 a0_2 a0_3 a0_4 a0_5 t889 t890 t891 t892 t893 t894 _ A3.out).mono ?_); rintro e w14 ⟨rfl, hb⟩; replace BX := bx_call hb; clear hb) | (go_at_call 60; (with_reducible refine (whittleref2_Of.calls k a1_0 a1_1 a1_2 a1_3 a1_4 a1_5 t895 t896 t897 t898 t899 t900 _ A4.out).mono ?_); rintro e w17 ⟨rfl, hb⟩; replace BX := bx_call hb; clear hb) | (go_at_call 68; (with_reducible refine (whittleref2_as.calls t889 t890 t891 t892 t893 t894 t895 t901 t902 t903 t904 t905 t906 _ A5.out).mono ?_); rintro e w20 ⟨rfl, hb⟩; replace BX := bx_call hb; clear hb) | ((with_reducible refine gate_dst (N := 5) rfl ?_); refine bxe 5 #[.int .i64 0, .int .i64 0, .int .i64 0, .string (⟨#[]⟩ : ByteArray), .bool false, .int .i64 0] 25 rfl rfl gr ?_; clear BX; intro gb907 w21 GE907 BX) | (go_at_call 68; (with_reducible refine (whittleref2_as.calls t895 t896 t897 t898 t899 t900 t889 t908 t909 t910 t911 t912 t913 _ A6.out).mono ?_); rintro e w27 ⟨rfl, hb⟩; replace BX := bx_call hb; clear hb) | ((with_reducible refine gate_dst (N := 6) rfl ?_); refine bxe 6 #[.int .i64 0, .int .i64 0, .int .i64 0, .string (⟨#[]⟩ : ByteArray), .bool false, .int .i64 0] 25 rfl rfl gr ?_; clear BX; intro gb914 w28 GE914 BX) | (go_at_call 71; (with_reducible refine (whittleref1_Cmp.calls k t902 t903 t909 t910 t918 _ A9.out).mono ?_); rintro e w34 ⟨rfl, hb⟩; replace BX := bx_call hb; clear hb)); try go_wp2_with (first | ((with_reducible refine gate_dst (N := 2) rfl ?_); refine bxe 2 #[.int .i64 a0_0, .int .i64 a0_1, .int .i64 a0_2, .string a0_3, .bool a0_4, .int .i64 a0_5] 25 rfl rfl gr ?_; clear BX; intro gb887 w10 GE887 BX) | ((with_reducible refine gate_dst (N := 3) rfl ?_); refine bxe 3 #[.int .i64 a1_0, .int .i64 a1_1, .int .i64 a1_2, .string a1_3, .bool a1_4, .int .i64 a1_5] 25 rfl rfl gr ?_; clear BX; intro gb888 w11 GE888 BX) | (go_at_call 60; (with_reducible refine (whittleref2_Of.calls k a0_0 a0_1 a0_2 a0_3 a0_4 a0_5 t889 t890 t891 t892 t893 t894 _ A3.out).mono ?_); rintro e w14 ⟨rfl, hb⟩; replace BX := bx_call hb; clear hb) | (go_at_call 60; (with_reducible refine (whittleref2_Of.calls k a1_0 a1_1 a1_2 a1_3 a1_4 a1_5 t895 t896 t897 t898 t899 t900 _ A4.out).mono ?_); rintro e w17 ⟨rfl, hb⟩; replace BX := bx_call hb; clear hb) | (go_at_call 68; (with_reducible refine (whittleref2_as.calls t889 t890 t891 t892 t893 t894 t895 t901 t902 t903 t904 t905 t906 _ A5.out).mono ?_); rintro e w20 ⟨rfl, hb⟩; replace BX := bx_call hb; clear hb) | ((with_reducible refine gate_dst (N := 5) rfl ?_); refine bxe 5 #[.int .i64 0, .int .i64 0, .int .i64 0, .string (⟨#[]⟩ : ByteArray), .bool false, .int .i64 0] 25 rfl rfl gr ?_; clear BX; intro gb907 w21 GE907 BX) | (go_at_call 68; (with_reducible refine (whittleref2_as.calls t895 t896 t897 t898 t899 t900 t889 t908 t909 t910 t911 t912 t913 _ A6.out).mono ?_); rintro e w27 ⟨rfl, hb⟩; replace BX := bx_call hb; clear hb) | ((with_reducible refine gate_dst (N := 6) rfl ?_); refine bxe 6 #[.int .i64 0, .int .i64 0, .int .i64 0, .string (⟨#[]⟩ : ByteArray), .bool false, .int .i64 0] 25 rfl rfl gr ?_; clear BX; intro gb914 w28 GE914 BX) | (go_at_call 71; (with_reducible refine (whittleref1_Cmp.calls k t902 t903 t909 t910 t918 _ A9.out).mono ?_); rintro e w34 ⟨rfl, hb⟩; replace BX := bx_call hb; clear hb)))
   go_ret
   exact ⟨er2, bx_bl⟩
  ·rw [if_neg c8] at H
   have c8b0 : (t901 == 1) = false := beq_eq_false_iff_ne.mpr c8
   have c8b1 : (t901 != 1) = true := bne_iff_ne.mpr c8
   by_cases c35 : t901 = 2
   ·rw [if_pos c35] at H
    have c35b0 : (t901 == 2) = true := beq_iff_eq.mpr c35
    have c35b1 : (t901 != 2) = false := bne_eq_false_iff_eq.mpr c35
    clear c35
    by_cases c36 : (Op.bytesLess t904.toList t911.toList) = true
    ·rw [if_pos c36] at H
     have c36b0 : (Op.bytesLess t904.toList t911.toList) = true := c36
     clear c36
     obtain rfl := Option.some.inj H
     go_enter Tryd.func33, Tryd.ntmps33
     go_wp2_with (first | ((with_reducible refine gate_dst (N := 2) rfl ?_); refine bxe 2 #[.int .i64 a0_0, .int .i64 a0_1, .int .i64 a0_2, .string a0_3, .bool a0_4, .int .i64 a0_5] 25 rfl rfl gr ?_; clear BX; intro gb887 w37 GE887 BX) | ((with_reducible refine gate_dst (N := 3) rfl ?_); refine bxe 3 #[.int .i64 a1_0, .int .i64 a1_1, .int .i64 a1_2, .string a1_3, .bool a1_4, .int .i64 a1_5] 25 rfl rfl gr ?_; clear BX; intro gb888 w38 GE888 BX) | (go_at_call 60; (with_reducible refine (whittleref2_Of.calls k a0_0 a0_1 a0_2 a0_3 a0_4 a0_5 t889 t890 t891 t892 t893 t894 _ A3.out).mono ?_); rintro e w41 ⟨rfl, hb⟩; replace BX := bx_call hb; clear hb) | (go_at_call 60; (with_reducible refine (whittleref2_Of.calls k a1_0 a1_1 a1_2 a1_3 a1_4 a1_5 t895 t896 t897 t898 t899 t900 _ A4.out).mono ?_); rintro e w44 ⟨rfl, hb⟩; replace BX := bx_call hb; clear hb) | (go_at_call 68; (with_reducible refine (whittleref2_as.calls t889 t890 t891 t892 t893 t894 t895 t901 t902 t903 t904 t905 t906 _ A5.out).mono ?_); rintro e w47 ⟨rfl, hb⟩; replace BX := bx_call hb; clear hb) | ((with_reducible refine gate_dst (N := 5) rfl ?_); refine bxe 5 #[.int .i64 0, .int .i64 0, .int .i64 0, .string (⟨#[]⟩ : ByteArray), .bool false, .int .i64 0] 25 rfl rfl gr ?_; clear BX; intro gb907 w48 GE907 BX) | (go_at_call 68; (with_reducible refine (whittleref2_as.calls t895 t896 t897 t898 t899 t900 t889 t908 t909 t910 t911 t912 t913 _ A6.out).mono ?_); rintro e w54 ⟨rfl, hb⟩; replace BX := bx_call hb; clear hb) | ((with_reducible refine gate_dst (N := 6) rfl ?_); refine bxe 6 #[.int .i64 0, .int .i64 0, .int .i64 0, .string (⟨#[]⟩ : ByteArray), .bool false, .int .i64 0] 25 rfl rfl gr ?_; clear BX; intro gb914 w55 GE914 BX))
     repeat (go_quiet (first | ((with_reducible refine gate_dst (N := 2) rfl ?_); refine bxe 2 #[.int .i64 a0_0, .int .i64 a0_1, .int .i64 a0_2, .string a0_3, .bool a0_4, .int .i64 a0_5] 25 rfl rfl gr ?_; clear BX; intro gb887 w37 GE887 BX) | ((with_reducible refine gate_dst (N := 3) rfl ?_); refine bxe 3 #[.int .i64 a1_0, .int .i64 a1_1, .int .i64 a1_2, .string a1_3, .bool a1_4, .int .i64 a1_5] 25 rfl rfl gr ?_; clear BX; intro gb888 w38 GE888 BX) | (go_at_call 60; (with_reducible refine (whittleref2_Of.calls k a0_0 a0_1 a0_2 a0_3 a0_4 a0_5 t889 t890 t891 t892 t893 t894 _ A3.out).mono ?_); rintro e w41 ⟨rfl, hb⟩; replace BX := bx_call hb; clear hb) | (go_at_call 60; (with_reducible refine (whittleref2_Of.calls k a1_0 a1_1 a1_2 a1_3 a1_4 a1_5 t895 t896 t897 t898 t899 t900 _ A4.out).mono ?_); rintro e w44 ⟨rfl, hb⟩; replace BX := bx_call hb; clear hb) | (go_at_call 68; (with_reducible refine (whittleref2_as.calls t889 t890 t891 t892 t893 t894 t895 t901 t902 t903 t904 t905 t906 _ A5.out).mono ?_); rintro e w47 ⟨rfl, hb⟩; replace BX := bx_call hb; clear hb) | ((with_reducible refine gate_dst (N := 5) rfl ?_); refine bxe 5 #[.int .i64 0, .int .i64 0, .int .i64 0, .string (⟨#[]⟩ : ByteArray), .bool false, .int .i64 0] 25 rfl rfl gr ?_; clear BX; intro gb907 w48 GE907 BX) | (go_at_call 68; (with_reducible refine (whittleref2_as.calls t895 t896 t897 t898 t899 t900 t889 t908 t909 t910 t911 t912 t913 _ A6.out).mono ?_); rintro e w54 ⟨rfl, hb⟩; replace BX := bx_call hb; clear hb) | ((with_reducible refine gate_dst (N := 6) rfl ?_); refine bxe 6 #[.int .i64 0, .int .i64 0, .int .i64 0, .string (⟨#[]⟩ : ByteArray), .bool false, .int .i64 0] 25 rfl rfl gr ?_; clear BX; intro gb914 w55 GE914 BX)); try go_wp2_with (first | ((with_reducible refine gate_dst (N := 2) rfl ?_); refine bxe 2 #[.int .i64 a0_0, .int .i64 a0_1, .int .i64 a0_2, .string a0_3, .bool a0_4, .int .i64 a0_5] 25 rfl rfl gr ?_; clear BX; intro gb887 w37 GE887 BX) | ((with_reducible refine gate_dst (N := 3) rfl ?_); refine bxe 3 #[.int .i64 a1_0, .int .i64 a1_1, .int .i64 a1_2, .string a1_3, .bool a1_4, .int .i64 a1_5] 25 rfl rfl gr ?_; clear BX; intro gb888 w38 GE888 BX) | (go_at_call 60; (with_reducible refine (whittleref2_Of.calls k a0_0 a0_1 a0_2 a0_3 a0_4 a0_5 t889 t890 t891 t892 t893 t894 _ A3.out).mono ?_); rintro e w41 ⟨rfl, hb⟩; replace BX := bx_call hb; clear hb) | (go_at_call 60; (with_reducible refine (whittleref2_Of.calls k a1_0 a1_1 a1_2 a1_3 a1_4 a1_5 t895 t896 t897 t898 t899 t900 _ A4.out).mono ?_); rintro e w44 ⟨rfl, hb⟩; replace BX := bx_call hb; clear hb) | (go_at_call 68; (with_reducible refine (whittleref2_as.calls t889 t890 t891 t892 t893 t894 t895 t901 t902 t903 t904 t905 t906 _ A5.out).mono ?_); rintro e w47 ⟨rfl, hb⟩; replace BX := bx_call hb; clear hb) | ((with_reducible refine gate_dst (N := 5) rfl ?_); refine bxe 5 #[.int .i64 0, .int .i64 0, .int .i64 0, .string (⟨#[]⟩ : ByteArray), .bool false, .int .i64 0] 25 rfl rfl gr ?_; clear BX; intro gb907 w48 GE907 BX) | (go_at_call 68; (with_reducible refine (whittleref2_as.calls t895 t896 t897 t898 t899 t900 t889 t908 t909 t910 t911 t912 t913 _ A6.out).mono ?_); rintro e w54 ⟨rfl, hb⟩; replace BX := bx_call hb; clear hb) | ((with_reducible refine gate_dst (N := 6) rfl ?_); refine bxe 6 #[.int .i64 0, .int .i64 0, .int .i64 0, .string (⟨#[]⟩ : ByteArray), .bool false, .int .i64 0] 25 rfl rfl gr ?_; clear BX; intro gb914 w55 GE914 BX)))
     go_ret
     exact ⟨er2, bx_bl⟩
    ·rw [if_neg c36] at H
     have c36b0 : (Op.bytesLess t904.toList t911.toList) = false := by simpa using c36
     clear c36
     by_cases c61 : (Op.bytesLess t911.toList t904.toList) = true
     ·rw [if_pos c61] at H
      have c61b0 : (Op.bytesLess t911.toList t904.toList) = true := c61
      clear c61
      obtain rfl := Option.some.inj H
      go_enter Tryd.func33, Tryd.ntmps33
      go_wp2_with (first | ((with_reducible refine gate_dst (N := 2) rfl ?_); refine bxe 2 #[.int .i64 a0_0, .int .i64 a0_1, .int .i64 a0_2, .string a0_3, .bool a0_4, .int .i64 a0_5] 25 rfl rfl gr ?_; clear BX; intro gb887 w62 GE887 BX) | ((with_reducible refine gate_dst (N := 3) rfl ?_); refine bxe 3 #[.int .i64 a1_0, .int .i64 a1_1, .int .i64 a1_2, .string a1_3, .bool a1_4, .int .i64 a1_5] 25 rfl rfl gr ?_; clear BX; intro gb888 w63 GE888 BX) | (go_at_call 60; (with_reducible refine (whittleref2_Of.calls k a0_0 a0_1 a0_2 a0_3 a0_4 a0_5 t889 t890 t891 t892 t893 t894 _ A3.out).mono ?_); rintro e w66 ⟨rfl, hb⟩; replace BX := bx_call hb; clear hb) | (go_at_call 60; (with_reducible refine (whittleref2_Of.calls k a1_0 a1_1 a1_2 a1_3 a1_4 a1_5 t895 t896 t897 t898 t899 t900 _ A4.out).mono ?_); rintro e w69 ⟨rfl, hb⟩; replace BX := bx_call hb; clear hb) | (go_at_call 68; (with_reducible refine (whittleref2_as.calls t889 t890 t891 t892 t893 t894 t895 t901 t902 t903 t904 t905 t906 _ A5.out).mono ?_); rintro e w72 ⟨rfl, hb⟩; replace BX := bx_call hb; clear hb) | ((with_reducible refine gate_dst (N := 5) rfl ?_); refine bxe 5 #[.int .i64 0, .int .i64 0, .int .i64 0, .string (⟨#[]⟩ : ByteArray), .bool false, .int .i64 0] 25 rfl rfl gr ?_; clear BX; intro gb907 w73 GE907 BX) | (go_at_call 68; (with_reducible refine (whittleref2_as.calls t895 t896 t897 t898 t899 t900 t889 t908 t909 t910 t911 t912 t913 _ A6.out).mono ?_); rintro e w79 ⟨rfl, hb⟩; replace BX := bx_call hb; clear hb) | ((with_reducible refine gate_dst (N := 6) rfl ?_); refine bxe 6 #[.int .i64 0, .int .i64 0, .int .i64 0, .string (⟨#[]⟩ : ByteArray), .bool false, .int .i64 0] 25 rfl rfl gr ?_; clear BX; intro gb914 w80 GE914 BX))
      repeat (go_quiet (first | ((with_reducible refine gate_dst (N := 2) rfl ?_); refine bxe 2 #[.int .i64 a0_0, .int .i64 a0_1, .int .i64 a0_2, .string a0_3, .bool a0_4, .int .i64 a0_5] 25 rfl rfl gr ?_; clear BX; intro gb887 w62 GE887 BX) | ((with_reducible refine gate_dst (N := 3) rfl ?_); refine bxe 3 #[.int .i64 a1_0, .int .i64 a1_1, .int .i64 a1_2, .string a1_3, .bool a1_4, .int .i64 a1_5] 25 rfl rfl gr ?_; clear BX; intro gb888 w63 GE888 BX) | (go_at_call 60; (with_reducible refine (whittleref2_Of.calls k a0_0 a0_1 a0_2 a0_3 a0_4 a0_5 t889 t890 t891 t892 t893 t894 _ A3.out).mono ?_); rintro e w66 ⟨rfl, hb⟩; replace BX := bx_call hb; clear hb) | (go_at_call 60; (with_reducible refine (whittleref2_Of.calls k a1_0 a1_1 a1_2 a1_3 a1_4 a1_5 t895 t896 t897 t898 t899 t900 _ A4.out).mono ?_); rintro e w69 ⟨rfl, hb⟩; replace BX := bx_call hb; clear hb) | (go_at_call 68; (with_reducible refine (whittleref2_as.calls t889 t890 t891 t892 t893 t894 t895 t901 t902 t903 t904 t905 t906 _ A5.out).mono ?_); rintro e w72 ⟨rfl, hb⟩; replace BX := bx_call hb; clear hb) | ((with_reducible refine gate_dst (N := 5) rfl ?_); refine bxe 5 #[.int .i64 0, .int .i64 0, .int .i64 0, .string (⟨#[]⟩ : ByteArray), .bool false, .int .i64 0] 25 rfl rfl gr ?_; clear BX; intro gb907 w73 GE907 BX) | (go_at_call 68; (with_reducible refine (whittleref2_as.calls t895 t896 t897 t898 t899 t900 t889 t908 t909 t910 t911 t912 t913 _ A6.out).mono ?_); rintro e w79 ⟨rfl, hb⟩; replace BX := bx_call hb; clear hb) | ((with_reducible refine gate_dst (N := 6) rfl ?_); refine bxe 6 #[.int .i64 0, .int .i64 0, .int .i64 0, .string (⟨#[]⟩ : ByteArray), .bool false, .int .i64 0] 25 rfl rfl gr ?_; clear BX; intro gb914 w80 GE914 BX)); try go_wp2_with (first | ((with_reducible refine gate_dst (N := 2) rfl ?_); refine bxe 2 #[.int .i64 a0_0, .int .i64 a0_1, .int .i64 a0_2, .string a0_3, .bool a0_4, .int .i64 a0_5] 25 rfl rfl gr ?_; clear BX; intro gb887 w62 GE887 BX) | ((with_reducible refine gate_dst (N := 3) rfl ?_); refine bxe 3 #[.int .i64 a1_0, .int .i64 a1_1, .int .i64 a1_2, .string a1_3, .bool a1_4, .int .i64 a1_5] 25 rfl rfl gr ?_; clear BX; intro gb888 w63 GE888 BX) | (go_at_call 60; (with_reducible refine (whittleref2_Of.calls k a0_0 a0_1 a0_2 a0_3 a0_4 a0_5 t889 t890 t891 t892 t893 t894 _ A3.out).mono ?_); rintro e w66 ⟨rfl, hb⟩; replace BX := bx_call hb; clear hb) | (go_at_call 60; (with_reducible refine (whittleref2_Of.calls k a1_0 a1_1 a1_2 a1_3 a1_4 a1_5 t895 t896 t897 t898 t899 t900 _ A4.out).mono ?_); rintro e w69 ⟨rfl, hb⟩; replace BX := bx_call hb; clear hb) | (go_at_call 68; (with_reducible refine (whittleref2_as.calls t889 t890 t891 t892 t893 t894 t895 t901 t902 t903 t904 t905 t906 _ A5.out).mono ?_); rintro e w72 ⟨rfl, hb⟩; replace BX := bx_call hb; clear hb) | ((with_reducible refine gate_dst (N := 5) rfl ?_); refine bxe 5 #[.int .i64 0, .int .i64 0, .int .i64 0, .string (⟨#[]⟩ : ByteArray), .bool false, .int .i64 0] 25 rfl rfl gr ?_; clear BX; intro gb907 w73 GE907 BX) | (go_at_call 68; (with_reducible refine (whittleref2_as.calls t895 t896 t897 t898 t899 t900 t889 t908 t909 t910 t911 t912 t913 _ A6.out).mono ?_); rintro e w79 ⟨rfl, hb⟩; replace BX := bx_call hb; clear hb) | ((with_reducible refine gate_dst (N := 6) rfl ?_); refine bxe 6 #[.int .i64 0, .int .i64 0, .int .i64 0, .string (⟨#[]⟩ : ByteArray), .bool false, .int .i64 0] 25 rfl rfl gr ?_; clear BX; intro gb914 w80 GE914 BX)))
      go_ret
      exact ⟨er2, bx_bl⟩
     ·rw [if_neg c61] at H
      have c61b0 : (Op.bytesLess t911.toList t904.toList) = false := by simpa using c61
      clear c61
      obtain rfl := Option.some.inj H
      go_enter Tryd.func33, Tryd.ntmps33
      go_wp2_with (first | ((with_reducible refine gate_dst (N := 2) rfl ?_); refine bxe 2 #[.int .i64 a0_0, .int .i64 a0_1, .int .i64 a0_2, .string a0_3, .bool a0_4, .int .i64 a0_5] 25 rfl rfl gr ?_; clear BX; intro gb887 w86 GE887 BX) | ((with_reducible refine gate_dst (N := 3) rfl ?_); refine bxe 3 #[.int .i64 a1_0, .int .i64 a1_1, .int .i64 a1_2, .string a1_3, .bool a1_4, .int .i64 a1_5] 25 rfl rfl gr ?_; clear BX; intro gb888 w87 GE888 BX) | (go_at_call 60; (with_reducible refine (whittleref2_Of.calls k a0_0 a0_1 a0_2 a0_3 a0_4 a0_5 t889 t890 t891 t892 t893 t894 _ A3.out).mono ?_); rintro e w90 ⟨rfl, hb⟩; replace BX := bx_call hb; clear hb) | (go_at_call 60; (with_reducible refine (whittleref2_Of.calls k a1_0 a1_1 a1_2 a1_3 a1_4 a1_5 t895 t896 t897 t898 t899 t900 _ A4.out).mono ?_); rintro e w93 ⟨rfl, hb⟩; replace BX := bx_call hb; clear hb) | (go_at_call 68; (with_reducible refine (whittleref2_as.calls t889 t890 t891 t892 t893 t894 t895 t901 t902 t903 t904 t905 t906 _ A5.out).mono ?_); rintro e w96 ⟨rfl, hb⟩; replace BX := bx_call hb; clear hb) | ((with_reducible refine gate_dst (N := 5) rfl ?_); refine bxe 5 #[.int .i64 0, .int .i64 0, .int .i64 0, .string (⟨#[]⟩ : ByteArray), .bool false, .int .i64 0] 25 rfl rfl gr ?_; clear BX; intro gb907 w97 GE907 BX) | (go_at_call 68; (with_reducible refine (whittleref2_as.calls t895 t896 t897 t898 t899 t900 t889 t908 t909 t910 t911 t912 t913 _ A6.out).mono ?_); rintro e w103 ⟨rfl, hb⟩; replace BX := bx_call hb; clear hb) | ((with_reducible refine gate_dst (N := 6) rfl ?_); refine bxe 6 #[.int .i64 0, .int .i64 0, .int .i64 0, .string (⟨#[]⟩ : ByteArray), .bool false, .int .i64 0] 25 rfl rfl gr ?_; clear BX; intro gb914 w104 GE914 BX))
      repeat (go_quiet (first | ((with_reducible refine gate_dst (N := 2) rfl ?_); refine bxe 2 #[.int .i64 a0_0, .int .i64 a0_1, .int .i64 a0_2, .string a0_3, .bool a0_4, .int .i64 a0_5] 25 rfl rfl gr ?_; clear BX; intro gb887 w86 GE887 BX) | ((with_reducible refine gate_dst (N := 3) rfl ?_); refine bxe 3 #[.int .i64 a1_0, .int .i64 a1_1, .int .i64 a1_2, .string a1_3, .bool a1_4, .int .i64 a1_5] 25 rfl rfl gr ?_; clear BX; intro gb888 w87 GE888 BX) | (go_at_call 60; (with_reducible refine (whittleref2_Of.calls k a0_0 a0_1 a0_2 a0_3 a0_4 a0_5 t889 t890 t891 t892 t893 t894 _ A3.out).mono ?_); rintro e w90 ⟨rfl, hb⟩; replace BX := bx_call hb; clear hb) | (go_at_call 60; (with_reducible refine (whittleref2_Of.calls k a1_0 a1_1 a1_2 a1_3 a1_4 a1_5 t895 t896 t897 t898 t899 t900 _ A4.out).mono ?_); rintro e w93 ⟨rfl, hb⟩; replace BX := bx_call hb; clear hb) | (go_at_call 68; (with_reducible refine (whittleref2_as.calls t889 t890 t891 t892 t893 t894 t895 t901 t902 t903 t904 t905 t906 _ A5.out).mono ?_); rintro e w96 ⟨rfl, hb⟩; replace BX := bx_call hb; clear hb) | ((with_reducible refine gate_dst (N := 5) rfl ?_); refine bxe 5 #[.int .i64 0, .int .i64 0, .int .i64 0, .string (⟨#[]⟩ : ByteArray), .bool false, .int .i64 0] 25 rfl rfl gr ?_; clear BX; intro gb907 w97 GE907 BX) | (go_at_call 68; (with_reducible refine (whittleref2_as.calls t895 t896 t897 t898 t899 t900 t889 t908 t909 t910 t911 t912 t913 _ A6.out).mono ?_); rintro e w103 ⟨rfl, hb⟩; replace BX := bx_call hb; clear hb) | ((with_reducible refine gate_dst (N := 6) rfl ?_); refine bxe 6 #[.int .i64 0, .int .i64 0, .int .i64 0, .string (⟨#[]⟩ : ByteArray), .bool false, .int .i64 0] 25 rfl rfl gr ?_; clear BX; intro gb914 w104 GE914 BX)); try go_wp2_with (first | ((with_reducible refine gate_dst (N := 2) rfl ?_); refine bxe 2 #[.int .i64 a0_0, .int .i64 a0_1, .int .i64 a0_2, .string a0_3, .bool a0_4, .int .i64 a0_5] 25 rfl rfl gr ?_; clear BX; intro gb887 w86 GE887 BX) | ((with_reducible refine gate_dst (N := 3) rfl ?_); refine bxe 3 #[.int .i64 a1_0, .int .i64 a1_1, .int .i64 a1_2, .string a1_3, .bool a1_4, .int .i64 a1_5] 25 rfl rfl gr ?_; clear BX; intro gb888 w87 GE888 BX) | (go_at_call 60; (with_reducible refine (whittleref2_Of.calls k a0_0 a0_1 a0_2 a0_3 a0_4 a0_5 t889 t890 t891 t892 t893 t894 _ A3.out).mono ?_); rintro e w90 ⟨rfl, hb⟩; replace BX := bx_call hb; clear hb) | (go_at_call 60; (with_reducible refine (whittleref2_Of.calls k a1_0 a1_1 a1_2 a1_3 a1_4 a1_5 t895 t896 t897 t898 t899 t900 _ A4.out).mono ?_); rintro e w93 ⟨rfl, hb⟩; replace BX := bx_call hb; clear hb) | (go_at_call 68; (with_reducible refine (whittleref2_as.calls t889 t890 t891 t892 t893 t894 t895 t901 t902 t903 t904 t905 t906 _ A5.out).mono ?_); rintro e w96 ⟨rfl, hb⟩; replace BX := bx_call hb; clear hb) | ((with_reducible refine gate_dst (N := 5) rfl ?_); refine bxe 5 #[.int .i64 0, .int .i64 0, .int .i64 0, .string (⟨#[]⟩ : ByteArray), .bool false, .int .i64 0] 25 rfl rfl gr ?_; clear BX; intro gb907 w97 GE907 BX) | (go_at_call 68; (with_reducible refine (whittleref2_as.calls t895 t896 t897 t898 t899 t900 t889 t908 t909 t910 t911 t912 t913 _ A6.out).mono ?_); rintro e w103 ⟨rfl, hb⟩; replace BX := bx_call hb; clear hb) | ((with_reducible refine gate_dst (N := 6) rfl ?_); refine bxe 6 #[.int .i64 0, .int .i64 0, .int .i64 0, .string (⟨#[]⟩ : ByteArray), .bool false, .int .i64 0] 25 rfl rfl gr ?_; clear BX; intro gb914 w104 GE914 BX)))
      go_ret
      exact ⟨er2, bx_bl⟩
   ·rw [if_neg c35] at H
    have c35b0 : (t901 == 2) = false := beq_eq_false_iff_ne.mpr c35
    have c35b1 : (t901 != 2) = true := bne_iff_ne.mpr c35
    by_cases c110 : t901 = 3
    ·rw [if_pos c110] at H
     have c110b0 : (t901 == 3) = true := beq_iff_eq.mpr c110
     have c110b1 : (t901 != 3) = false := bne_eq_false_iff_eq.mpr c110
     clear c110
     by_cases c111 : (t905 == t912) = true
     ·rw [if_pos c111] at H
      have c111b0 : (t905 == t912) = true := c111
      (try (have c111b1 : decide (t905 = t912) = true := by simpa using c111))
      (try (have c111b2 : (t905 == t912) = true := by simpa using c111))
      clear c111
      obtain rfl := Option.some.inj H
      go_enter Tryd.func33, Tryd.ntmps33
      go_wp2_with (first | ((with_reducible refine gate_dst (N := 2) rfl ?_); refine bxe 2 #[.int .i64 a0_0, .int .i64 a0_1, .int .i64 a0_2, .string a0_3, .bool a0_4, .int .i64 a0_5] 25 rfl rfl gr ?_; clear BX; intro gb887 w112 GE887 BX) | ((with_reducible refine gate_dst (N := 3) rfl ?_); refine bxe 3 #[.int .i64 a1_0, .int .i64 a1_1, .int .i64 a1_2, .string a1_3, .bool a1_4, .int .i64 a1_5] 25 rfl rfl gr ?_; clear BX; intro gb888 w113 GE888 BX) | (go_at_call 60; (with_reducible refine (whittleref2_Of.calls k a0_0 a0_1 a0_2 a0_3 a0_4 a0_5 t889 t890 t891 t892 t893 t894 _ A3.out).mono ?_); rintro e w116 ⟨rfl, hb⟩; replace BX := bx_call hb; clear hb) | (go_at_call 60; (with_reducible refine (whittleref2_Of.calls k a1_0 a1_1 a1_2 a1_3 a1_4 a1_5 t895 t896 t897 t898 t899 t900 _ A4.out).mono ?_); rintro e w119 ⟨rfl, hb⟩; replace BX := bx_call hb; clear hb) | (go_at_call 68; (with_reducible refine (whittleref2_as.calls t889 t890 t891 t892 t893 t894 t895 t901 t902 t903 t904 t905 t906 _ A5.out).mono ?_); rintro e w122 ⟨rfl, hb⟩; replace BX := bx_call hb; clear hb) | ((with_reducible refine gate_dst (N := 5) rfl ?_); refine bxe 5 #[.int .i64 0, .int .i64 0, .int .i64 0, .string (⟨#[]⟩ : ByteArray), .bool false, .int .i64 0] 25 rfl rfl gr ?_; clear BX; intro gb907 w123 GE907 BX) | (go_at_call 68; (with_reducible refine (whittleref2_as.calls t895 t896 t897 t898 t899 t900 t889 t908 t909 t910 t911 t912 t913 _ A6.out).mono ?_); rintro e w129 ⟨rfl, hb⟩; replace BX := bx_call hb; clear hb) | ((with_reducible refine gate_dst (N := 6) rfl ?_); refine bxe 6 #[.int .i64 0, .int .i64 0, .int .i64 0, .string (⟨#[]⟩ : ByteArray), .bool false, .int .i64 0] 25 rfl rfl gr ?_; clear BX; intro gb914 w130 GE914 BX))
      repeat (go_quiet (first | ((with_reducible refine gate_dst (N := 2) rfl ?_); refine bxe 2 #[.int .i64 a0_0, .int .i64 a0_1, .int .i64 a0_2, .string a0_3, .bool a0_4, .int .i64 a0_5] 25 rfl rfl gr ?_; clear BX; intro gb887 w112 GE887 BX) | ((with_reducible refine gate_dst (N := 3) rfl ?_); refine bxe 3 #[.int .i64 a1_0, .int .i64 a1_1, .int .i64 a1_2, .string a1_3, .bool a1_4, .int .i64 a1_5] 25 rfl rfl gr ?_; clear BX; intro gb888 w113 GE888 BX) | (go_at_call 60; (with_reducible refine (whittleref2_Of.calls k a0_0 a0_1 a0_2 a0_3 a0_4 a0_5 t889 t890 t891 t892 t893 t894 _ A3.out).mono ?_); rintro e w116 ⟨rfl, hb⟩; replace BX := bx_call hb; clear hb) | (go_at_call 60; (with_reducible refine (whittleref2_Of.calls k a1_0 a1_1 a1_2 a1_3 a1_4 a1_5 t895 t896 t897 t898 t899 t900 _ A4.out).mono ?_); rintro e w119 ⟨rfl, hb⟩; replace BX := bx_call hb; clear hb) | (go_at_call 68; (with_reducible refine (whittleref2_as.calls t889 t890 t891 t892 t893 t894 t895 t901 t902 t903 t904 t905 t906 _ A5.out).mono ?_); rintro e w122 ⟨rfl, hb⟩; replace BX := bx_call hb; clear hb) | ((with_reducible refine gate_dst (N := 5) rfl ?_); refine bxe 5 #[.int .i64 0, .int .i64 0, .int .i64 0, .string (⟨#[]⟩ : ByteArray), .bool false, .int .i64 0] 25 rfl rfl gr ?_; clear BX; intro gb907 w123 GE907 BX) | (go_at_call 68; (with_reducible refine (whittleref2_as.calls t895 t896 t897 t898 t899 t900 t889 t908 t909 t910 t911 t912 t913 _ A6.out).mono ?_); rintro e w129 ⟨rfl, hb⟩; replace BX := bx_call hb; clear hb) | ((with_reducible refine gate_dst (N := 6) rfl ?_); refine bxe 6 #[.int .i64 0, .int .i64 0, .int .i64 0, .string (⟨#[]⟩ : ByteArray), .bool false, .int .i64 0] 25 rfl rfl gr ?_; clear BX; intro gb914 w130 GE914 BX)); try go_wp2_with (first | ((with_reducible refine gate_dst (N := 2) rfl ?_); refine bxe 2 #[.int .i64 a0_0, .int .i64 a0_1, .int .i64 a0_2, .string a0_3, .bool a0_4, .int .i64 a0_5] 25 rfl rfl gr ?_; clear BX; intro gb887 w112 GE887 BX) | ((with_reducible refine gate_dst (N := 3) rfl ?_); refine bxe 3 #[.int .i64 a1_0, .int .i64 a1_1, .int .i64 a1_2, .string a1_3, .bool a1_4, .int .i64 a1_5] 25 rfl rfl gr ?_; clear BX; intro gb888 w113 GE888 BX) | (go_at_call 60; (with_reducible refine (whittleref2_Of.calls k a0_0 a0_1 a0_2 a0_3 a0_4 a0_5 t889 t890 t891 t892 t893 t894 _ A3.out).mono ?_); rintro e w116 ⟨rfl, hb⟩; replace BX := bx_call hb; clear hb) | (go_at_call 60; (with_reducible refine (whittleref2_Of.calls k a1_0 a1_1 a1_2 a1_3 a1_4 a1_5 t895 t896 t897 t898 t899 t900 _ A4.out).mono ?_); rintro e w119 ⟨rfl, hb⟩; replace BX := bx_call hb; clear hb) | (go_at_call 68; (with_reducible refine (whittleref2_as.calls t889 t890 t891 t892 t893 t894 t895 t901 t902 t903 t904 t905 t906 _ A5.out).mono ?_); rintro e w122 ⟨rfl, hb⟩; replace BX := bx_call hb; clear hb) | ((with_reducible refine gate_dst (N := 5) rfl ?_); refine bxe 5 #[.int .i64 0, .int .i64 0, .int .i64 0, .string (⟨#[]⟩ : ByteArray), .bool false, .int .i64 0] 25 rfl rfl gr ?_; clear BX; intro gb907 w123 GE907 BX) | (go_at_call 68; (with_reducible refine (whittleref2_as.calls t895 t896 t897 t898 t899 t900 t889 t908 t909 t910 t911 t912 t913 _ A6.out).mono ?_); rintro e w129 ⟨rfl, hb⟩; replace BX := bx_call hb; clear hb) | ((with_reducible refine gate_dst (N := 6) rfl ?_); refine bxe 6 #[.int .i64 0, .int .i64 0, .int .i64 0, .string (⟨#[]⟩ : ByteArray), .bool false, .int .i64 0] 25 rfl rfl gr ?_; clear BX; intro gb914 w130 GE914 BX)))
      go_ret
      exact ⟨er2, bx_bl⟩
     ·rw [if_neg c111] at H
      have c111b0 : (t905 == t912) = false := by simpa using c111
      (try (have c111b1 : decide (t905 = t912) = false := by simpa using c111))
      (try (have c111b2 : (t905 == t912) = false := by simpa using c111))
      (try (have c111b3 : ¬ (t905 = t912) := by simpa using c111))
      clear c111
      by_cases c136 : t912 = true
      ·subst c136
       have H1 : (some (-1)) = some r := by rw [if_pos rfl] at H; exact H
       clear H
       have H := H1
       clear H1
       obtain rfl := Option.some.inj H
       go_enter Tryd.func33, Tryd.ntmps33
       go_wp2_with (first | ((with_reducible refine gate_dst (N := 2) rfl ?_); refine bxe 2 #[.int .i64 a0_0, .int .i64 a0_1, .int .i64 a0_2, .string a0_3, .bool a0_4, .int .i64 a0_5] 25 rfl rfl gr ?_; clear BX; intro gb887 w137 GE887 BX) | ((with_reducible refine gate_dst (N := 3) rfl ?_); refine bxe 3 #[.int .i64 a1_0, .int .i64 a1_1, .int .i64 a1_2, .string a1_3, .bool a1_4, .int .i64 a1_5] 25 rfl rfl gr ?_; clear BX; intro gb888 w138 GE888 BX) | (go_at_call 60; (with_reducible refine (whittleref2_Of.calls k a0_0 a0_1 a0_2 a0_3 a0_4 a0_5 t889 t890 t891 t892 t893 t894 _ A3.out).mono ?_); rintro e w141 ⟨rfl, hb⟩; replace BX := bx_call hb; clear hb) | (go_at_call 60; (with_reducible refine (whittleref2_Of.calls k a1_0 a1_1 a1_2 a1_3 a1_4 a1_5 t895 t896 t897 t898 t899 t900 _ A4.out).mono ?_); rintro e w144 ⟨rfl, hb⟩; replace BX := bx_call hb; clear hb) | (go_at_call 68; (with_reducible refine (whittleref2_as.calls t889 t890 t891 t892 t893 t894 t895 t901 t902 t903 t904 t905 t906 _ A5.out).mono ?_); rintro e w147 ⟨rfl, hb⟩; replace BX := bx_call hb; clear hb) | ((with_reducible refine gate_dst (N := 5) rfl ?_); refine bxe 5 #[.int .i64 0, .int .i64 0, .int .i64 0, .string (⟨#[]⟩ : ByteArray), .bool false, .int .i64 0] 25 rfl rfl gr ?_; clear BX; intro gb907 w148 GE907 BX) | (go_at_call 68; (with_reducible refine (whittleref2_as.calls t895 t896 t897 t898 t899 t900 t889 t908 t909 t910 t911 true t913 _ A6.out).mono ?_); rintro e w154 ⟨rfl, hb⟩; replace BX := bx_call hb; clear hb) | ((with_reducible refine gate_dst (N := 6) rfl ?_); refine bxe 6 #[.int .i64 0, .int .i64 0, .int .i64 0, .string (⟨#[]⟩ : ByteArray), .bool false, .int .i64 0] 25 rfl rfl gr ?_; clear BX; intro gb914 w155 GE914 BX))
       repeat (go_quiet (first | ((with_reducible refine gate_dst (N := 2) rfl ?_); refine bxe 2 #[.int .i64 a0_0, .int .i64 a0_1, .int .i64 a0_2, .string a0_3, .bool a0_4, .int .i64 a0_5] 25 rfl rfl gr ?_; clear BX; intro gb887 w137 GE887 BX) | ((with_reducible refine gate_dst (N := 3) rfl ?_); refine bxe 3 #[.int .i64 a1_0, .int .i64 a1_1, .int .i64 a1_2, .string a1_3, .bool a1_4, .int .i64 a1_5] 25 rfl rfl gr ?_; clear BX; intro gb888 w138 GE888 BX) | (go_at_call 60; (with_reducible refine (whittleref2_Of.calls k a0_0 a0_1 a0_2 a0_3 a0_4 a0_5 t889 t890 t891 t892 t893 t894 _ A3.out).mono ?_); rintro e w141 ⟨rfl, hb⟩; replace BX := bx_call hb; clear hb) | (go_at_call 60; (with_reducible refine (whittleref2_Of.calls k a1_0 a1_1 a1_2 a1_3 a1_4 a1_5 t895 t896 t897 t898 t899 t900 _ A4.out).mono ?_); rintro e w144 ⟨rfl, hb⟩; replace BX := bx_call hb; clear hb) | (go_at_call 68; (with_reducible refine (whittleref2_as.calls t889 t890 t891 t892 t893 t894 t895 t901 t902 t903 t904 t905 t906 _ A5.out).mono ?_); rintro e w147 ⟨rfl, hb⟩; replace BX := bx_call hb; clear hb) | ((with_reducible refine gate_dst (N := 5) rfl ?_); refine bxe 5 #[.int .i64 0, .int .i64 0, .int .i64 0, .string (⟨#[]⟩ : ByteArray), .bool false, .int .i64 0] 25 rfl rfl gr ?_; clear BX; intro gb907 w148 GE907 BX) | (go_at_call 68; (with_reducible refine (whittleref2_as.calls t895 t896 t897 t898 t899 t900 t889 t908 t909 t910 t911 true t913 _ A6.out).mono ?_); rintro e w154 ⟨rfl, hb⟩; replace BX := bx_call hb; clear hb) | ((with_reducible refine gate_dst (N := 6) rfl ?_); refine bxe 6 #[.int .i64 0, .int .i64 0, .int .i64 0, .string (⟨#[]⟩ : ByteArray), .bool false, .int .i64 0] 25 rfl rfl gr ?_; clear BX; intro gb914 w155 GE914 BX)); try go_wp2_with (first | ((with_reducible refine gate_dst (N := 2) rfl ?_); refine bxe 2 #[.int .i64 a0_0, .int .i64 a0_1, .int .i64 a0_2, .string a0_3, .bool a0_4, .int .i64 a0_5] 25 rfl rfl gr ?_; clear BX; intro gb887 w137 GE887 BX) | ((with_reducible refine gate_dst (N := 3) rfl ?_); refine bxe 3 #[.int .i64 a1_0, .int .i64 a1_1, .int .i64 a1_2, .string a1_3, .bool a1_4, .int .i64 a1_5] 25 rfl rfl gr ?_; clear BX; intro gb888 w138 GE888 BX) | (go_at_call 60; (with_reducible refine (whittleref2_Of.calls k a0_0 a0_1 a0_2 a0_3 a0_4 a0_5 t889 t890 t891 t892 t893 t894 _ A3.out).mono ?_); rintro e w141 ⟨rfl, hb⟩; replace BX := bx_call hb; clear hb) | (go_at_call 60; (with_reducible refine (whittleref2_Of.calls k a1_0 a1_1 a1_2 a1_3 a1_4 a1_5 t895 t896 t897 t898 t899 t900 _ A4.out).mono ?_); rintro e w144 ⟨rfl, hb⟩; replace BX := bx_call hb; clear hb) | (go_at_call 68; (with_reducible refine (whittleref2_as.calls t889 t890 t891 t892 t893 t894 t895 t901 t902 t903 t904 t905 t906 _ A5.out).mono ?_); rintro e w147 ⟨rfl, hb⟩; replace BX := bx_call hb; clear hb) | ((with_reducible refine gate_dst (N := 5) rfl ?_); refine bxe 5 #[.int .i64 0, .int .i64 0, .int .i64 0, .string (⟨#[]⟩ : ByteArray), .bool false, .int .i64 0] 25 rfl rfl gr ?_; clear BX; intro gb907 w148 GE907 BX) | (go_at_call 68; (with_reducible refine (whittleref2_as.calls t895 t896 t897 t898 t899 t900 t889 t908 t909 t910 t911 true t913 _ A6.out).mono ?_); rintro e w154 ⟨rfl, hb⟩; replace BX := bx_call hb; clear hb) | ((with_reducible refine gate_dst (N := 6) rfl ?_); refine bxe 6 #[.int .i64 0, .int .i64 0, .int .i64 0, .string (⟨#[]⟩ : ByteArray), .bool false, .int .i64 0] 25 rfl rfl gr ?_; clear BX; intro gb914 w155 GE914 BX)))
       go_ret
       exact ⟨er2, bx_bl⟩
      ·replace c136 := Bool.eq_false_iff.mpr c136
       subst c136
       have H1 : (some 1) = some r := by rw [if_neg (show ¬ (false = true) by decide)] at H; exact H
       clear H
       have H := H1
       clear H1
       obtain rfl := Option.some.inj H
       go_enter Tryd.func33, Tryd.ntmps33
       go_wp2_with (first | ((with_reducible refine gate_dst (N := 2) rfl ?_); refine bxe 2 #[.int .i64 a0_0, .int .i64 a0_1, .int .i64 a0_2, .string a0_3, .bool a0_4, .int .i64 a0_5] 25 rfl rfl gr ?_; clear BX; intro gb887 w161 GE887 BX) | ((with_reducible refine gate_dst (N := 3) rfl ?_); refine bxe 3 #[.int .i64 a1_0, .int .i64 a1_1, .int .i64 a1_2, .string a1_3, .bool a1_4, .int .i64 a1_5] 25 rfl rfl gr ?_; clear BX; intro gb888 w162 GE888 BX) | (go_at_call 60; (with_reducible refine (whittleref2_Of.calls k a0_0 a0_1 a0_2 a0_3 a0_4 a0_5 t889 t890 t891 t892 t893 t894 _ A3.out).mono ?_); rintro e w165 ⟨rfl, hb⟩; replace BX := bx_call hb; clear hb) | (go_at_call 60; (with_reducible refine (whittleref2_Of.calls k a1_0 a1_1 a1_2 a1_3 a1_4 a1_5 t895 t896 t897 t898 t899 t900 _ A4.out).mono ?_); rintro e w168 ⟨rfl, hb⟩; replace BX := bx_call hb; clear hb) | (go_at_call 68; (with_reducible refine (whittleref2_as.calls t889 t890 t891 t892 t893 t894 t895 t901 t902 t903 t904 t905 t906 _ A5.out).mono ?_); rintro e w171 ⟨rfl, hb⟩; replace BX := bx_call hb; clear hb) | ((with_reducible refine gate_dst (N := 5) rfl ?_); refine bxe 5 #[.int .i64 0, .int .i64 0, .int .i64 0, .string (⟨#[]⟩ : ByteArray), .bool false, .int .i64 0] 25 rfl rfl gr ?_; clear BX; intro gb907 w172 GE907 BX) | (go_at_call 68; (with_reducible refine (whittleref2_as.calls t895 t896 t897 t898 t899 t900 t889 t908 t909 t910 t911 false t913 _ A6.out).mono ?_); rintro e w178 ⟨rfl, hb⟩; replace BX := bx_call hb; clear hb) | ((with_reducible refine gate_dst (N := 6) rfl ?_); refine bxe 6 #[.int .i64 0, .int .i64 0, .int .i64 0, .string (⟨#[]⟩ : ByteArray), .bool false, .int .i64 0] 25 rfl rfl gr ?_; clear BX; intro gb914 w179 GE914 BX))
       repeat (go_quiet (first | ((with_reducible refine gate_dst (N := 2) rfl ?_); refine bxe 2 #[.int .i64 a0_0, .int .i64 a0_1, .int .i64 a0_2, .string a0_3, .bool a0_4, .int .i64 a0_5] 25 rfl rfl gr ?_; clear BX; intro gb887 w161 GE887 BX) | ((with_reducible refine gate_dst (N := 3) rfl ?_); refine bxe 3 #[.int .i64 a1_0, .int .i64 a1_1, .int .i64 a1_2, .string a1_3, .bool a1_4, .int .i64 a1_5] 25 rfl rfl gr ?_; clear BX; intro gb888 w162 GE888 BX) | (go_at_call 60; (with_reducible refine (whittleref2_Of.calls k a0_0 a0_1 a0_2 a0_3 a0_4 a0_5 t889 t890 t891 t892 t893 t894 _ A3.out).mono ?_); rintro e w165 ⟨rfl, hb⟩; replace BX := bx_call hb; clear hb) | (go_at_call 60; (with_reducible refine (whittleref2_Of.calls k a1_0 a1_1 a1_2 a1_3 a1_4 a1_5 t895 t896 t897 t898 t899 t900 _ A4.out).mono ?_); rintro e w168 ⟨rfl, hb⟩; replace BX := bx_call hb; clear hb) | (go_at_call 68; (with_reducible refine (whittleref2_as.calls t889 t890 t891 t892 t893 t894 t895 t901 t902 t903 t904 t905 t906 _ A5.out).mono ?_); rintro e w171 ⟨rfl, hb⟩; replace BX := bx_call hb; clear hb) | ((with_reducible refine gate_dst (N := 5) rfl ?_); refine bxe 5 #[.int .i64 0, .int .i64 0, .int .i64 0, .string (⟨#[]⟩ : ByteArray), .bool false, .int .i64 0] 25 rfl rfl gr ?_; clear BX; intro gb907 w172 GE907 BX) | (go_at_call 68; (with_reducible refine (whittleref2_as.calls t895 t896 t897 t898 t899 t900 t889 t908 t909 t910 t911 false t913 _ A6.out).mono ?_); rintro e w178 ⟨rfl, hb⟩; replace BX := bx_call hb; clear hb) | ((with_reducible refine gate_dst (N := 6) rfl ?_); refine bxe 6 #[.int .i64 0, .int .i64 0, .int .i64 0, .string (⟨#[]⟩ : ByteArray), .bool false, .int .i64 0] 25 rfl rfl gr ?_; clear BX; intro gb914 w179 GE914 BX)); try go_wp2_with (first | ((with_reducible refine gate_dst (N := 2) rfl ?_); refine bxe 2 #[.int .i64 a0_0, .int .i64 a0_1, .int .i64 a0_2, .string a0_3, .bool a0_4, .int .i64 a0_5] 25 rfl rfl gr ?_; clear BX; intro gb887 w161 GE887 BX) | ((with_reducible refine gate_dst (N := 3) rfl ?_); refine bxe 3 #[.int .i64 a1_0, .int .i64 a1_1, .int .i64 a1_2, .string a1_3, .bool a1_4, .int .i64 a1_5] 25 rfl rfl gr ?_; clear BX; intro gb888 w162 GE888 BX) | (go_at_call 60; (with_reducible refine (whittleref2_Of.calls k a0_0 a0_1 a0_2 a0_3 a0_4 a0_5 t889 t890 t891 t892 t893 t894 _ A3.out).mono ?_); rintro e w165 ⟨rfl, hb⟩; replace BX := bx_call hb; clear hb) | (go_at_call 60; (with_reducible refine (whittleref2_Of.calls k a1_0 a1_1 a1_2 a1_3 a1_4 a1_5 t895 t896 t897 t898 t899 t900 _ A4.out).mono ?_); rintro e w168 ⟨rfl, hb⟩; replace BX := bx_call hb; clear hb) | (go_at_call 68; (with_reducible refine (whittleref2_as.calls t889 t890 t891 t892 t893 t894 t895 t901 t902 t903 t904 t905 t906 _ A5.out).mono ?_); rintro e w171 ⟨rfl, hb⟩; replace BX := bx_call hb; clear hb) | ((with_reducible refine gate_dst (N := 5) rfl ?_); refine bxe 5 #[.int .i64 0, .int .i64 0, .int .i64 0, .string (⟨#[]⟩ : ByteArray), .bool false, .int .i64 0] 25 rfl rfl gr ?_; clear BX; intro gb907 w172 GE907 BX) | (go_at_call 68; (with_reducible refine (whittleref2_as.calls t895 t896 t897 t898 t899 t900 t889 t908 t909 t910 t911 false t913 _ A6.out).mono ?_); rintro e w178 ⟨rfl, hb⟩; replace BX := bx_call hb; clear hb) | ((with_reducible refine gate_dst (N := 6) rfl ?_); refine bxe 6 #[.int .i64 0, .int .i64 0, .int .i64 0, .string (⟨#[]⟩ : ByteArray), .bool false, .int .i64 0] 25 rfl rfl gr ?_; clear BX; intro gb914 w179 GE914 BX)))
       go_ret
       exact ⟨er2, bx_bl⟩
    ·rw [if_neg c110] at H
     have c110b0 : (t901 == 3) = false := beq_eq_false_iff_ne.mpr c110
     have c110b1 : (t901 != 3) = true := bne_iff_ne.mpr c110
     replace H := Option.bind_eq_some_iff.mp H
     obtain ⟨t919, A1850, H⟩ := H
     replace H : (some t919) = some r := H
     have A185 := Aside0.mk A1850
     clear A1850
     obtain rfl := Option.some.inj H
     go_enter Tryd.func33, Tryd.ntmps33
     go_wp2_with (first | ((with_reducible refine gate_dst (N := 2) rfl ?_); refine bxe 2 #[.int .i64 a0_0, .int .i64 a0_1, .int .i64 a0_2, .string a0_3, .bool a0_4, .int .i64 a0_5] 25 rfl rfl gr ?_; clear BX; intro gb887 w186 GE887 BX) | ((with_reducible refine gate_dst (N := 3) rfl ?_); refine bxe 3 #[.int .i64 a1_0, .int .i64 a1_1, .int .i64 a1_2, .string a1_3, .bool a1_4, .int .i64 a1_5] 25 rfl rfl gr ?_; clear BX; intro gb888 w187 GE888 BX) | (go_at_call 60; (with_reducible refine (whittleref2_Of.calls k a0_0 a0_1 a0_2 a0_3 a0_4 a0_5 t889 t890 t891 t892 t893 t894 _ A3.out).mono ?_); rintro e w190 ⟨rfl, hb⟩; replace BX := bx_call hb; clear hb) | (go_at_call 60; (with_reducible refine (whittleref2_Of.calls k a1_0 a1_1 a1_2 a1_3 a1_4 a1_5 t895 t896 t897 t898 t899 t900 _ A4.out).mono ?_); rintro e w193 ⟨rfl, hb⟩; replace BX := bx_call hb; clear hb) | (go_at_call 68; (with_reducible refine (whittleref2_as.calls t889 t890 t891 t892 t893 t894 t895 t901 t902 t903 t904 t905 t906 _ A5.out).mono ?_); rintro e w196 ⟨rfl, hb⟩; replace BX := bx_call hb; clear hb) | ((with_reducible refine gate_dst (N := 5) rfl ?_); refine bxe 5 #[.int .i64 0, .int .i64 0, .int .i64 0, .string (⟨#[]⟩ : ByteArray), .bool false, .int .i64 0] 25 rfl rfl gr ?_; clear BX; intro gb907 w197 GE907 BX) | (go_at_call 68; (with_reducible refine (whittleref2_as.calls t895 t896 t897 t898 t899 t900 t889 t908 t909 t910 t911 t912 t913 _ A6.out).mono ?_); rintro e w203 ⟨rfl, hb⟩; replace BX := bx_call hb; clear hb) | ((with_reducible refine gate_dst (N := 6) rfl ?_); refine bxe 6 #[.int .i64 0, .int .i64 0, .int .i64 0, .string (⟨#[]⟩ : ByteArray), .bool false, .int .i64 0] 25 rfl rfl gr ?_; clear BX; intro gb914 w204 GE914 BX) | (go_at_call 69; (with_reducible refine (whittleref2_order.calls t906 t913 t919 _ A185.out).mono ?_); rintro e w' ⟨rfl, ⟨nd, rfl⟩⟩; (try first | exact ⟨rfl, _, World.drewN_drewN _ _ _⟩ | exact ⟨rfl, _, Eq.trans (World.drewN_drewN _ _ _) (congrArg (World.drewN _) (Nat.add_assoc _ _ _))⟩)))
     repeat (go_quiet (first | ((with_reducible refine gate_dst (N := 2) rfl ?_); refine bxe 2 #[.int .i64 a0_0, .int .i64 a0_1, .int .i64 a0_2, .string a0_3, .bool a0_4, .int .i64 a0_5] 25 rfl rfl gr ?_; clear BX; intro gb887 w186 GE887 BX) | ((with_reducible refine gate_dst (N := 3) rfl ?_); refine bxe 3 #[.int .i64 a1_0, .int .i64 a1_1, .int .i64 a1_2, .string a1_3, .bool a1_4, .int .i64 a1_5] 25 rfl rfl gr ?_; clear BX; intro gb888 w187 GE888 BX) | (go_at_call 60; (with_reducible refine (whittleref2_Of.calls k a0_0 a0_1 a0_2 a0_3 a0_4 a0_5 t889 t890 t891 t892 t893 t894 _ A3.out).mono ?_); rintro e w190 ⟨rfl, hb⟩; replace BX := bx_call hb; clear hb) | (go_at_call 60; (with_reducible refine (whittleref2_Of.calls k a1_0 a1_1 a1_2 a1_3 a1_4 a1_5 t895 t896 t897 t898 t899 t900 _ A4.out).mono ?_); rintro e w193 ⟨rfl, hb⟩; replace BX := bx_call hb; clear hb) | (go_at_call 68; (with_reducible refine (whittleref2_as.calls t889 t890 t891 t892 t893 t894 t895 t901 t902 t903 t904 t905 t906 _ A5.out).mono ?_); rintro e w196 ⟨rfl, hb⟩; replace BX := bx_call hb; clear hb) | ((with_reducible refine gate_dst (N := 5) rfl ?_); refine bxe 5 #[.int .i64 0, .int .i64 0, .int .i64 0, .string (⟨#[]⟩ : ByteArray), .bool false, .int .i64 0] 25 rfl rfl gr ?_; clear BX; intro gb907 w197 GE907 BX) | (go_at_call 68; (with_reducible refine (whittleref2_as.calls t895 t896 t897 t898 t899 t900 t889 t908 t909 t910 t911 t912 t913 _ A6.out).mono ?_); rintro e w203 ⟨rfl, hb⟩; replace BX := bx_call hb; clear hb) | ((with_reducible refine gate_dst (N := 6) rfl ?_); refine bxe 6 #[.int .i64 0, .int .i64 0, .int .i64 0, .string (⟨#[]⟩ : ByteArray), .bool false, .int .i64 0] 25 rfl rfl gr ?_; clear BX; intro gb914 w204 GE914 BX) | (go_at_call 69; (with_reducible refine (whittleref2_order.calls t906 t913 t919 _ A185.out).mono ?_); rintro e w' ⟨rfl, ⟨nd, rfl⟩⟩; (try first | exact ⟨rfl, _, World.drewN_drewN _ _ _⟩ | exact ⟨rfl, _, Eq.trans (World.drewN_drewN _ _ _) (congrArg (World.drewN _) (Nat.add_assoc _ _ _))⟩))); try go_wp2_with (first | ((with_reducible refine gate_dst (N := 2) rfl ?_); refine bxe 2 #[.int .i64 a0_0, .int .i64 a0_1, .int .i64 a0_2, .string a0_3, .bool a0_4, .int .i64 a0_5] 25 rfl rfl gr ?_; clear BX; intro gb887 w186 GE887 BX) | ((with_reducible refine gate_dst (N := 3) rfl ?_); refine bxe 3 #[.int .i64 a1_0, .int .i64 a1_1, .int .i64 a1_2, .string a1_3, .bool a1_4, .int .i64 a1_5] 25 rfl rfl gr ?_; clear BX; intro gb888 w187 GE888 BX) | (go_at_call 60; (with_reducible refine (whittleref2_Of.calls k a0_0 a0_1 a0_2 a0_3 a0_4 a0_5 t889 t890 t891 t892 t893 t894 _ A3.out).mono ?_); rintro e w190 ⟨rfl, hb⟩; replace BX := bx_call hb; clear hb) | (go_at_call 60; (with_reducible refine (whittleref2_Of.calls k a1_0 a1_1 a1_2 a1_3 a1_4 a1_5 t895 t896 t897 t898 t899 t900 _ A4.out).mono ?_); rintro e w193 ⟨rfl, hb⟩; replace BX := bx_call hb; clear hb) | (go_at_call 68; (with_reducible refine (whittleref2_as.calls t889 t890 t891 t892 t893 t894 t895 t901 t902 t903 t904 t905 t906 _ A5.out).mono ?_); rintro e w196 ⟨rfl, hb⟩; replace BX := bx_call hb; clear hb) | ((with_reducible refine gate_dst (N := 5) rfl ?_); refine bxe 5 #[.int .i64 0, .int .i64 0, .int .i64 0, .string (⟨#[]⟩ : ByteArray), .bool false, .int .i64 0] 25 rfl rfl gr ?_; clear BX; intro gb907 w197 GE907 BX) | (go_at_call 68; (with_reducible refine (whittleref2_as.calls t895 t896 t897 t898 t899 t900 t889 t908 t909 t910 t911 t912 t913 _ A6.out).mono ?_); rintro e w203 ⟨rfl, hb⟩; replace BX := bx_call hb; clear hb) | ((with_reducible refine gate_dst (N := 6) rfl ?_); refine bxe 6 #[.int .i64 0, .int .i64 0, .int .i64 0, .string (⟨#[]⟩ : ByteArray), .bool false, .int .i64 0] 25 rfl rfl gr ?_; clear BX; intro gb914 w204 GE914 BX) | (go_at_call 69; (with_reducible refine (whittleref2_order.calls t906 t913 t919 _ A185.out).mono ?_); rintro e w' ⟨rfl, ⟨nd, rfl⟩⟩; (try first | exact ⟨rfl, _, World.drewN_drewN _ _ _⟩ | exact ⟨rfl, _, Eq.trans (World.drewN_drewN _ _ _) (congrArg (World.drewN _) (Nat.add_assoc _ _ _))⟩))))
     go_ret
     exact ⟨er2, bx_bl⟩
 ·rw [if_neg c7] at H
  have c7b0 : (t901 == t908) = false := beq_eq_false_iff_ne.mpr c7
  have c7b1 : (t901 != t908) = true := bne_iff_ne.mpr c7
  replace H := Option.bind_eq_some_iff.mp H
  obtain ⟨t915, A2100, H⟩ := H
  have A210 := Aside0.mk A2100
  clear A2100
  replace H := Option.bind_eq_some_iff.mp H
  obtain ⟨t916, A2110, H⟩ := H
  have A211 := Aside0.mk A2110
  clear A2110
  replace H := Option.bind_eq_some_iff.mp H
  obtain ⟨t917, A2120, H⟩ := H
  replace H : (some t917) = some r := H
  have A212 := Aside0.mk A2120
  clear A2120
  obtain rfl := Option.some.inj H
  go_enter Tryd.func33, Tryd.ntmps33
  go_wp2_with (first | ((with_reducible refine gate_dst (N := 2) rfl ?_); refine bxe 2 #[.int .i64 a0_0, .int .i64 a0_1, .int .i64 a0_2, .string a0_3, .bool a0_4, .int .i64 a0_5] 25 rfl rfl gr ?_; clear BX; intro gb887 w213 GE887 BX) | ((with_reducible refine gate_dst (N := 3) rfl ?_); refine bxe 3 #[.int .i64 a1_0, .int .i64 a1_1, .int .i64 a1_2, .string a1_3, .bool a1_4, .int .i64 a1_5] 25 rfl rfl gr ?_; clear BX; intro gb888 w214 GE888 BX) | (go_at_call 60; (with_reducible refine (whittleref2_Of.calls k a0_0 a0_1 a0_2 a0_3 a0_4 a0_5 t889 t890 t891 t892 t893 t894 _ A3.out).mono ?_); rintro e w217 ⟨rfl, hb⟩; replace BX := bx_call hb; clear hb) | (go_at_call 60; (with_reducible refine (whittleref2_Of.calls k a1_0 a1_1 a1_2 a1_3 a1_4 a1_5 t895 t896 t897 t898 t899 t900 _ A4.out).mono ?_); rintro e w220 ⟨rfl, hb⟩; replace BX := bx_call hb; clear hb) | (go_at_call 68; (with_reducible refine (whittleref2_as.calls t889 t890 t891 t892 t893 t894 t895 t901 t902 t903 t904 t905 t906 _ A5.out).mono ?_); rintro e w223 ⟨rfl, hb⟩; replace BX := bx_call hb; clear hb) | ((with_reducible refine gate_dst (N := 5) rfl ?_); refine bxe 5 #[.int .i64 0, .int .i64 0, .int .i64 0, .string (⟨#[]⟩ : ByteArray), .bool false, .int .i64 0] 25 rfl rfl gr ?_; clear BX; intro gb907 w224 GE907 BX) | (go_at_call 68; (with_reducible refine (whittleref2_as.calls t895 t896 t897 t898 t899 t900 t889 t908 t909 t910 t911 t912 t913 _ A6.out).mono ?_); rintro e w230 ⟨rfl, hb⟩; replace BX := bx_call hb; clear hb) | ((with_reducible refine gate_dst (N := 6) rfl ?_); refine bxe 6 #[.int .i64 0, .int .i64 0, .int .i64 0, .string (⟨#[]⟩ : ByteArray), .bool false, .int .i64 0] 25 rfl rfl gr ?_; clear BX; intro gb914 w231 GE914 BX) | (go_at_call 70; (with_reducible refine (whittleref2_rank.calls t901 t915 _ A210.out).mono ?_); rintro e w' ⟨rfl, ⟨nd, rfl⟩⟩; (try first | exact ⟨rfl, _, World.drewN_drewN _ _ _⟩ | exact ⟨rfl, _, Eq.trans (World.drewN_drewN _ _ _) (congrArg (World.drewN _) (Nat.add_assoc _ _ _))⟩)) | (go_at_call 70; (with_reducible refine (whittleref2_rank.calls t908 t916 _ A211.out).mono ?_); rintro e w' ⟨rfl, ⟨nd, rfl⟩⟩; (try first | exact ⟨rfl, _, World.drewN_drewN _ _ _⟩ | exact ⟨rfl, _, Eq.trans (World.drewN_drewN _ _ _) (congrArg (World.drewN _) (Nat.add_assoc _ _ _))⟩)) | (go_at_call 69; (with_reducible refine (whittleref2_order.calls t915 t916 t917 _ A212.out).mono ?_); rintro e w' ⟨rfl, ⟨nd, rfl⟩⟩; (try first | exact ⟨rfl, _, World.drewN_drewN _ _ _⟩ | exact ⟨rfl, _, Eq.trans (World.drewN_drewN _ _ _) (congrArg (World.drewN _) (Nat.add_assoc _ _ _))⟩)))
  repeat (go_quiet (first | ((with_reducible refine gate_dst (N := 2) rfl ?_); refine bxe 2 #[.int .i64 a0_0, .int .i64 a0_1, .int .i64 a0_2, .string a0_3, .bool a0_4, .int .i64 a0_5] 25 rfl rfl gr ?_; clear BX; intro gb887 w213 GE887 BX) | ((with_reducible refine gate_dst (N := 3) rfl ?_); refine bxe 3 #[.int .i64 a1_0, .int .i64 a1_1, .int .i64 a1_2, .string a1_3, .bool a1_4, .int .i64 a1_5] 25 rfl rfl gr ?_; clear BX; intro gb888 w214 GE888 BX) | (go_at_call 60; (with_reducible refine (whittleref2_Of.calls k a0_0 a0_1 a0_2 a0_3 a0_4 a0_5 t889 t890 t891 t892 t893 t894 _ A3.out).mono ?_); rintro e w217 ⟨rfl, hb⟩; replace BX := bx_call hb; clear hb) | (go_at_call 60; (with_reducible refine (whittleref2_Of.calls k a1_0 a1_1 a1_2 a1_3 a1_4 a1_5 t895 t896 t897 t898 t899 t900 _ A4.out).mono ?_); rintro e w220 ⟨rfl, hb⟩; replace BX := bx_call hb; clear hb) | (go_at_call 68; (with_reducible refine (whittleref2_as.calls t889 t890 t891 t892 t893 t894 t895 t901 t902 t903 t904 t905 t906 _ A5.out).mono ?_); rintro e w223 ⟨rfl, hb⟩; replace BX := bx_call hb; clear hb) | ((with_reducible refine gate_dst (N := 5) rfl ?_); refine bxe 5 #[.int .i64 0, .int .i64 0, .int .i64 0, .string (⟨#[]⟩ : ByteArray), .bool false, .int .i64 0] 25 rfl rfl gr ?_; clear BX; intro gb907 w224 GE907 BX) | (go_at_call 68; (with_reducible refine (whittleref2_as.calls t895 t896 t897 t898 t899 t900 t889 t908 t909 t910 t911 t912 t913 _ A6.out).mono ?_); rintro e w230 ⟨rfl, hb⟩; replace BX := bx_call hb; clear hb) | ((with_reducible refine gate_dst (N := 6) rfl ?_); refine bxe 6 #[.int .i64 0, .int .i64 0, .int .i64 0, .string (⟨#[]⟩ : ByteArray), .bool false, .int .i64 0] 25 rfl rfl gr ?_; clear BX; intro gb914 w231 GE914 BX) | (go_at_call 70; (with_reducible refine (whittleref2_rank.calls t901 t915 _ A210.out).mono ?_); rintro e w' ⟨rfl, ⟨nd, rfl⟩⟩; (try first | exact ⟨rfl, _, World.drewN_drewN _ _ _⟩ | exact ⟨rfl, _, Eq.trans (World.drewN_drewN _ _ _) (congrArg (World.drewN _) (Nat.add_assoc _ _ _))⟩)) | (go_at_call 70; (with_reducible refine (whittleref2_rank.calls t908 t916 _ A211.out).mono ?_); rintro e w' ⟨rfl, ⟨nd, rfl⟩⟩; (try first | exact ⟨rfl, _, World.drewN_drewN _ _ _⟩ | exact ⟨rfl, _, Eq.trans (World.drewN_drewN _ _ _) (congrArg (World.drewN _) (Nat.add_assoc _ _ _))⟩)) | (go_at_call 69; (with_reducible refine (whittleref2_order.calls t915 t916 t917 _ A212.out).mono ?_); rintro e w' ⟨rfl, ⟨nd, rfl⟩⟩; (try first | exact ⟨rfl, _, World.drewN_drewN _ _ _⟩ | exact ⟨rfl, _, Eq.trans (World.drewN_drewN _ _ _) (congrArg (World.drewN _) (Nat.add_assoc _ _ _))⟩))); try go_wp2_with (first | ((with_reducible refine gate_dst (N := 2) rfl ?_); refine bxe 2 #[.int .i64 a0_0, .int .i64 a0_1, .int .i64 a0_2, .string a0_3, .bool a0_4, .int .i64 a0_5] 25 rfl rfl gr ?_; clear BX; intro gb887 w213 GE887 BX) | ((with_reducible refine gate_dst (N := 3) rfl ?_); refine bxe 3 #[.int .i64 a1_0, .int .i64 a1_1, .int .i64 a1_2, .string a1_3, .bool a1_4, .int .i64 a1_5] 25 rfl rfl gr ?_; clear BX; intro gb888 w214 GE888 BX) | (go_at_call 60; (with_reducible refine (whittleref2_Of.calls k a0_0 a0_1 a0_2 a0_3 a0_4 a0_5 t889 t890 t891 t892 t893 t894 _ A3.out).mono ?_); rintro e w217 ⟨rfl, hb⟩; replace BX := bx_call hb; clear hb) | (go_at_call 60; (with_reducible refine (whittleref2_Of.calls k a1_0 a1_1 a1_2 a1_3 a1_4 a1_5 t895 t896 t897 t898 t899 t900 _ A4.out).mono ?_); rintro e w220 ⟨rfl, hb⟩; replace BX := bx_call hb; clear hb) | (go_at_call 68; (with_reducible refine (whittleref2_as.calls t889 t890 t891 t892 t893 t894 t895 t901 t902 t903 t904 t905 t906 _ A5.out).mono ?_); rintro e w223 ⟨rfl, hb⟩; replace BX := bx_call hb; clear hb) | ((with_reducible refine gate_dst (N := 5) rfl ?_); refine bxe 5 #[.int .i64 0, .int .i64 0, .int .i64 0, .string (⟨#[]⟩ : ByteArray), .bool false, .int .i64 0] 25 rfl rfl gr ?_; clear BX; intro gb907 w224 GE907 BX) | (go_at_call 68; (with_reducible refine (whittleref2_as.calls t895 t896 t897 t898 t899 t900 t889 t908 t909 t910 t911 t912 t913 _ A6.out).mono ?_); rintro e w230 ⟨rfl, hb⟩; replace BX := bx_call hb; clear hb) | ((with_reducible refine gate_dst (N := 6) rfl ?_); refine bxe 6 #[.int .i64 0, .int .i64 0, .int .i64 0, .string (⟨#[]⟩ : ByteArray), .bool false, .int .i64 0] 25 rfl rfl gr ?_; clear BX; intro gb914 w231 GE914 BX) | (go_at_call 70; (with_reducible refine (whittleref2_rank.calls t901 t915 _ A210.out).mono ?_); rintro e w' ⟨rfl, ⟨nd, rfl⟩⟩; (try first | exact ⟨rfl, _, World.drewN_drewN _ _ _⟩ | exact ⟨rfl, _, Eq.trans (World.drewN_drewN _ _ _) (congrArg (World.drewN _) (Nat.add_assoc _ _ _))⟩)) | (go_at_call 70; (with_reducible refine (whittleref2_rank.calls t908 t916 _ A211.out).mono ?_); rintro e w' ⟨rfl, ⟨nd, rfl⟩⟩; (try first | exact ⟨rfl, _, World.drewN_drewN _ _ _⟩ | exact ⟨rfl, _, Eq.trans (World.drewN_drewN _ _ _) (congrArg (World.drewN _) (Nat.add_assoc _ _ _))⟩)) | (go_at_call 69; (with_reducible refine (whittleref2_order.calls t915 t916 t917 _ A212.out).mono ?_); rintro e w' ⟨rfl, ⟨nd, rfl⟩⟩; (try first | exact ⟨rfl, _, World.drewN_drewN _ _ _⟩ | exact ⟨rfl, _, Eq.trans (World.drewN_drewN _ _ _) (congrArg (World.drewN _) (Nat.add_assoc _ _ _))⟩))))
  go_ret
  exact ⟨er2, bx_bl⟩
end
section
/-! ### whittleref2_Same: function 35 -/
def whittleref2_Same.f (k : Nat) (a0_0 : Int) (a0_1 : Int) (a0_2 : Int) (a0_3 : ByteArray) (a0_4 : Bool) (a0_5 : Int) (a1_0 : Int) (a1_1 : Int) (a1_2 : Int) (a1_3 : ByteArray) (a1_4 : Bool) (a1_5 : Int) : Option (Bool) := (whittleref2_Of.f k a0_0 a0_1 a0_2 a0_3 a0_4 a0_5).bind fun bt937 => ((whittleref2_Of.f k a1_0 a1_1 a1_2 a1_3 a1_4 a1_5).bind fun bt943 => (if bt937.1 = bt943.1 then (if bt937.1 = 0 then (some false) else (if bt937.1 = 4 then (some false) else ((whittleref2_Cmp.f k bt937.1 bt937.2.1 bt937.2.2.1 bt937.2.2.2.1 bt937.2.2.2.2.1 bt937.2.2.2.2.2 bt943.1 bt943.2.1 bt943.2.2.1 bt943.2.2.2.1 bt943.2.2.2.2.1 bt943.2.2.2.2.2).bind fun t949 => (some (t949 == 0))))) else (some false)))
theorem whittleref2_Same.mono : ∀ a0 a1 a2 a3 a4 a5 a6 a7 a8 a9 a10 a11 k, LeO (whittleref2_Same.f k a0 a1 a2 a3 a4 a5 a6 a7 a8 a9 a10 a11) (whittleref2_Same.f (k + 1) a0 a1 a2 a3 a4 a5 a6 a7 a8 a9 a10 a11) := by
 intro a0 a1 a2 a3 a4 a5 a6 a7 a8 a9 a10 a11 k
 unfold whittleref2_Same.f
 repeat' first
   | (with_reducible exact whittleref2_Cmp.mono _ _ _ _ _ _ _ _ _ _ _ _ _)
   | (with_reducible exact whittleref2_Of.mono _ _ _ _ _ _ _)
   | (with_reducible exact LeO.refl _)
   | (with_reducible exact LeO.none _)
   | (with_reducible refine LeO.ite ?_ ?_)
   | (with_reducible refine LeO.bind ?_ (fun _ => ?_))
   | exact whittleref2_Cmp.mono _ _ _ _ _ _ _ _ _ _ _ _ _
   | exact whittleref2_Of.mono _ _ _ _ _ _ _
   | exact LeO.none _
   | refine LeO.ite ?_ ?_
   | refine LeO.bind ?_ (fun _ => ?_)
set_option maxHeartbeats 8000000 in
set_option maxRecDepth 100000 in
theorem whittleref2_Same.calls (k : Nat) (a0_0 : Int) (a0_1 : Int) (a0_2 : Int) (a0_3 : ByteArray) (a0_4 : Bool) (a0_5 : Int) (a1_0 : Int) (a1_1 : Int) (a1_2 : Int) (a1_3 : ByteArray) (a1_4 : Bool) (a1_5 : Int) (r : Bool) (w : World) (h : whittleref2_Same.f k a0_0 a0_1 a0_2 a0_3 a0_4 a0_5 a1_0 a1_1 a1_2 a1_3 a1_4 a1_5 = some r) :
  Calls Tryd.prog 35 #[.agg #[.int .i64 a0_0, .int .i64 a0_1, .int .i64 a0_2, .string a0_3, .bool a0_4, .int .i64 a0_5], .agg #[.int .i64 a1_0, .int .i64 a1_1, .int .i64 a1_2, .string a1_3, .bool a1_4, .int .i64 a1_5]] w fun e w' => e = .returned (.bool r) ∧ Below w.heap.size w w' := by
 have hu25 := Tryd.underlying25
 have BX := Bx.start w
 have H : ((whittleref2_Of.f k a0_0 a0_1 a0_2 a0_3 a0_4 a0_5).bind fun bt937 => ((whittleref2_Of.f k a1_0 a1_1 a1_2 a1_3 a1_4 a1_5).bind fun bt943 => (if bt937.1 = bt943.1 then (if bt937.1 = 0 then (some false) else (if bt937.1 = 4 then (some false) else ((whittleref2_Cmp.f k bt937.1 bt937.2.1 bt937.2.2.1 bt937.2.2.2.1 bt937.2.2.2.2.1 bt937.2.2.2.2.2 bt943.1 bt943.2.1 bt943.2.2.1 bt943.2.2.2.1 bt943.2.2.2.2.1 bt943.2.2.2.2.2).bind fun t949 => (some (t949 == 0))))) else (some false)))) = some r := h
 clear h
 replace H := Option.bind_eq_some_iff.mp H
 obtain ⟨⟨t937, t938, t939, t940, t941, t942⟩, A30, H⟩ := H
 have A3 := Aside0.mk A30
 clear A30
 replace H := Option.bind_eq_some_iff.mp H
 obtain ⟨⟨t943, t944, t945, t946, t947, t948⟩, A40, H⟩ := H
 replace H : (if t937 = t943 then (if t937 = 0 then (some false) else (if t937 = 4 then (some false) else ((whittleref2_Cmp.f k t937 t938 t939 t940 t941 t942 t943 t944 t945 t946 t947 t948).bind fun t949 => (some (t949 == 0))))) else (some false)) = some r := H
 have A4 := Aside0.mk A40
 clear A40
 by_cases c5 : t937 = t943
 ·rw [if_pos c5] at H
  have c5b0 : (t937 == t943) = true := beq_iff_eq.mpr c5
  have c5b1 : (t937 != t943) = false := bne_eq_false_iff_eq.mpr c5
  clear c5
  by_cases c6 : t937 = 0
  ·rw [if_pos c6] at H
   have c6b0 : (t937 == 0) = true := beq_iff_eq.mpr c6
   have c6b1 : (t937 != 0) = false := bne_eq_false_iff_eq.mpr c6
   clear c6
   obtain rfl := Option.some.inj H
   go_enter Tryd.func35, Tryd.ntmps35
   go_wp2_with (first | ((with_reducible refine gate_dst (N := 2) rfl ?_); refine bxe 2 #[.int .i64 a0_0, .int .i64 a0_1, .int .i64 a0_2, .string a0_3, .bool a0_4, .int .i64 a0_5] 25 rfl rfl gr ?_; clear BX; intro gb935 w7 GE935 BX) | ((with_reducible refine gate_dst (N := 3) rfl ?_); refine bxe 3 #[.int .i64 a1_0, .int .i64 a1_1, .int .i64 a1_2, .string a1_3, .bool a1_4, .int .i64 a1_5] 25 rfl rfl gr ?_; clear BX; intro gb936 w8 GE936 BX) | ((with_reducible refine gate_callee (f := 60) rfl ?_); refine goesL_ (some 6) rfl rfl Tryd.func60 kr rfl #[.agg #[.int .i64 a0_0, .int .i64 a0_1, .int .i64 a0_2, .string a0_3, .bool a0_4, .int .i64 a0_5]] rfl ga ?_; (with_reducible refine (whittleref2_Of.calls k a0_0 a0_1 a0_2 a0_3 a0_4 a0_5 t937 t938 t939 t940 t941 t942 _ A3.out).mono ?_); rintro e w11 ⟨rfl, hb⟩; refine ⟨_, rfl, ?_⟩; replace BX := bx_call hb; clear hb) | ((with_reducible refine gate_callee (f := 60) rfl ?_); refine goesL_ (some 8) rfl rfl Tryd.func60 kr rfl #[.agg #[.int .i64 a1_0, .int .i64 a1_1, .int .i64 a1_2, .string a1_3, .bool a1_4, .int .i64 a1_5]] rfl ga ?_; (with_reducible refine (whittleref2_Of.calls k a1_0 a1_1 a1_2 a1_3 a1_4 a1_5 t943 t944 t945 t946 t947 t948 _ A4.out).mono ?_); rintro e w14 ⟨rfl, hb⟩; refine ⟨_, rfl, ?_⟩; replace BX := bx_call hb; clear hb))
   go_ret
   exact ⟨er2, bx_bl⟩
  ·rw [if_neg c6] at H
   have c6b0 : (t937 == 0) = false := beq_eq_false_iff_ne.mpr c6
   have c6b1 : (t937 != 0) = true := bne_iff_ne.mpr c6
   by_cases c17 : t937 = 4
   ·rw [if_pos c17] at H
    have c17b0 : (t937 == 4) = true := beq_iff_eq.mpr c17
    have c17b1 : (t937 != 4) = false := bne_eq_false_iff_eq.mpr c17
    clear c17
    obtain rfl := Option.some.inj H
    go_enter Tryd.func35, Tryd.ntmps35
    go_wp2_with (first | ((with_reducible refine gate_dst (N := 2) rfl ?_); refine bxe 2 #[.int .i64 a0_0, .int .i64 a0_1, .int .i64 a0_2, .string a0_3, .bool a0_4, .int .i64 a0_5] 25 rfl rfl gr ?_; clear BX; intro gb935 w18 GE935 BX) | ((with_reducible refine gate_dst (N := 3) rfl ?_); refine bxe 3 #[.int .i64 a1_0, .int .i64 a1_1, .int .i64 a1_2, .string a1_3, .bool a1_4, .int .i64 a1_5] 25 rfl rfl gr ?_; clear BX; intro gb936 w19 GE936 BX) | ((with_reducible refine gate_callee (f := 60) rfl ?_); refine goesL_ (some 6) rfl rfl Tryd.func60 kr rfl #[.agg #[.int .i64 a0_0, .int .i64 a0_1, .int .i64 a0_2, .string a0_3, .bool a0_4, .int .i64 a0_5]] rfl ga ?_; (with_reducible refine (whittleref2_Of.calls k a0_0 a0_1 a0_2 a0_3 a0_4 a0_5 t937 t938 t939 t940 t941 t942 _ A3.out).mono ?_); rintro e w22 ⟨rfl, hb⟩; refine ⟨_, rfl, ?_⟩; replace BX := bx_call hb; clear hb) | ((with_reducible refine gate_callee (f := 60) rfl ?_); refine goesL_ (some 8) rfl rfl Tryd.func60 kr rfl #[.agg #[.int .i64 a1_0, .int .i64 a1_1, .int .i64 a1_2, .string a1_3, .bool a1_4, .int .i64 a1_5]] rfl ga ?_; (with_reducible refine (whittleref2_Of.calls k a1_0 a1_1 a1_2 a1_3 a1_4 a1_5 t943 t944 t945 t946 t947 t948 _ A4.out).mono ?_); rintro e w25 ⟨rfl, hb⟩; refine ⟨_, rfl, ?_⟩; replace BX := bx_call hb; clear hb))
    go_ret
    exact ⟨er2, bx_bl⟩
   ·rw [if_neg c17] at H
    have c17b0 : (t937 == 4) = false := beq_eq_false_iff_ne.mpr c17
    have c17b1 : (t937 != 4) = true := bne_iff_ne.mpr c17
    replace H := Option.bind_eq_some_iff.mp H
    obtain ⟨t949, A280, H⟩ := H
    replace H : (some (t949 == 0)) = some r := H
    have A28 := Aside0.mk A280
    clear A280
    obtain rfl := Option.some.inj H
    go_enter Tryd.func35, Tryd.ntmps35
    go_wp2_with (first | ((with_reducible refine gate_dst (N := 2) rfl ?_); refine bxe 2 #[.int .i64 a0_0, .int .i64 a0_1, .int .i64 a0_2, .string a0_3, .bool a0_4, .int .i64 a0_5] 25 rfl rfl gr ?_; clear BX; intro gb935 w29 GE935 BX) | ((with_reducible refine gate_dst (N := 3) rfl ?_); refine bxe 3 #[.int .i64 a1_0, .int .i64 a1_1, .int .i64 a1_2, .string a1_3, .bool a1_4, .int .i64 a1_5] 25 rfl rfl gr ?_; clear BX; intro gb936 w30 GE936 BX) | ((with_reducible refine gate_callee (f := 60) rfl ?_); refine goesL_ (some 6) rfl rfl Tryd.func60 kr rfl #[.agg #[.int .i64 a0_0, .int .i64 a0_1, .int .i64 a0_2, .string a0_3, .bool a0_4, .int .i64 a0_5]] rfl ga ?_; (with_reducible refine (whittleref2_Of.calls k a0_0 a0_1 a0_2 a0_3 a0_4 a0_5 t937 t938 t939 t940 t941 t942 _ A3.out).mono ?_); rintro e w33 ⟨rfl, hb⟩; refine ⟨_, rfl, ?_⟩; replace BX := bx_call hb; clear hb) | ((with_reducible refine gate_callee (f := 60) rfl ?_); refine goesL_ (some 8) rfl rfl Tryd.func60 kr rfl #[.agg #[.int .i64 a1_0, .int .i64 a1_1, .int .i64 a1_2, .string a1_3, .bool a1_4, .int .i64 a1_5]] rfl ga ?_; (with_reducible refine (whittleref2_Of.calls k a1_0 a1_1 a1_2 a1_3 a1_4 a1_5 t943 t944 t945 t946 t947 t948 _ A4.out).mono ?_); rintro e w36 ⟨rfl, hb⟩; refine ⟨_, rfl, ?_⟩; replace BX := bx_call hb; clear hb) | (go_at_call 33; (with_reducible refine (whittleref2_Cmp.calls k t937 t938 t939 t940 t941 t942 t943 t944 t945 t946 t947 t948 t949 _ A28.out).mono ?_); rintro e w39 ⟨rfl, hb⟩; replace BX := bx_call hb; clear hb))
    go_ret
    exact ⟨er2, bx_bl⟩
 ·rw [if_neg c5] at H
  have c5b0 : (t937 == t943) = false := beq_eq_false_iff_ne.mpr c5
  have c5b1 : (t937 != t943) = true := bne_iff_ne.mpr c5
  obtain rfl := Option.some.inj H
  go_enter Tryd.func35, Tryd.ntmps35
  go_wp2_with (first | ((with_reducible refine gate_dst (N := 2) rfl ?_); refine bxe 2 #[.int .i64 a0_0, .int .i64 a0_1, .int .i64 a0_2, .string a0_3, .bool a0_4, .int .i64 a0_5] 25 rfl rfl gr ?_; clear BX; intro gb935 w40 GE935 BX) | ((with_reducible refine gate_dst (N := 3) rfl ?_); refine bxe 3 #[.int .i64 a1_0, .int .i64 a1_1, .int .i64 a1_2, .string a1_3, .bool a1_4, .int .i64 a1_5] 25 rfl rfl gr ?_; clear BX; intro gb936 w41 GE936 BX) | ((with_reducible refine gate_callee (f := 60) rfl ?_); refine goesL_ (some 6) rfl rfl Tryd.func60 kr rfl #[.agg #[.int .i64 a0_0, .int .i64 a0_1, .int .i64 a0_2, .string a0_3, .bool a0_4, .int .i64 a0_5]] rfl ga ?_; (with_reducible refine (whittleref2_Of.calls k a0_0 a0_1 a0_2 a0_3 a0_4 a0_5 t937 t938 t939 t940 t941 t942 _ A3.out).mono ?_); rintro e w44 ⟨rfl, hb⟩; refine ⟨_, rfl, ?_⟩; replace BX := bx_call hb; clear hb) | ((with_reducible refine gate_callee (f := 60) rfl ?_); refine goesL_ (some 8) rfl rfl Tryd.func60 kr rfl #[.agg #[.int .i64 a1_0, .int .i64 a1_1, .int .i64 a1_2, .string a1_3, .bool a1_4, .int .i64 a1_5]] rfl ga ?_; (with_reducible refine (whittleref2_Of.calls k a1_0 a1_1 a1_2 a1_3 a1_4 a1_5 t943 t944 t945 t946 t947 t948 _ A4.out).mono ?_); rintro e w47 ⟨rfl, hb⟩; refine ⟨_, rfl, ?_⟩; replace BX := bx_call hb; clear hb))
  go_ret
  exact ⟨er2, bx_bl⟩
end
end Go.Proofs.YtmakkdlkgfgaoaaDoor.F
