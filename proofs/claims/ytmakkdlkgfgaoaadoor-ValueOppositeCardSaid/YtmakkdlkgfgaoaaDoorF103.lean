-- Laid by program (wip/tools/genv.sh, pack.py, merge.py of this repo) out of the translation; Lean checks it.
import Derived.Test.YtmakkdlkgfgaoaaDoorF0
import Derived.Test.YtmakkdlkgfgaoaaDoorC0
import Derived.Test.YtmakkdlkgfgaoaaDoorF100
import Derived.Test.YtmakkdlkgfgaoaaDoorF101
namespace Go.Proofs.YtmakkdlkgfgaoaaDoor.F
open Go.RowKit Go.Proofs.YtmakkdlkgfgaoaaDoorW.PrintWords Go.Proofs.YtmakkdlkgfgaoaaDoorW.PrintLast Go.Proofs.YtmakkdlkgfgaoaaDoorW.PrintMore
attribute [local go_sem] max2_int min2_int max_two min_two max_three min_three max_four min_four
attribute [local go_sem high] bx_cell bx_frozen
set_option linter.unusedVariables false
set_option linter.unusedSimpArgs false

section
/-! ### value_plain: function 50 -/
def value_plain.l0 : Nat → ByteArray → Int → Int → Option (Bool)
 | 0, _, _, _ => none
 | k + 1, x0, x5, x6 => if x6 < x5 then (if 0 ≤ x6 then (if x6 < (x0.size : Int) then (if (bt x0 x6) < 32 then (some false) else (if (bt x0 x6) > 126 then (some false) else (value_plain.l0 k x0 x5 (wrap64 (x6 + 1))))) else (none)) else (none)) else (some true)
def value_plain.f (k : Nat) (a0 : ByteArray) : Option (Bool) := value_plain.l0 k a0 (a0.size : Int) 0
theorem value_plain.mono_l : ∀ k, (∀ y0 y1 y2, LeO (value_plain.l0 k y0 y1 y2) (value_plain.l0 (k + 1) y0 y1 y2))
 | 0 => fun _ _ _ r h => by simp [value_plain.l0] at h
 | k + 1 => by
  have ih0 := value_plain.mono_l k
  ·intro y0 y1 y2
   unfold value_plain.l0
   repeat' first
   | (with_reducible exact ih0 _ _ _)
   | (with_reducible exact LeO.refl _)
   | (with_reducible exact LeO.none _)
   | (with_reducible refine LeO.ite ?_ ?_)
   | (with_reducible refine LeO.bind ?_ (fun _ => ?_))
   | exact ih0 _ _ _
   | exact LeO.none _
   | refine LeO.ite ?_ ?_
   | refine LeO.bind ?_ (fun _ => ?_)
theorem value_plain.mono : ∀ a0 k, LeO (value_plain.f k a0) (value_plain.f (k + 1) a0) := by
 intro a0 k
 have ih0 := value_plain.mono_l k
 unfold value_plain.f
 repeat' first
   | (with_reducible exact ih0 _ _ _)
   | (with_reducible exact LeO.refl _)
   | (with_reducible exact LeO.none _)
   | (with_reducible refine LeO.ite ?_ ?_)
   | (with_reducible refine LeO.bind ?_ (fun _ => ?_))
   | exact ih0 _ _ _
   | exact LeO.none _
   | refine LeO.ite ?_ ?_
   | refine LeO.bind ?_ (fun _ => ?_)
set_option maxHeartbeats 8000000 in
set_option maxRecDepth 100000 in
theorem value_plain.calls (k : Nat) (a0 : ByteArray) (r : Bool) (w : World) (h : value_plain.f k a0 = some r) :
  Calls Tryd.prog 50 #[.string a0] w fun e w' => e = .returned (.bool r) ∧ Drawn0 w w' := by
 have H : (value_plain.l0 k a0 (a0.size : Int) 0) = some r := h
 clear h
 have H' := Aside0.mk H
 clear H
 go_enter Tryd.func50, Tryd.ntmps50
 go_wp2
 go_loopg [6] k (fun kq v6 w' => ∃ (x6_1 : Int), v6 = .int .i64 x6_1 ∧ Aside0 (value_plain.l0 kq a0 (a0.size : Int) x6_1 = some r) ∧ Aside0 (kq ≤ k) ∧ Drawn0 w w')
 case atStart => exact ⟨(0), er, H', ⟨Nat.le_refl _⟩, dr⟩
 case round =>
  clear H'
  obtain ⟨x6_1, rfl, HA, HK1, ⟨m1, rfl⟩⟩ := hrel
  cases gk with
  | zero => exact absurd HA.out (by simp [value_plain.l0])
  | succ k1 =>
   have H := HA.out
   clear HA
   simp only [value_plain.l0] at H
   by_cases c2 : x6_1 < (a0.size : Int)
   ·rw [if_pos c2] at H
    have c2b0 : decide (x6_1 < (a0.size : Int)) = true := decide_eq_true c2
    clear c2
    by_cases c3 : 0 ≤ x6_1
    ·rw [if_pos c3] at H
     have c3b0 : decide (0 ≤ x6_1) = true := decide_eq_true c3
     clear c3
     by_cases c4 : x6_1 < (a0.size : Int)
     ·rw [if_pos c4] at H
      have c4b0 : decide (x6_1 < (a0.size : Int)) = true := decide_eq_true c4
      clear c4
      by_cases c6 : (bt a0 x6_1) < 32
      ·rw [if_pos c6] at H
       have c6b0 : decide ((bt a0 x6_1) < 32) = true := decide_eq_true c6
       clear c6
       obtain rfl := Option.some.inj H
       have p5 : 0 ≤ (x6_1 : Int) := of_decide_eq_true (by first | (with_reducible assumption) | assumption)
       have q5 : x6_1 < (a0.size : Int) := of_decide_eq_true (by first | (with_reducible assumption) | assumption)
       have hx5 := bt_at a0 x6_1
       replace p5 := eq_true p5
       replace q5 := eq_true q5
       go_wp2
       go_ret
       exact ⟨er, dr⟩
      ·rw [if_neg c6] at H
       have c6b0 : decide ((bt a0 x6_1) < 32) = false := decide_eq_false c6
       clear c6
       by_cases c8 : (bt a0 x6_1) > 126
       ·rw [if_pos c8] at H
        have c8b0 : decide (126 < (bt a0 x6_1)) = true := decide_eq_true c8
        clear c8
        obtain rfl := Option.some.inj H
        have p5 : 0 ≤ (x6_1 : Int) := of_decide_eq_true (by first | (with_reducible assumption) | assumption)
        have q5 : x6_1 < (a0.size : Int) := of_decide_eq_true (by first | (with_reducible assumption) | assumption)
        have hx5 := bt_at a0 x6_1
        replace p5 := eq_true p5
        replace q5 := eq_true q5
        have p7 : 0 ≤ (x6_1 : Int) := of_decide_eq_true (by first | (with_reducible assumption) | assumption)
        have q7 : x6_1 < (a0.size : Int) := of_decide_eq_true (by first | (with_reducible assumption) | assumption)
        have hx7 := bt_at a0 x6_1
        replace p7 := eq_true p7
        replace q7 := eq_true q7
        go_wp2
        go_ret
        exact ⟨er, dr⟩
       ·rw [if_neg c8] at H
        have c8b0 : decide (126 < (bt a0 x6_1)) = false := decide_eq_false c8
        clear c8
        have H' := Aside0.mk H
        clear H
        have p5 : 0 ≤ (x6_1 : Int) := of_decide_eq_true (by first | (with_reducible assumption) | assumption)
        have q5 : x6_1 < (a0.size : Int) := of_decide_eq_true (by first | (with_reducible assumption) | assumption)
        have hx5 := bt_at a0 x6_1
        replace p5 := eq_true p5
        replace q5 := eq_true q5
        have p7 : 0 ≤ (x6_1 : Int) := of_decide_eq_true (by first | (with_reducible assumption) | assumption)
        have q7 : x6_1 < (a0.size : Int) := of_decide_eq_true (by first | (with_reducible assumption) | assumption)
        have hx7 := bt_at a0 x6_1
        replace p7 := eq_true p7
        replace q7 := eq_true q7
        go_wp2
        go_roundg k1
        case measure => have := HK1.out; omega
        case rel => exact ⟨(wrap64 (x6_1 + 1)), er, H', ⟨by have := HK1.out; omega⟩, dr⟩
     ·rw [if_neg c4] at H
      exact absurd H (by simp)
    ·rw [if_neg c3] at H
     exact absurd H (by simp)
   ·rw [if_neg c2] at H
    have c2b0 : decide (x6_1 < (a0.size : Int)) = false := decide_eq_false c2
    clear c2
    obtain rfl := Option.some.inj H
    go_wp2
    go_ret
    exact ⟨er, dr⟩
end
section
attribute [local go_sem high] eqA25
/-! ### value_Right: function 16 -/
def value_Right.f (k : Nat) (a0_0 : Int) (a0_1 : Int) (a0_2 : Int) (a0_3 : ByteArray) (a0_4 : Bool) (a0_5 : Int) : Option (Bool) := if a0_0 = 0 then (some (a0_0 == 0 && ((a0_1 == 0 && (a0_2 == 0)) && (a0_3.toList == ([] : List UInt8) && (!a0_4 && (a0_5 == 0)))))) else (if a0_0 = 1 then ((num_Right.f k a0_1 a0_2).bind fun t105 => (if t105 = true then (some (a0_0 == 1 && (a0_3.toList == ([] : List UInt8) && (!a0_4 && (a0_5 == 0))))) else (some false))) else (if a0_0 = 2 then (if (a0_3.size : Int) ≤ 256 then ((value_plain.f k a0_3).bind fun t106 => (if t106 = true then (some (a0_0 == 2 && ((a0_1 == 0 && (a0_2 == 0)) && (!a0_4 && (a0_5 == 0))))) else (some false))) else (some false)) else (if a0_0 = 3 then (some (a0_0 == 3 && ((a0_1 == 0 && (a0_2 == 0)) && (a0_3.toList == ([] : List UInt8) && (a0_5 == 0))))) else (if a0_0 = 4 then (if a0_5 ≥ 1 then (if a0_5 ≤ 8 then (some (a0_0 == 4 && ((a0_1 == 0 && (a0_2 == 0)) && (a0_3.toList == ([] : List UInt8) && (!a0_4))))) else (some false)) else (some false)) else (some false)))))
theorem value_Right.mono : ∀ a0 a1 a2 a3 a4 a5 k, LeO (value_Right.f k a0 a1 a2 a3 a4 a5) (value_Right.f (k + 1) a0 a1 a2 a3 a4 a5) := by
 intro a0 a1 a2 a3 a4 a5 k
 unfold value_Right.f
 repeat' first
   | (with_reducible exact num_Right.mono _ _ _)
   | (with_reducible exact value_plain.mono _ _)
   | (with_reducible exact LeO.refl _)
   | (with_reducible exact LeO.none _)
   | (with_reducible refine LeO.ite ?_ ?_)
   | (with_reducible refine LeO.bind ?_ (fun _ => ?_))
   | exact num_Right.mono _ _ _
   | exact value_plain.mono _ _
   | exact LeO.none _
   | refine LeO.ite ?_ ?_
   | refine LeO.bind ?_ (fun _ => ?_)
set_option maxHeartbeats 8000000 in
set_option maxRecDepth 100000 in
theorem value_Right.calls (k : Nat) (a0_0 : Int) (a0_1 : Int) (a0_2 : Int) (a0_3 : ByteArray) (a0_4 : Bool) (a0_5 : Int) (r : Bool) (w : World) (h : value_Right.f k a0_0 a0_1 a0_2 a0_3 a0_4 a0_5 = some r) :
  Calls Tryd.prog 16 #[.agg #[.int .i64 a0_0, .int .i64 a0_1, .int .i64 a0_2, .string a0_3, .bool a0_4, .int .i64 a0_5]] w fun e w' => e = .returned (.bool r) ∧ Below w.heap.size w w' := by
 have hu25 := Tryd.underlying25
 have hu23 := Tryd.underlying23
 have BX := Bx.start w
 have H : (if a0_0 = 0 then (some (a0_0 == 0 && ((a0_1 == 0 && (a0_2 == 0)) && (a0_3.toList == ([] : List UInt8) && (!a0_4 && (a0_5 == 0)))))) else (if a0_0 = 1 then ((num_Right.f k a0_1 a0_2).bind fun t105 => (if t105 = true then (some (a0_0 == 1 && (a0_3.toList == ([] : List UInt8) && (!a0_4 && (a0_5 == 0))))) else (some false))) else (if a0_0 = 2 then (if (a0_3.size : Int) ≤ 256 then ((value_plain.f k a0_3).bind fun t106 => (if t106 = true then (some (a0_0 == 2 && ((a0_1 == 0 && (a0_2 == 0)) && (!a0_4 && (a0_5 == 0))))) else (some false))) else (some false)) else (if a0_0 = 3 then (some (a0_0 == 3 && ((a0_1 == 0 && (a0_2 == 0)) && (a0_3.toList == ([] : List UInt8) && (a0_5 == 0))))) else (if a0_0 = 4 then (if a0_5 ≥ 1 then (if a0_5 ≤ 8 then (some (a0_0 == 4 && ((a0_1 == 0 && (a0_2 == 0)) && (a0_3.toList == ([] : List UInt8) && (!a0_4))))) else (some false)) else (some false)) else (some false)))))) = some r := h
 clear h
 by_cases c2 : a0_0 = 0
 ·rw [if_pos c2] at H
  have c2b0 : (a0_0 == 0) = true := beq_iff_eq.mpr c2
  have c2b1 : (a0_0 != 0) = false := bne_eq_false_iff_eq.mpr c2
  clear c2
  obtain rfl := Option.some.inj H
  go_enter Tryd.func16, Tryd.ntmps16
  go_wp2_with (first | ((with_reducible refine gate_dst (N := 1) rfl ?_); refine bxe 1 #[.int .i64 a0_0, .int .i64 a0_1, .int .i64 a0_2, .string a0_3, .bool a0_4, .int .i64 a0_5] 25 rfl rfl gr ?_; clear BX; intro gb104 w3 GE104 BX))
  go_ret
  exact ⟨er2, bx_bl⟩
 ·rw [if_neg c2] at H
  have c2b0 : (a0_0 == 0) = false := beq_eq_false_iff_ne.mpr c2
  have c2b1 : (a0_0 != 0) = true := bne_iff_ne.mpr c2
  by_cases c5 : a0_0 = 1
  ·rw [if_pos c5] at H
   have c5b0 : (a0_0 == 1) = true := beq_iff_eq.mpr c5
   have c5b1 : (a0_0 != 1) = false := bne_eq_false_iff_eq.mpr c5
   clear c5
   replace H := Option.bind_eq_some_iff.mp H
   obtain ⟨t105, A60, H⟩ := H
   replace H : (if t105 = true then (some (a0_0 == 1 && (a0_3.toList == ([] : List UInt8) && (!a0_4 && (a0_5 == 0))))) else (some false)) = some r := H
   have A6 := Aside0.mk A60
   clear A60
   by_cases c7 : t105 = true
   ·subst c7
    have H1 : (some (a0_0 == 1 && (a0_3.toList == ([] : List UInt8) && (!a0_4 && (a0_5 == 0))))) = some r := by rw [if_pos rfl] at H; exact H
    clear H
    have H := H1
    clear H1
    obtain rfl := Option.some.inj H
    go_enter Tryd.func16, Tryd.ntmps16
    go_wp2_with (first | ((with_reducible refine gate_dst (N := 1) rfl ?_); refine bxe 1 #[.int .i64 a0_0, .int .i64 a0_1, .int .i64 a0_2, .string a0_3, .bool a0_4, .int .i64 a0_5] 25 rfl rfl gr ?_; clear BX; intro gb104 w8 GE104 BX) | ((with_reducible refine gate_callee (f := 49) rfl ?_); refine goesL_ (some 14) rfl rfl Tryd.func49 kr rfl #[.agg #[.int .i64 a0_1, .int .i64 a0_2]] rfl ga ?_; (with_reducible refine (num_Right.calls k a0_1 a0_2 true _ A6.out).mono ?_); rintro e w10 ⟨rfl, hb⟩; refine ⟨_, rfl, ?_⟩; replace BX := bx_call hb; clear hb))
    go_ret
    exact ⟨er2, bx_bl⟩
   ·replace c7 := Bool.eq_false_iff.mpr c7
    subst c7
    have H1 : (some false) = some r := by rw [if_neg (show ¬ (false = true) by decide)] at H; exact H
    clear H
    have H := H1
    clear H1
    obtain rfl := Option.some.inj H
    go_enter Tryd.func16, Tryd.ntmps16
    go_wp2_with (first | ((with_reducible refine gate_dst (N := 1) rfl ?_); refine bxe 1 #[.int .i64 a0_0, .int .i64 a0_1, .int .i64 a0_2, .string a0_3, .bool a0_4, .int .i64 a0_5] 25 rfl rfl gr ?_; clear BX; intro gb104 w12 GE104 BX) | ((with_reducible refine gate_callee (f := 49) rfl ?_); refine goesL_ (some 14) rfl rfl Tryd.func49 kr rfl #[.agg #[.int .i64 a0_1, .int .i64 a0_2]] rfl ga ?_; (with_reducible refine (num_Right.calls k a0_1 a0_2 false _ A6.out).mono ?_); rintro e w14 ⟨rfl, hb⟩; refine ⟨_, rfl, ?_⟩; replace BX := bx_call hb; clear hb))
    go_ret
    exact ⟨er2, bx_bl⟩
  ·rw [if_neg c5] at H
   have c5b0 : (a0_0 == 1) = false := beq_eq_false_iff_ne.mpr c5
   have c5b1 : (a0_0 != 1) = true := bne_iff_ne.mpr c5
   by_cases c15 : a0_0 = 2
   ·rw [if_pos c15] at H
    have c15b0 : (a0_0 == 2) = true := beq_iff_eq.mpr c15
    have c15b1 : (a0_0 != 2) = false := bne_eq_false_iff_eq.mpr c15
    clear c15
    by_cases c16 : (a0_3.size : Int) ≤ 256
    ·rw [if_pos c16] at H
     have c16b0 : decide ((a0_3.size : Int) ≤ 256) = true := decide_eq_true c16
     have c16b1 : decide (a0_3.size ≤ 256) = true := decide_eq_true (by omega)
     clear c16
     replace H := Option.bind_eq_some_iff.mp H
     obtain ⟨t106, A170, H⟩ := H
     replace H : (if t106 = true then (some (a0_0 == 2 && ((a0_1 == 0 && (a0_2 == 0)) && (!a0_4 && (a0_5 == 0))))) else (some false)) = some r := H
     have A17 := Aside0.mk A170
     clear A170
     by_cases c18 : t106 = true
     ·subst c18
      have H1 : (some (a0_0 == 2 && ((a0_1 == 0 && (a0_2 == 0)) && (!a0_4 && (a0_5 == 0))))) = some r := by rw [if_pos rfl] at H; exact H
      clear H
      have H := H1
      clear H1
      obtain rfl := Option.some.inj H
      go_enter Tryd.func16, Tryd.ntmps16
      go_wp2_with (first | ((with_reducible refine gate_dst (N := 1) rfl ?_); refine bxe 1 #[.int .i64 a0_0, .int .i64 a0_1, .int .i64 a0_2, .string a0_3, .bool a0_4, .int .i64 a0_5] 25 rfl rfl gr ?_; clear BX; intro gb104 w19 GE104 BX) | (go_at_call 50; (with_reducible refine (value_plain.calls k a0_3 true _ A17.out).mono ?_); rintro e w' ⟨rfl, ⟨nd, rfl⟩⟩))
      go_ret
      exact ⟨er2, bx_bl⟩
     ·replace c18 := Bool.eq_false_iff.mpr c18
      subst c18
      have H1 : (some false) = some r := by rw [if_neg (show ¬ (false = true) by decide)] at H; exact H
      clear H
      have H := H1
      clear H1
      obtain rfl := Option.some.inj H
      go_enter Tryd.func16, Tryd.ntmps16
      go_wp2_with (first | ((with_reducible refine gate_dst (N := 1) rfl ?_); refine bxe 1 #[.int .i64 a0_0, .int .i64 a0_1, .int .i64 a0_2, .string a0_3, .bool a0_4, .int .i64 a0_5] 25 rfl rfl gr ?_; clear BX; intro gb104 w21 GE104 BX) | (go_at_call 50; (with_reducible refine (value_plain.calls k a0_3 false _ A17.out).mono ?_); rintro e w' ⟨rfl, ⟨nd, rfl⟩⟩))
      go_ret
      exact ⟨er2, bx_bl⟩
    ·rw [if_neg c16] at H
     have c16b0 : decide ((a0_3.size : Int) ≤ 256) = false := decide_eq_false c16
     have c16b1 : decide (a0_3.size ≤ 256) = false := decide_eq_false (by omega)
     clear c16
     obtain rfl := Option.some.inj H
     go_enter Tryd.func16, Tryd.ntmps16
     go_wp2_with (first | ((with_reducible refine gate_dst (N := 1) rfl ?_); refine bxe 1 #[.int .i64 a0_0, .int .i64 a0_1, .int .i64 a0_2, .string a0_3, .bool a0_4, .int .i64 a0_5] 25 rfl rfl gr ?_; clear BX; intro gb104 w23 GE104 BX))
     go_ret
     exact ⟨er2, bx_bl⟩
   ·rw [if_neg c15] at H
    have c15b0 : (a0_0 == 2) = false := beq_eq_false_iff_ne.mpr c15
    have c15b1 : (a0_0 != 2) = true := bne_iff_ne.mpr c15
    by_cases c25 : a0_0 = 3
    ·rw [if_pos c25] at H
     have c25b0 : (a0_0 == 3) = true := beq_iff_eq.mpr c25
     have c25b1 : (a0_0 != 3) = false := bne_eq_false_iff_eq.mpr c25
     clear c25
     obtain rfl := Option.some.inj H
     go_enter Tryd.func16, Tryd.ntmps16
     go_wp2_with (first | ((with_reducible refine gate_dst (N := 1) rfl ?_); refine bxe 1 #[.int .i64 a0_0, .int .i64 a0_1, .int .i64 a0_2, .string a0_3, .bool a0_4, .int .i64 a0_5] 25 rfl rfl gr ?_; clear BX; intro gb104 w26 GE104 BX))
     go_ret
     exact ⟨er2, bx_bl⟩
    ·rw [if_neg c25] at H
     have c25b0 : (a0_0 == 3) = false := beq_eq_false_iff_ne.mpr c25
     have c25b1 : (a0_0 != 3) = true := bne_iff_ne.mpr c25
     by_cases c28 : a0_0 = 4
     ·rw [if_pos c28] at H
      have c28b0 : (a0_0 == 4) = true := beq_iff_eq.mpr c28
      have c28b1 : (a0_0 != 4) = false := bne_eq_false_iff_eq.mpr c28
      clear c28
      by_cases c29 : a0_5 ≥ 1
      ·rw [if_pos c29] at H
       have c29b0 : decide (1 ≤ a0_5) = true := decide_eq_true c29
       clear c29
       by_cases c30 : a0_5 ≤ 8
       ·rw [if_pos c30] at H
        have c30b0 : decide (a0_5 ≤ 8) = true := decide_eq_true c30
        clear c30
        obtain rfl := Option.some.inj H
        go_enter Tryd.func16, Tryd.ntmps16
        go_wp2_with (first | ((with_reducible refine gate_dst (N := 1) rfl ?_); refine bxe 1 #[.int .i64 a0_0, .int .i64 a0_1, .int .i64 a0_2, .string a0_3, .bool a0_4, .int .i64 a0_5] 25 rfl rfl gr ?_; clear BX; intro gb104 w31 GE104 BX))
        go_ret
        exact ⟨er2, bx_bl⟩
       ·rw [if_neg c30] at H
        have c30b0 : decide (a0_5 ≤ 8) = false := decide_eq_false c30
        clear c30
        obtain rfl := Option.some.inj H
        go_enter Tryd.func16, Tryd.ntmps16
        go_wp2_with (first | ((with_reducible refine gate_dst (N := 1) rfl ?_); refine bxe 1 #[.int .i64 a0_0, .int .i64 a0_1, .int .i64 a0_2, .string a0_3, .bool a0_4, .int .i64 a0_5] 25 rfl rfl gr ?_; clear BX; intro gb104 w33 GE104 BX))
        go_ret
        exact ⟨er2, bx_bl⟩
      ·rw [if_neg c29] at H
       have c29b0 : decide (1 ≤ a0_5) = false := decide_eq_false c29
       clear c29
       obtain rfl := Option.some.inj H
       go_enter Tryd.func16, Tryd.ntmps16
       go_wp2_with (first | ((with_reducible refine gate_dst (N := 1) rfl ?_); refine bxe 1 #[.int .i64 a0_0, .int .i64 a0_1, .int .i64 a0_2, .string a0_3, .bool a0_4, .int .i64 a0_5] 25 rfl rfl gr ?_; clear BX; intro gb104 w35 GE104 BX))
       go_ret
       exact ⟨er2, bx_bl⟩
     ·rw [if_neg c28] at H
      have c28b0 : (a0_0 == 4) = false := beq_eq_false_iff_ne.mpr c28
      have c28b1 : (a0_0 != 4) = true := bne_iff_ne.mpr c28
      obtain rfl := Option.some.inj H
      go_enter Tryd.func16, Tryd.ntmps16
      go_wp2_with (first | ((with_reducible refine gate_dst (N := 1) rfl ?_); refine bxe 1 #[.int .i64 a0_0, .int .i64 a0_1, .int .i64 a0_2, .string a0_3, .bool a0_4, .int .i64 a0_5] 25 rfl rfl gr ?_; clear BX; intro gb104 w37 GE104 BX))
      go_ret
      exact ⟨er2, bx_bl⟩
end
section
/-! ### value_Number: function 19 -/
def value_Number.f (k : Nat) (a0_0 : Int) (a0_1 : Int) : Option (Int × Int × Int × ByteArray × Bool × Int) := (num_Right.f k a0_0 a0_1).bind fun t109 => (if t109 = true then (some (1, a0_0, a0_1, (⟨#[]⟩ : ByteArray), false, 0)) else (some (1, 0, 1, (⟨#[]⟩ : ByteArray), false, 0)))
theorem value_Number.mono : ∀ a0 a1 k, LeO (value_Number.f k a0 a1) (value_Number.f (k + 1) a0 a1) := by
 intro a0 a1 k
 unfold value_Number.f
 repeat' first
   | (with_reducible exact num_Right.mono _ _ _)
   | (with_reducible exact LeO.refl _)
   | (with_reducible exact LeO.none _)
   | (with_reducible refine LeO.ite ?_ ?_)
   | (with_reducible refine LeO.bind ?_ (fun _ => ?_))
   | exact num_Right.mono _ _ _
   | exact LeO.none _
   | refine LeO.ite ?_ ?_
   | refine LeO.bind ?_ (fun _ => ?_)
set_option maxHeartbeats 8000000 in
set_option maxRecDepth 100000 in
theorem value_Number.calls (k : Nat) (a0_0 : Int) (a0_1 : Int) (r1 : Int) (r2 : Int) (r3 : Int) (r4 : ByteArray) (r5 : Bool) (r6 : Int) (w : World) (h : value_Number.f k a0_0 a0_1 = some (r1, r2, r3, r4, r5, r6)) :
  Calls Tryd.prog 19 #[.agg #[.int .i64 a0_0, .int .i64 a0_1]] w fun e w' => e = .returned (.agg #[.int .i64 r1, .int .i64 r2, .int .i64 r3, .string r4, .bool r5, .int .i64 r6]) ∧ Below w.heap.size w w' := by
 have hu23 := Tryd.underlying23
 have hu25 := Tryd.underlying25
 have BX := Bx.start w
 have H : ((num_Right.f k a0_0 a0_1).bind fun t109 => (if t109 = true then (some (1, a0_0, a0_1, (⟨#[]⟩ : ByteArray), false, 0)) else (some (1, 0, 1, (⟨#[]⟩ : ByteArray), false, 0)))) = some (r1, r2, r3, r4, r5, r6) := h
 clear h
 replace H := Option.bind_eq_some_iff.mp H
 obtain ⟨t109, A20, H⟩ := H
 replace H : (if t109 = true then (some (1, a0_0, a0_1, (⟨#[]⟩ : ByteArray), false, 0)) else (some (1, 0, 1, (⟨#[]⟩ : ByteArray), false, 0))) = some (r1, r2, r3, r4, r5, r6) := H
 have A2 := Aside0.mk A20
 clear A20
 by_cases c3 : t109 = true
 ·subst c3
  have H1 : (some (1, a0_0, a0_1, (⟨#[]⟩ : ByteArray), false, 0)) = some (r1, r2, r3, r4, r5, r6) := by rw [if_pos rfl] at H; exact H
  clear H
  have H := H1
  clear H1
  simp only [Option.some.injEq, Prod.mk.injEq] at H
  obtain ⟨rfl, rfl, rfl, rfl, rfl, rfl⟩ := H
  go_enter Tryd.func19, Tryd.ntmps19
  go_wp2_with (first | ((with_reducible refine gate_dst (N := 1) rfl ?_); refine bxe 1 #[.int .i64 a0_0, .int .i64 a0_1] 23 rfl rfl gr ?_; clear BX; intro gb107 w4 GE107 BX) | ((with_reducible refine gate_dst (N := 2) rfl ?_); refine bxe 2 #[.int .i64 0, .int .i64 0, .int .i64 0, .string (⟨#[]⟩ : ByteArray), .bool false, .int .i64 0] 25 rfl rfl gr ?_; clear BX; intro gb108 w5 GE108 BX) | ((with_reducible refine gate_callee (f := 49) rfl ?_); refine goesL_ (some 4) rfl rfl Tryd.func49 kr rfl #[.agg #[.int .i64 a0_0, .int .i64 a0_1]] rfl ga ?_; (with_reducible refine (num_Right.calls k a0_0 a0_1 true _ A2.out).mono ?_); rintro e w8 ⟨rfl, hb⟩; refine ⟨_, rfl, ?_⟩; replace BX := bx_call hb; clear hb))
  refine bodyPost_ret (results_cell_row rfl _ _ gb108 25 #[.int .i64 1, .int .i64 a0_0, .int .i64 a0_1, .string (⟨#[]⟩ : ByteArray), .bool false, .int .i64 0] (0, 0) _ rfl bx_get Tryd.underlying25 rfl kr) rfl ?_
  exact ⟨er2, bx_bl⟩
 ·replace c3 := Bool.eq_false_iff.mpr c3
  subst c3
  have H1 : (some (1, 0, 1, (⟨#[]⟩ : ByteArray), false, 0)) = some (r1, r2, r3, r4, r5, r6) := by rw [if_neg (show ¬ (false = true) by decide)] at H; exact H
  clear H
  have H := H1
  clear H1
  simp only [Option.some.injEq, Prod.mk.injEq] at H
  obtain ⟨rfl, rfl, rfl, rfl, rfl, rfl⟩ := H
  go_enter Tryd.func19, Tryd.ntmps19
  go_wp2_with (first | ((with_reducible refine gate_dst (N := 1) rfl ?_); refine bxe 1 #[.int .i64 a0_0, .int .i64 a0_1] 23 rfl rfl gr ?_; clear BX; intro gb107 w11 GE107 BX) | ((with_reducible refine gate_dst (N := 2) rfl ?_); refine bxe 2 #[.int .i64 0, .int .i64 0, .int .i64 0, .string (⟨#[]⟩ : ByteArray), .bool false, .int .i64 0] 25 rfl rfl gr ?_; clear BX; intro gb108 w12 GE108 BX) | ((with_reducible refine gate_callee (f := 49) rfl ?_); refine goesL_ (some 4) rfl rfl Tryd.func49 kr rfl #[.agg #[.int .i64 a0_0, .int .i64 a0_1]] rfl ga ?_; (with_reducible refine (num_Right.calls k a0_0 a0_1 false _ A2.out).mono ?_); rintro e w15 ⟨rfl, hb⟩; refine ⟨_, rfl, ?_⟩; replace BX := bx_call hb; clear hb))
  refine bodyPost_ret (results_cell_row rfl _ _ gb108 25 #[.int .i64 1, .int .i64 0, .int .i64 1, .string (⟨#[]⟩ : ByteArray), .bool false, .int .i64 0] (0, 0) _ rfl bx_get Tryd.underlying25 rfl kr) rfl ?_
  exact ⟨er2, bx_bl⟩
end
section
/-! ### value_Fault: function 25 -/
def value_Fault.f (a0 : Int) : Option (Int × Int × Int × ByteArray × Bool × Int) := if a0 < 1 then (some (4, 0, 0, (⟨#[]⟩ : ByteArray), false, 2)) else (if a0 > 8 then (some (4, 0, 0, (⟨#[]⟩ : ByteArray), false, 2)) else (some (4, 0, 0, (⟨#[]⟩ : ByteArray), false, a0)))
set_option maxHeartbeats 8000000 in
set_option maxRecDepth 100000 in
theorem value_Fault.calls (a0 : Int) (r1 : Int) (r2 : Int) (r3 : Int) (r4 : ByteArray) (r5 : Bool) (r6 : Int) (w : World) (h : value_Fault.f a0 = some (r1, r2, r3, r4, r5, r6)) :
  Calls Tryd.prog 25 #[.int .i64 a0] w fun e w' => e = .returned (.agg #[.int .i64 r1, .int .i64 r2, .int .i64 r3, .string r4, .bool r5, .int .i64 r6]) ∧ Below w.heap.size w w' := by
 have hu25 := Tryd.underlying25
 have BX := Bx.start w
 have H : (if a0 < 1 then (some (4, 0, 0, (⟨#[]⟩ : ByteArray), false, 2)) else (if a0 > 8 then (some (4, 0, 0, (⟨#[]⟩ : ByteArray), false, 2)) else (some (4, 0, 0, (⟨#[]⟩ : ByteArray), false, a0)))) = some (r1, r2, r3, r4, r5, r6) := h
 clear h
 by_cases c2 : a0 < 1
 ·rw [if_pos c2] at H
  have c2b0 : decide (a0 < 1) = true := decide_eq_true c2
  clear c2
  simp only [Option.some.injEq, Prod.mk.injEq] at H
  obtain ⟨rfl, rfl, rfl, rfl, rfl, rfl⟩ := H
  go_enter Tryd.func25, Tryd.ntmps25
  go_wp2_with (first | ((with_reducible refine gate_dst (N := 2) rfl ?_); refine bxe 2 #[.int .i64 0, .int .i64 0, .int .i64 0, .string (⟨#[]⟩ : ByteArray), .bool false, .int .i64 0] 25 rfl rfl gr ?_; clear BX; intro gb110 w3 GE110 BX))
  refine bodyPost_ret (results_cell_row rfl _ _ gb110 25 #[.int .i64 4, .int .i64 0, .int .i64 0, .string (⟨#[]⟩ : ByteArray), .bool false, .int .i64 2] (0, 0) _ rfl bx_get Tryd.underlying25 rfl kr) rfl ?_
  exact ⟨er2, bx_bl⟩
 ·rw [if_neg c2] at H
  have c2b0 : decide (a0 < 1) = false := decide_eq_false c2
  clear c2
  by_cases c5 : a0 > 8
  ·rw [if_pos c5] at H
   have c5b0 : decide (8 < a0) = true := decide_eq_true c5
   clear c5
   simp only [Option.some.injEq, Prod.mk.injEq] at H
   obtain ⟨rfl, rfl, rfl, rfl, rfl, rfl⟩ := H
   go_enter Tryd.func25, Tryd.ntmps25
   go_wp2_with (first | ((with_reducible refine gate_dst (N := 2) rfl ?_); refine bxe 2 #[.int .i64 0, .int .i64 0, .int .i64 0, .string (⟨#[]⟩ : ByteArray), .bool false, .int .i64 0] 25 rfl rfl gr ?_; clear BX; intro gb110 w6 GE110 BX))
   refine bodyPost_ret (results_cell_row rfl _ _ gb110 25 #[.int .i64 4, .int .i64 0, .int .i64 0, .string (⟨#[]⟩ : ByteArray), .bool false, .int .i64 2] (0, 0) _ rfl bx_get Tryd.underlying25 rfl kr) rfl ?_
   exact ⟨er2, bx_bl⟩
  ·rw [if_neg c5] at H
   have c5b0 : decide (8 < a0) = false := decide_eq_false c5
   clear c5
   simp only [Option.some.injEq, Prod.mk.injEq] at H
   obtain ⟨rfl, rfl, rfl, rfl, rfl, rfl⟩ := H
   go_enter Tryd.func25, Tryd.ntmps25
   go_wp2_with (first | ((with_reducible refine gate_dst (N := 2) rfl ?_); refine bxe 2 #[.int .i64 0, .int .i64 0, .int .i64 0, .string (⟨#[]⟩ : ByteArray), .bool false, .int .i64 0] 25 rfl rfl gr ?_; clear BX; intro gb110 w8 GE110 BX))
   refine bodyPost_ret (results_cell_row rfl _ _ gb110 25 #[.int .i64 4, .int .i64 0, .int .i64 0, .string (⟨#[]⟩ : ByteArray), .bool false, .int .i64 a0] (0, 0) _ rfl bx_get Tryd.underlying25 rfl kr) rfl ?_
   exact ⟨er2, bx_bl⟩
end
section
/-! ### value_Text: function 21 -/
def value_Text.f (k : Nat) (a0 : ByteArray) : Option (Int × Int × Int × ByteArray × Bool × Int) := (value_plain.f k a0).bind fun t112 => (if t112 = true then (if (a0.size : Int) > 256 then ((value_Fault.f 7).bind fun bt113 => (some (bt113.1, bt113.2.1, bt113.2.2.1, bt113.2.2.2.1, bt113.2.2.2.2.1, bt113.2.2.2.2.2))) else (some (2, 0, 0, a0, false, 0))) else ((value_Fault.f 2).bind fun bt119 => (some (bt119.1, bt119.2.1, bt119.2.2.1, bt119.2.2.2.1, bt119.2.2.2.2.1, bt119.2.2.2.2.2))))
theorem value_Text.mono : ∀ a0 k, LeO (value_Text.f k a0) (value_Text.f (k + 1) a0) := by
 intro a0 k
 unfold value_Text.f
 repeat' first
   | (with_reducible exact value_plain.mono _ _)
   | (with_reducible exact LeO.refl _)
   | (with_reducible exact LeO.none _)
   | (with_reducible refine LeO.ite ?_ ?_)
   | (with_reducible refine LeO.bind ?_ (fun _ => ?_))
   | exact value_plain.mono _ _
   | exact LeO.none _
   | refine LeO.ite ?_ ?_
   | refine LeO.bind ?_ (fun _ => ?_)
set_option maxHeartbeats 8000000 in
set_option maxRecDepth 100000 in
theorem value_Text.calls (k : Nat) (a0 : ByteArray) (r1 : Int) (r2 : Int) (r3 : Int) (r4 : ByteArray) (r5 : Bool) (r6 : Int) (w : World) (h : value_Text.f k a0 = some (r1, r2, r3, r4, r5, r6)) :
  Calls Tryd.prog 21 #[.string a0] w fun e w' => e = .returned (.agg #[.int .i64 r1, .int .i64 r2, .int .i64 r3, .string r4, .bool r5, .int .i64 r6]) ∧ Below w.heap.size w w' := by
 have hu25 := Tryd.underlying25
 have BX := Bx.start w
 have H : ((value_plain.f k a0).bind fun t112 => (if t112 = true then (if (a0.size : Int) > 256 then ((value_Fault.f 7).bind fun bt113 => (some (bt113.1, bt113.2.1, bt113.2.2.1, bt113.2.2.2.1, bt113.2.2.2.2.1, bt113.2.2.2.2.2))) else (some (2, 0, 0, a0, false, 0))) else ((value_Fault.f 2).bind fun bt119 => (some (bt119.1, bt119.2.1, bt119.2.2.1, bt119.2.2.2.1, bt119.2.2.2.2.1, bt119.2.2.2.2.2))))) = some (r1, r2, r3, r4, r5, r6) := h
 clear h
 replace H := Option.bind_eq_some_iff.mp H
 obtain ⟨t112, A20, H⟩ := H
 replace H : (if t112 = true then (if (a0.size : Int) > 256 then ((value_Fault.f 7).bind fun bt113 => (some (bt113.1, bt113.2.1, bt113.2.2.1, bt113.2.2.2.1, bt113.2.2.2.2.1, bt113.2.2.2.2.2))) else (some (2, 0, 0, a0, false, 0))) else ((value_Fault.f 2).bind fun bt119 => (some (bt119.1, bt119.2.1, bt119.2.2.1, bt119.2.2.2.1, bt119.2.2.2.2.1, bt119.2.2.2.2.2)))) = some (r1, r2, r3, r4, r5, r6) := H
 have A2 := Aside0.mk A20
 clear A20
 by_cases c3 : t112 = true
 ·subst c3
  have H1 : (if (a0.size : Int) > 256 then ((value_Fault.f 7).bind fun bt113 => (some (bt113.1, bt113.2.1, bt113.2.2.1, bt113.2.2.2.1, bt113.2.2.2.2.1, bt113.2.2.2.2.2))) else (some (2, 0, 0, a0, false, 0))) = some (r1, r2, r3, r4, r5, r6) := by rw [if_pos rfl] at H; exact H
  clear H
  have H := H1
  clear H1
  by_cases c4 : (a0.size : Int) > 256
  ·rw [if_pos c4] at H
   have c4b0 : decide (256 < (a0.size : Int)) = true := decide_eq_true c4
   have c4b1 : decide (256 < a0.size) = true := decide_eq_true (by omega)
   clear c4
   replace H := Option.bind_eq_some_iff.mp H
   obtain ⟨⟨t113, t114, t115, t116, t117, t118⟩, A50, H⟩ := H
   replace H : (some (t113, t114, t115, t116, t117, t118)) = some (r1, r2, r3, r4, r5, r6) := H
   have A5 := Aside0.mk A50
   clear A50
   simp only [Option.some.injEq, Prod.mk.injEq] at H
   obtain ⟨rfl, rfl, rfl, rfl, rfl, rfl⟩ := H
   go_enter Tryd.func21, Tryd.ntmps21
   go_wp2_with (first | ((with_reducible refine gate_dst (N := 2) rfl ?_); refine bxe 2 #[.int .i64 0, .int .i64 0, .int .i64 0, .string (⟨#[]⟩ : ByteArray), .bool false, .int .i64 0] 25 rfl rfl gr ?_; clear BX; intro gb111 w6 GE111 BX) | ((with_reducible refine gate_callee (f := 50) rfl ?_); refine goesL_ (some 5) rfl rfl Tryd.func50 kr rfl #[.string a0] rfl ga ?_; (with_reducible refine (value_plain.calls k a0 true _ A2.out).mono ?_); rintro e w' ⟨rfl, ⟨nd, rfl⟩⟩; refine ⟨_, rfl, ?_⟩) | ((with_reducible refine gate_callee (f := 25) rfl ?_); refine goesL_ (some 12) rfl rfl Tryd.func25 kr rfl #[.int .i64 7] rfl ga ?_; (with_reducible refine (value_Fault.calls 7 t113 t114 t115 t116 t117 t118 _ A5.out).mono ?_); rintro e w8 ⟨rfl, hb⟩; refine ⟨_, rfl, ?_⟩; replace BX := bx_call hb; clear hb))
   refine bodyPost_ret (results_cell_row rfl _ _ gb111 25 #[.int .i64 t113, .int .i64 t114, .int .i64 t115, .string t116, .bool t117, .int .i64 t118] (0, 0) _ rfl bx_get Tryd.underlying25 rfl kr) rfl ?_
   exact ⟨er2, bx_bl⟩
  ·rw [if_neg c4] at H
   have c4b0 : decide (256 < (a0.size : Int)) = false := decide_eq_false c4
   have c4b1 : decide (256 < a0.size) = false := decide_eq_false (by omega)
   clear c4
   simp only [Option.some.injEq, Prod.mk.injEq] at H
   obtain ⟨rfl, rfl, rfl, rfl, rfl, rfl⟩ := H
   go_enter Tryd.func21, Tryd.ntmps21
   go_wp2_with (first | ((with_reducible refine gate_dst (N := 2) rfl ?_); refine bxe 2 #[.int .i64 0, .int .i64 0, .int .i64 0, .string (⟨#[]⟩ : ByteArray), .bool false, .int .i64 0] 25 rfl rfl gr ?_; clear BX; intro gb111 w10 GE111 BX) | ((with_reducible refine gate_callee (f := 50) rfl ?_); refine goesL_ (some 5) rfl rfl Tryd.func50 kr rfl #[.string a0] rfl ga ?_; (with_reducible refine (value_plain.calls k a0 true _ A2.out).mono ?_); rintro e w' ⟨rfl, ⟨nd, rfl⟩⟩; refine ⟨_, rfl, ?_⟩))
   refine bodyPost_ret (results_cell_row rfl _ _ gb111 25 #[.int .i64 2, .int .i64 0, .int .i64 0, .string a0, .bool false, .int .i64 0] (0, 0) _ rfl bx_get Tryd.underlying25 rfl kr) rfl ?_
   exact ⟨er2, bx_bl⟩
 ·replace c3 := Bool.eq_false_iff.mpr c3
  subst c3
  have H1 : ((value_Fault.f 2).bind fun bt119 => (some (bt119.1, bt119.2.1, bt119.2.2.1, bt119.2.2.2.1, bt119.2.2.2.2.1, bt119.2.2.2.2.2))) = some (r1, r2, r3, r4, r5, r6) := by rw [if_neg (show ¬ (false = true) by decide)] at H; exact H
  clear H
  have H := H1
  clear H1
  replace H := Option.bind_eq_some_iff.mp H
  obtain ⟨⟨t119, t120, t121, t122, t123, t124⟩, A130, H⟩ := H
  replace H : (some (t119, t120, t121, t122, t123, t124)) = some (r1, r2, r3, r4, r5, r6) := H
  have A13 := Aside0.mk A130
  clear A130
  simp only [Option.some.injEq, Prod.mk.injEq] at H
  obtain ⟨rfl, rfl, rfl, rfl, rfl, rfl⟩ := H
  go_enter Tryd.func21, Tryd.ntmps21
  go_wp2_with (first | ((with_reducible refine gate_dst (N := 2) rfl ?_); refine bxe 2 #[.int .i64 0, .int .i64 0, .int .i64 0, .string (⟨#[]⟩ : ByteArray), .bool false, .int .i64 0] 25 rfl rfl gr ?_; clear BX; intro gb111 w14 GE111 BX) | ((with_reducible refine gate_callee (f := 50) rfl ?_); refine goesL_ (some 5) rfl rfl Tryd.func50 kr rfl #[.string a0] rfl ga ?_; (with_reducible refine (value_plain.calls k a0 false _ A2.out).mono ?_); rintro e w' ⟨rfl, ⟨nd, rfl⟩⟩; refine ⟨_, rfl, ?_⟩) | ((with_reducible refine gate_callee (f := 25) rfl ?_); refine goesL_ (some 7) rfl rfl Tryd.func25 kr rfl #[.int .i64 2] rfl ga ?_; (with_reducible refine (value_Fault.calls 2 t119 t120 t121 t122 t123 t124 _ A13.out).mono ?_); rintro e w16 ⟨rfl, hb⟩; refine ⟨_, rfl, ?_⟩; replace BX := bx_call hb; clear hb))
  refine bodyPost_ret (results_cell_row rfl _ _ gb111 25 #[.int .i64 t119, .int .i64 t120, .int .i64 t121, .string t122, .bool t123, .int .i64 t124] (0, 0) _ rfl bx_get Tryd.underlying25 rfl kr) rfl ?_
  exact ⟨er2, bx_bl⟩
end
section
/-! ### value_Truth: function 23 -/
def value_Truth.f (a0 : Bool) : Option (Int × Int × Int × ByteArray × Bool × Int) := some (3, 0, 0, (⟨#[]⟩ : ByteArray), a0, 0)
set_option maxHeartbeats 8000000 in
set_option maxRecDepth 100000 in
theorem value_Truth.calls (a0 : Bool) (r1 : Int) (r2 : Int) (r3 : Int) (r4 : ByteArray) (r5 : Bool) (r6 : Int) (w : World) (h : value_Truth.f a0 = some (r1, r2, r3, r4, r5, r6)) :
  Calls Tryd.prog 23 #[.bool a0] w fun e w' => e = .returned (.agg #[.int .i64 r1, .int .i64 r2, .int .i64 r3, .string r4, .bool r5, .int .i64 r6]) ∧ Below w.heap.size w w' := by
 have hu25 := Tryd.underlying25
 have BX := Bx.start w
 have H : (some (3, 0, 0, (⟨#[]⟩ : ByteArray), a0, 0)) = some (r1, r2, r3, r4, r5, r6) := h
 clear h
 simp only [Option.some.injEq, Prod.mk.injEq] at H
 obtain ⟨rfl, rfl, rfl, rfl, rfl, rfl⟩ := H
 go_enter Tryd.func23, Tryd.ntmps23
 go_wp2_with (first | ((with_reducible refine gate_dst (N := 2) rfl ?_); refine bxe 2 #[.int .i64 0, .int .i64 0, .int .i64 0, .string (⟨#[]⟩ : ByteArray), .bool false, .int .i64 0] 25 rfl rfl gr ?_; clear BX; intro gb125 w2 GE125 BX))
 refine bodyPost_ret (results_cell_row rfl _ _ gb125 25 #[.int .i64 3, .int .i64 0, .int .i64 0, .string (⟨#[]⟩ : ByteArray), .bool a0, .int .i64 0] (0, 0) _ rfl bx_get Tryd.underlying25 rfl kr) rfl ?_
 exact ⟨er2, bx_bl⟩
end
section
/-! ### value_taken: function 59 -/
def value_taken.f (k : Nat) (a0_0 : Int) (a0_1 : Int) (a0_2 : Int) (a0_3 : ByteArray) (a0_4 : Bool) (a0_5 : Int) : Option (Int × Int × Int × ByteArray × Bool × Int) := (value_Right.f k a0_0 a0_1 a0_2 a0_3 a0_4 a0_5).bind fun t128 => (if t128 = true then (some (a0_0, a0_1, a0_2, a0_3, a0_4, a0_5)) else ((value_Fault.f 2).bind fun bt129 => (some (bt129.1, bt129.2.1, bt129.2.2.1, bt129.2.2.2.1, bt129.2.2.2.2.1, bt129.2.2.2.2.2))))
theorem value_taken.mono : ∀ a0 a1 a2 a3 a4 a5 k, LeO (value_taken.f k a0 a1 a2 a3 a4 a5) (value_taken.f (k + 1) a0 a1 a2 a3 a4 a5) := by
 intro a0 a1 a2 a3 a4 a5 k
 unfold value_taken.f
 repeat' first
   | (with_reducible exact value_Right.mono _ _ _ _ _ _ _)
   | (with_reducible exact LeO.refl _)
   | (with_reducible exact LeO.none _)
   | (with_reducible refine LeO.ite ?_ ?_)
   | (with_reducible refine LeO.bind ?_ (fun _ => ?_))
   | exact value_Right.mono _ _ _ _ _ _ _
   | exact LeO.none _
   | refine LeO.ite ?_ ?_
   | refine LeO.bind ?_ (fun _ => ?_)
set_option maxHeartbeats 8000000 in
set_option maxRecDepth 100000 in
theorem value_taken.calls (k : Nat) (a0_0 : Int) (a0_1 : Int) (a0_2 : Int) (a0_3 : ByteArray) (a0_4 : Bool) (a0_5 : Int) (r1 : Int) (r2 : Int) (r3 : Int) (r4 : ByteArray) (r5 : Bool) (r6 : Int) (w : World) (h : value_taken.f k a0_0 a0_1 a0_2 a0_3 a0_4 a0_5 = some (r1, r2, r3, r4, r5, r6)) :
  Calls Tryd.prog 59 #[.agg #[.int .i64 a0_0, .int .i64 a0_1, .int .i64 a0_2, .string a0_3, .bool a0_4, .int .i64 a0_5]] w fun e w' => e = .returned (.agg #[.int .i64 r1, .int .i64 r2, .int .i64 r3, .string r4, .bool r5, .int .i64 r6]) ∧ Below w.heap.size w w' := by
 have hu25 := Tryd.underlying25
 have BX := Bx.start w
 have H : ((value_Right.f k a0_0 a0_1 a0_2 a0_3 a0_4 a0_5).bind fun t128 => (if t128 = true then (some (a0_0, a0_1, a0_2, a0_3, a0_4, a0_5)) else ((value_Fault.f 2).bind fun bt129 => (some (bt129.1, bt129.2.1, bt129.2.2.1, bt129.2.2.2.1, bt129.2.2.2.2.1, bt129.2.2.2.2.2))))) = some (r1, r2, r3, r4, r5, r6) := h
 clear h
 replace H := Option.bind_eq_some_iff.mp H
 obtain ⟨t128, A20, H⟩ := H
 replace H : (if t128 = true then (some (a0_0, a0_1, a0_2, a0_3, a0_4, a0_5)) else ((value_Fault.f 2).bind fun bt129 => (some (bt129.1, bt129.2.1, bt129.2.2.1, bt129.2.2.2.1, bt129.2.2.2.2.1, bt129.2.2.2.2.2)))) = some (r1, r2, r3, r4, r5, r6) := H
 have A2 := Aside0.mk A20
 clear A20
 by_cases c3 : t128 = true
 ·subst c3
  have H1 : (some (a0_0, a0_1, a0_2, a0_3, a0_4, a0_5)) = some (r1, r2, r3, r4, r5, r6) := by rw [if_pos rfl] at H; exact H
  clear H
  have H := H1
  clear H1
  simp only [Option.some.injEq, Prod.mk.injEq] at H
  obtain ⟨rfl, rfl, rfl, rfl, rfl, rfl⟩ := H
  go_enter Tryd.func59, Tryd.ntmps59
  go_wp2_with (first | ((with_reducible refine gate_dst (N := 1) rfl ?_); refine bxe 1 #[.int .i64 a0_0, .int .i64 a0_1, .int .i64 a0_2, .string a0_3, .bool a0_4, .int .i64 a0_5] 25 rfl rfl gr ?_; clear BX; intro gb126 w4 GE126 BX) | ((with_reducible refine gate_dst (N := 2) rfl ?_); refine bxe 2 #[.int .i64 0, .int .i64 0, .int .i64 0, .string (⟨#[]⟩ : ByteArray), .bool false, .int .i64 0] 25 rfl rfl gr ?_; clear BX; intro gb127 w5 GE127 BX) | ((with_reducible refine gate_callee (f := 16) rfl ?_); refine goesL_ (some 4) rfl rfl Tryd.func16 kr rfl #[.agg #[.int .i64 a0_0, .int .i64 a0_1, .int .i64 a0_2, .string a0_3, .bool a0_4, .int .i64 a0_5]] rfl ga ?_; (with_reducible refine (value_Right.calls k a0_0 a0_1 a0_2 a0_3 a0_4 a0_5 true _ A2.out).mono ?_); rintro e w8 ⟨rfl, hb⟩; refine ⟨_, rfl, ?_⟩; replace BX := bx_call hb; clear hb))
  refine bodyPost_ret (results_cell_row rfl _ _ gb127 25 #[.int .i64 a0_0, .int .i64 a0_1, .int .i64 a0_2, .string a0_3, .bool a0_4, .int .i64 a0_5] (0, 0) _ rfl bx_get Tryd.underlying25 rfl kr) rfl ?_
  exact ⟨er2, bx_bl⟩
 ·replace c3 := Bool.eq_false_iff.mpr c3
  subst c3
  have H1 : ((value_Fault.f 2).bind fun bt129 => (some (bt129.1, bt129.2.1, bt129.2.2.1, bt129.2.2.2.1, bt129.2.2.2.2.1, bt129.2.2.2.2.2))) = some (r1, r2, r3, r4, r5, r6) := by rw [if_neg (show ¬ (false = true) by decide)] at H; exact H
  clear H
  have H := H1
  clear H1
  replace H := Option.bind_eq_some_iff.mp H
  obtain ⟨⟨t129, t130, t131, t132, t133, t134⟩, A110, H⟩ := H
  replace H : (some (t129, t130, t131, t132, t133, t134)) = some (r1, r2, r3, r4, r5, r6) := H
  have A11 := Aside0.mk A110
  clear A110
  simp only [Option.some.injEq, Prod.mk.injEq] at H
  obtain ⟨rfl, rfl, rfl, rfl, rfl, rfl⟩ := H
  go_enter Tryd.func59, Tryd.ntmps59
  go_wp2_with (first | ((with_reducible refine gate_dst (N := 1) rfl ?_); refine bxe 1 #[.int .i64 a0_0, .int .i64 a0_1, .int .i64 a0_2, .string a0_3, .bool a0_4, .int .i64 a0_5] 25 rfl rfl gr ?_; clear BX; intro gb126 w12 GE126 BX) | ((with_reducible refine gate_dst (N := 2) rfl ?_); refine bxe 2 #[.int .i64 0, .int .i64 0, .int .i64 0, .string (⟨#[]⟩ : ByteArray), .bool false, .int .i64 0] 25 rfl rfl gr ?_; clear BX; intro gb127 w13 GE127 BX) | ((with_reducible refine gate_callee (f := 16) rfl ?_); refine goesL_ (some 4) rfl rfl Tryd.func16 kr rfl #[.agg #[.int .i64 a0_0, .int .i64 a0_1, .int .i64 a0_2, .string a0_3, .bool a0_4, .int .i64 a0_5]] rfl ga ?_; (with_reducible refine (value_Right.calls k a0_0 a0_1 a0_2 a0_3 a0_4 a0_5 false _ A2.out).mono ?_); rintro e w16 ⟨rfl, hb⟩; refine ⟨_, rfl, ?_⟩; replace BX := bx_call hb; clear hb) | ((with_reducible refine gate_callee (f := 25) rfl ?_); refine goesL_ (some 6) rfl rfl Tryd.func25 kr rfl #[.int .i64 2] rfl ga ?_; (with_reducible refine (value_Fault.calls 2 t129 t130 t131 t132 t133 t134 _ A11.out).mono ?_); rintro e w17 ⟨rfl, hb⟩; refine ⟨_, rfl, ?_⟩; replace BX := bx_call hb; clear hb))
  refine bodyPost_ret (results_cell_row rfl _ _ gb127 25 #[.int .i64 t129, .int .i64 t130, .int .i64 t131, .string t132, .bool t133, .int .i64 t134] (0, 0) _ rfl bx_get Tryd.underlying25 rfl kr) rfl ?_
  exact ⟨er2, bx_bl⟩
end
section
/-! ### value_Blank: function 18 -/
def value_Blank.f  : Option (Int × Int × Int × ByteArray × Bool × Int) := some (0, 0, 0, (⟨#[]⟩ : ByteArray), false, 0)
set_option maxHeartbeats 8000000 in
set_option maxRecDepth 100000 in
theorem value_Blank.calls  (r1 : Int) (r2 : Int) (r3 : Int) (r4 : ByteArray) (r5 : Bool) (r6 : Int) (w : World) (h : value_Blank.f  = some (r1, r2, r3, r4, r5, r6)) :
  Calls Tryd.prog 18 #[] w fun e w' => e = .returned (.agg #[.int .i64 r1, .int .i64 r2, .int .i64 r3, .string r4, .bool r5, .int .i64 r6]) ∧ Below w.heap.size w w' := by
 have hu25 := Tryd.underlying25
 have BX := Bx.start w
 have H : (some (0, 0, 0, (⟨#[]⟩ : ByteArray), false, 0)) = some (r1, r2, r3, r4, r5, r6) := h
 clear h
 simp only [Option.some.injEq, Prod.mk.injEq] at H
 obtain ⟨rfl, rfl, rfl, rfl, rfl, rfl⟩ := H
 go_enter Tryd.func18, Tryd.ntmps18
 go_wp2_with (first | ((with_reducible refine gate_dst (N := 0) rfl ?_); refine bxe 0 #[.int .i64 0, .int .i64 0, .int .i64 0, .string (⟨#[]⟩ : ByteArray), .bool false, .int .i64 0] 25 rfl rfl gr ?_; clear BX; intro gb135 w1 GE135 BX))
 refine bodyPost_ret (results_cell_row rfl _ _ gb135 25 #[.int .i64 0, .int .i64 0, .int .i64 0, .string (⟨#[]⟩ : ByteArray), .bool false, .int .i64 0] (0, 0) _ rfl bx_get Tryd.underlying25 rfl kr) rfl ?_
 exact ⟨er2, bx_bl⟩
end
section
/-! ### value_number: function 72 -/
def value_number.f (a0 : Int) : Option (Int × Int) := some (a0, 1)
set_option maxHeartbeats 8000000 in
set_option maxRecDepth 100000 in
theorem value_number.calls (a0 : Int) (r1 : Int) (r2 : Int) (w : World) (h : value_number.f a0 = some (r1, r2)) :
  Calls Tryd.prog 72 #[.int .i64 a0] w fun e w' => e = .returned (.agg #[.int .i64 r1, .int .i64 r2]) ∧ Below w.heap.size w w' := by
 have hu23 := Tryd.underlying23
 have BX := Bx.start w
 have H : (some (a0, 1)) = some (r1, r2) := h
 clear h
 simp only [Option.some.injEq, Prod.mk.injEq] at H
 obtain ⟨rfl, rfl⟩ := H
 go_enter Tryd.func72, Tryd.ntmps72
 go_wp2_with (first | ((with_reducible refine gate_dst (N := 2) rfl ?_); refine bxe 2 #[.int .i64 0, .int .i64 0] 23 rfl rfl gr ?_; clear BX; intro gb136 w2 GE136 BX))
 refine bodyPost_ret (results_cell_row rfl _ _ gb136 23 #[.int .i64 a0, .int .i64 1] (0, 0) _ rfl bx_get Tryd.underlying23 rfl kr) rfl ?_
 exact ⟨er2, bx_bl⟩
end
section
/-! ### value_beside: function 65 -/
def value_beside.f (k : Nat) (a0 : Int) : Option (Int × Int × Int × ByteArray × Bool × Int) := if a0 = 1 then ((value_number.f 0).bind fun bt138 => ((value_Number.f k bt138.1 bt138.2).bind fun bt140 => (some (bt140.1, bt140.2.1, bt140.2.2.1, bt140.2.2.2.1, bt140.2.2.2.2.1, bt140.2.2.2.2.2)))) else (if a0 = 2 then ((value_Text.f k (⟨#[]⟩ : ByteArray)).bind fun bt146 => (some (bt146.1, bt146.2.1, bt146.2.2.1, bt146.2.2.2.1, bt146.2.2.2.2.1, bt146.2.2.2.2.2))) else (if a0 = 3 then ((value_Truth.f false).bind fun bt152 => (some (bt152.1, bt152.2.1, bt152.2.2.1, bt152.2.2.2.1, bt152.2.2.2.2.1, bt152.2.2.2.2.2))) else ((value_Blank.f).bind fun bt158 => (some (bt158.1, bt158.2.1, bt158.2.2.1, bt158.2.2.2.1, bt158.2.2.2.2.1, bt158.2.2.2.2.2)))))
theorem value_beside.mono : ∀ a0 k, LeO (value_beside.f k a0) (value_beside.f (k + 1) a0) := by
 intro a0 k
 unfold value_beside.f
 repeat' first
   | (with_reducible exact value_Number.mono _ _ _)
   | (with_reducible exact value_Text.mono _ _)
   | (with_reducible exact LeO.refl _)
   | (with_reducible exact LeO.none _)
   | (with_reducible refine LeO.ite ?_ ?_)
   | (with_reducible refine LeO.bind ?_ (fun _ => ?_))
   | exact value_Number.mono _ _ _
   | exact value_Text.mono _ _
   | exact LeO.none _
   | refine LeO.ite ?_ ?_
   | refine LeO.bind ?_ (fun _ => ?_)
set_option maxHeartbeats 8000000 in
set_option maxRecDepth 100000 in
theorem value_beside.calls (k : Nat) (a0 : Int) (r1 : Int) (r2 : Int) (r3 : Int) (r4 : ByteArray) (r5 : Bool) (r6 : Int) (w : World) (h : value_beside.f k a0 = some (r1, r2, r3, r4, r5, r6)) :
  Calls Tryd.prog 65 #[.int .i64 a0] w fun e w' => e = .returned (.agg #[.int .i64 r1, .int .i64 r2, .int .i64 r3, .string r4, .bool r5, .int .i64 r6]) ∧ Below w.heap.size w w' := by
 have hu25 := Tryd.underlying25
 have BX := Bx.start w
 have H : (if a0 = 1 then ((value_number.f 0).bind fun bt138 => ((value_Number.f k bt138.1 bt138.2).bind fun bt140 => (some (bt140.1, bt140.2.1, bt140.2.2.1, bt140.2.2.2.1, bt140.2.2.2.2.1, bt140.2.2.2.2.2)))) else (if a0 = 2 then ((value_Text.f k (⟨#[]⟩ : ByteArray)).bind fun bt146 => (some (bt146.1, bt146.2.1, bt146.2.2.1, bt146.2.2.2.1, bt146.2.2.2.2.1, bt146.2.2.2.2.2))) else (if a0 = 3 then ((value_Truth.f false).bind fun bt152 => (some (bt152.1, bt152.2.1, bt152.2.2.1, bt152.2.2.2.1, bt152.2.2.2.2.1, bt152.2.2.2.2.2))) else ((value_Blank.f).bind fun bt158 => (some (bt158.1, bt158.2.1, bt158.2.2.1, bt158.2.2.2.1, bt158.2.2.2.2.1, bt158.2.2.2.2.2)))))) = some (r1, r2, r3, r4, r5, r6) := h
 clear h
 by_cases c2 : a0 = 1
 ·rw [if_pos c2] at H
  have c2b0 : (a0 == 1) = true := beq_iff_eq.mpr c2
  have c2b1 : (a0 != 1) = false := bne_eq_false_iff_eq.mpr c2
  clear c2
  replace H := Option.bind_eq_some_iff.mp H
  obtain ⟨⟨t138, t139⟩, A30, H⟩ := H
  have A3 := Aside0.mk A30
  clear A30
  replace H := Option.bind_eq_some_iff.mp H
  obtain ⟨⟨t140, t141, t142, t143, t144, t145⟩, A40, H⟩ := H
  replace H : (some (t140, t141, t142, t143, t144, t145)) = some (r1, r2, r3, r4, r5, r6) := H
  have A4 := Aside0.mk A40
  clear A40
  simp only [Option.some.injEq, Prod.mk.injEq] at H
  obtain ⟨rfl, rfl, rfl, rfl, rfl, rfl⟩ := H
  go_enter Tryd.func65, Tryd.ntmps65
  go_wp2_with (first | ((with_reducible refine gate_dst (N := 2) rfl ?_); refine bxe 2 #[.int .i64 0, .int .i64 0, .int .i64 0, .string (⟨#[]⟩ : ByteArray), .bool false, .int .i64 0] 25 rfl rfl gr ?_; clear BX; intro gb137 w5 GE137 BX) | ((with_reducible refine gate_callee (f := 72) rfl ?_); refine goesL_ (some 6) rfl rfl Tryd.func72 kr rfl #[.int .i64 0] rfl ga ?_; (with_reducible refine (value_number.calls 0 t138 t139 _ A3.out).mono ?_); rintro e w6 ⟨rfl, hb⟩; refine ⟨_, rfl, ?_⟩; replace BX := bx_call hb; clear hb) | ((with_reducible refine gate_callee (f := 19) rfl ?_); refine goesL_ (some 7) rfl rfl Tryd.func19 kr rfl #[.agg #[.int .i64 t138, .int .i64 t139]] rfl ga ?_; (with_reducible refine (value_Number.calls k t138 t139 t140 t141 t142 t143 t144 t145 _ A4.out).mono ?_); rintro e w7 ⟨rfl, hb⟩; refine ⟨_, rfl, ?_⟩; replace BX := bx_call hb; clear hb))
  refine bodyPost_ret (results_cell_row rfl _ _ gb137 25 #[.int .i64 t140, .int .i64 t141, .int .i64 t142, .string t143, .bool t144, .int .i64 t145] (0, 0) _ rfl bx_get Tryd.underlying25 rfl kr) rfl ?_
  exact ⟨er2, bx_bl⟩
 ·rw [if_neg c2] at H
  have c2b0 : (a0 == 1) = false := beq_eq_false_iff_ne.mpr c2
  have c2b1 : (a0 != 1) = true := bne_iff_ne.mpr c2
  by_cases c9 : a0 = 2
  ·rw [if_pos c9] at H
   have c9b0 : (a0 == 2) = true := beq_iff_eq.mpr c9
   have c9b1 : (a0 != 2) = false := bne_eq_false_iff_eq.mpr c9
   clear c9
   replace H := Option.bind_eq_some_iff.mp H
   obtain ⟨⟨t146, t147, t148, t149, t150, t151⟩, A100, H⟩ := H
   replace H : (some (t146, t147, t148, t149, t150, t151)) = some (r1, r2, r3, r4, r5, r6) := H
   have A10 := Aside0.mk A100
   clear A100
   simp only [Option.some.injEq, Prod.mk.injEq] at H
   obtain ⟨rfl, rfl, rfl, rfl, rfl, rfl⟩ := H
   go_enter Tryd.func65, Tryd.ntmps65
   go_wp2_with (first | ((with_reducible refine gate_dst (N := 2) rfl ?_); refine bxe 2 #[.int .i64 0, .int .i64 0, .int .i64 0, .string (⟨#[]⟩ : ByteArray), .bool false, .int .i64 0] 25 rfl rfl gr ?_; clear BX; intro gb137 w11 GE137 BX) | ((with_reducible refine gate_callee (f := 21) rfl ?_); refine goesL_ (some 10) rfl rfl Tryd.func21 kr rfl #[.string (⟨#[]⟩ : ByteArray)] rfl ga ?_; (with_reducible refine (value_Text.calls k (⟨#[]⟩ : ByteArray) t146 t147 t148 t149 t150 t151 _ A10.out).mono ?_); rintro e w12 ⟨rfl, hb⟩; refine ⟨_, rfl, ?_⟩; replace BX := bx_call hb; clear hb))
   refine bodyPost_ret (results_cell_row rfl _ _ gb137 25 #[.int .i64 t146, .int .i64 t147, .int .i64 t148, .string t149, .bool t150, .int .i64 t151] (0, 0) _ rfl bx_get Tryd.underlying25 rfl kr) rfl ?_
   exact ⟨er2, bx_bl⟩
  ·rw [if_neg c9] at H
   have c9b0 : (a0 == 2) = false := beq_eq_false_iff_ne.mpr c9
   have c9b1 : (a0 != 2) = true := bne_iff_ne.mpr c9
   by_cases c14 : a0 = 3
   ·rw [if_pos c14] at H
    have c14b0 : (a0 == 3) = true := beq_iff_eq.mpr c14
    have c14b1 : (a0 != 3) = false := bne_eq_false_iff_eq.mpr c14
    clear c14
    replace H := Option.bind_eq_some_iff.mp H
    obtain ⟨⟨t152, t153, t154, t155, t156, t157⟩, A150, H⟩ := H
    replace H : (some (t152, t153, t154, t155, t156, t157)) = some (r1, r2, r3, r4, r5, r6) := H
    have A15 := Aside0.mk A150
    clear A150
    simp only [Option.some.injEq, Prod.mk.injEq] at H
    obtain ⟨rfl, rfl, rfl, rfl, rfl, rfl⟩ := H
    go_enter Tryd.func65, Tryd.ntmps65
    go_wp2_with (first | ((with_reducible refine gate_dst (N := 2) rfl ?_); refine bxe 2 #[.int .i64 0, .int .i64 0, .int .i64 0, .string (⟨#[]⟩ : ByteArray), .bool false, .int .i64 0] 25 rfl rfl gr ?_; clear BX; intro gb137 w16 GE137 BX) | ((with_reducible refine gate_callee (f := 23) rfl ?_); refine goesL_ (some 13) rfl rfl Tryd.func23 kr rfl #[.bool false] rfl ga ?_; (with_reducible refine (value_Truth.calls false t152 t153 t154 t155 t156 t157 _ A15.out).mono ?_); rintro e w17 ⟨rfl, hb⟩; refine ⟨_, rfl, ?_⟩; replace BX := bx_call hb; clear hb))
    refine bodyPost_ret (results_cell_row rfl _ _ gb137 25 #[.int .i64 t152, .int .i64 t153, .int .i64 t154, .string t155, .bool t156, .int .i64 t157] (0, 0) _ rfl bx_get Tryd.underlying25 rfl kr) rfl ?_
    exact ⟨er2, bx_bl⟩
   ·rw [if_neg c14] at H
    have c14b0 : (a0 == 3) = false := beq_eq_false_iff_ne.mpr c14
    have c14b1 : (a0 != 3) = true := bne_iff_ne.mpr c14
    replace H := Option.bind_eq_some_iff.mp H
    obtain ⟨⟨t158, t159, t160, t161, t162, t163⟩, A190, H⟩ := H
    replace H : (some (t158, t159, t160, t161, t162, t163)) = some (r1, r2, r3, r4, r5, r6) := H
    have A19 := Aside0.mk A190
    clear A190
    simp only [Option.some.injEq, Prod.mk.injEq] at H
    obtain ⟨rfl, rfl, rfl, rfl, rfl, rfl⟩ := H
    go_enter Tryd.func65, Tryd.ntmps65
    go_wp2_with (first | ((with_reducible refine gate_dst (N := 2) rfl ?_); refine bxe 2 #[.int .i64 0, .int .i64 0, .int .i64 0, .string (⟨#[]⟩ : ByteArray), .bool false, .int .i64 0] 25 rfl rfl gr ?_; clear BX; intro gb137 w20 GE137 BX) | ((with_reducible refine gate_callee (f := 18) rfl ?_); refine goesL_ (some 14) rfl rfl Tryd.func18 kr rfl #[] rfl ga ?_; (with_reducible refine (value_Blank.calls  t158 t159 t160 t161 t162 t163 _ A19.out).mono ?_); rintro e w21 ⟨rfl, hb⟩; refine ⟨_, rfl, ?_⟩; replace BX := bx_call hb; clear hb))
    refine bodyPost_ret (results_cell_row rfl _ _ gb137 25 #[.int .i64 t158, .int .i64 t159, .int .i64 t160, .string t161, .bool t162, .int .i64 t163] (0, 0) _ rfl bx_get Tryd.underlying25 rfl kr) rfl ?_
    exact ⟨er2, bx_bl⟩
end
section
/-! ### value_word: function 56 -/
def value_word.f (a0 : Bool) : Option (ByteArray) := if a0 = true then (some (⟨#[84, 82, 85, 69]⟩ : ByteArray)) else (some (⟨#[70, 65, 76, 83, 69]⟩ : ByteArray))
set_option maxHeartbeats 8000000 in
set_option maxRecDepth 100000 in
theorem value_word.calls (a0 : Bool) (r : ByteArray) (w : World) (h : value_word.f a0 = some r) :
  Calls Tryd.prog 56 #[.bool a0] w fun e w' => e = .returned (.string r) ∧ Drawn0 w w' := by
 have H : (if a0 = true then (some (⟨#[84, 82, 85, 69]⟩ : ByteArray)) else (some (⟨#[70, 65, 76, 83, 69]⟩ : ByteArray))) = some r := h
 clear h
 by_cases c2 : a0 = true
 ·subst c2
  have H1 : (some (⟨#[84, 82, 85, 69]⟩ : ByteArray)) = some r := by rw [if_pos rfl] at H; exact H
  clear H
  have H := H1
  clear H1
  obtain rfl := Option.some.inj H
  go_enter Tryd.func56, Tryd.ntmps56
  go_wp2
  go_ret
  exact ⟨er, dr⟩
 ·replace c2 := Bool.eq_false_iff.mpr c2
  subst c2
  have H1 : (some (⟨#[70, 65, 76, 83, 69]⟩ : ByteArray)) = some r := by rw [if_neg (show ¬ (false = true) by decide)] at H; exact H
  clear H
  have H := H1
  clear H1
  obtain rfl := Option.some.inj H
  go_enter Tryd.func56, Tryd.ntmps56
  go_wp2
  go_ret
  exact ⟨er, dr⟩
end
section
/-! ### value_holds: function 63 -/
def value_holds.f (a0 : Int) (a1 : Int) : Option (Bool) := if a0 = 21 then (some (a1 == 0)) else (if a0 = 22 then (some (a1 != 0)) else (if a0 = 23 then (some (decide (a1 < 0))) else (if a0 = 24 then (some (decide (a1 ≤ 0))) else (if a0 = 25 then (some (decide (a1 > 0))) else (some (decide (a1 ≥ 0)))))))
set_option maxHeartbeats 8000000 in
set_option maxRecDepth 100000 in
theorem value_holds.calls (a0 : Int) (a1 : Int) (r : Bool) (w : World) (h : value_holds.f a0 a1 = some r) :
  Calls Tryd.prog 63 #[.int .i64 a0, .int .i64 a1] w fun e w' => e = .returned (.bool r) ∧ Drawn0 w w' := by
 have H : (if a0 = 21 then (some (a1 == 0)) else (if a0 = 22 then (some (a1 != 0)) else (if a0 = 23 then (some (decide (a1 < 0))) else (if a0 = 24 then (some (decide (a1 ≤ 0))) else (if a0 = 25 then (some (decide (a1 > 0))) else (some (decide (a1 ≥ 0)))))))) = some r := h
 clear h
 by_cases c3 : a0 = 21
 ·rw [if_pos c3] at H
  have c3b0 : (a0 == 21) = true := beq_iff_eq.mpr c3
  have c3b1 : (a0 != 21) = false := bne_eq_false_iff_eq.mpr c3
  clear c3
  obtain rfl := Option.some.inj H
  go_enter Tryd.func63, Tryd.ntmps63
  go_wp2
  go_ret
  exact ⟨er, dr⟩
 ·rw [if_neg c3] at H
  have c3b0 : (a0 == 21) = false := beq_eq_false_iff_ne.mpr c3
  have c3b1 : (a0 != 21) = true := bne_iff_ne.mpr c3
  by_cases c4 : a0 = 22
  ·rw [if_pos c4] at H
   have c4b0 : (a0 == 22) = true := beq_iff_eq.mpr c4
   have c4b1 : (a0 != 22) = false := bne_eq_false_iff_eq.mpr c4
   clear c4
   obtain rfl := Option.some.inj H
   go_enter Tryd.func63, Tryd.ntmps63
   go_wp2
   go_ret
   exact ⟨er, dr⟩
  ·rw [if_neg c4] at H
   have c4b0 : (a0 == 22) = false := beq_eq_false_iff_ne.mpr c4
   have c4b1 : (a0 != 22) = true := bne_iff_ne.mpr c4
   by_cases c5 : a0 = 23
   ·rw [if_pos c5] at H
    have c5b0 : (a0 == 23) = true := beq_iff_eq.mpr c5
    have c5b1 : (a0 != 23) = false := bne_eq_false_iff_eq.mpr c5
    clear c5
    obtain rfl := Option.some.inj H
    go_enter Tryd.func63, Tryd.ntmps63
    go_wp2
    go_ret
    exact ⟨er, dr⟩
   ·rw [if_neg c5] at H
    have c5b0 : (a0 == 23) = false := beq_eq_false_iff_ne.mpr c5
    have c5b1 : (a0 != 23) = true := bne_iff_ne.mpr c5
    by_cases c6 : a0 = 24
    ·rw [if_pos c6] at H
     have c6b0 : (a0 == 24) = true := beq_iff_eq.mpr c6
     have c6b1 : (a0 != 24) = false := bne_eq_false_iff_eq.mpr c6
     clear c6
     obtain rfl := Option.some.inj H
     go_enter Tryd.func63, Tryd.ntmps63
     go_wp2
     go_ret
     exact ⟨er, dr⟩
    ·rw [if_neg c6] at H
     have c6b0 : (a0 == 24) = false := beq_eq_false_iff_ne.mpr c6
     have c6b1 : (a0 != 24) = true := bne_iff_ne.mpr c6
     by_cases c7 : a0 = 25
     ·rw [if_pos c7] at H
      have c7b0 : (a0 == 25) = true := beq_iff_eq.mpr c7
      have c7b1 : (a0 != 25) = false := bne_eq_false_iff_eq.mpr c7
      clear c7
      obtain rfl := Option.some.inj H
      go_enter Tryd.func63, Tryd.ntmps63
      go_wp2
      go_ret
      exact ⟨er, dr⟩
     ·rw [if_neg c7] at H
      have c7b0 : (a0 == 25) = false := beq_eq_false_iff_ne.mpr c7
      have c7b1 : (a0 != 25) = true := bne_iff_ne.mpr c7
      obtain rfl := Option.some.inj H
      go_enter Tryd.func63, Tryd.ntmps63
      go_wp2
      go_ret
      exact ⟨er, dr⟩
end
section
/-! ### value_told: function 74 -/
def value_told.f (k : Nat) (a0_0 : Int) (a0_1 : Int) (a1 : Bool) : Option (Int × Int × Int × ByteArray × Bool × Int) := if a1 = true then ((value_Number.f k a0_0 a0_1).bind fun bt370 => (some (bt370.1, bt370.2.1, bt370.2.2.1, bt370.2.2.2.1, bt370.2.2.2.2.1, bt370.2.2.2.2.2))) else ((value_Fault.f 4).bind fun bt376 => (some (bt376.1, bt376.2.1, bt376.2.2.1, bt376.2.2.2.1, bt376.2.2.2.2.1, bt376.2.2.2.2.2)))
theorem value_told.mono : ∀ a0 a1 a2 k, LeO (value_told.f k a0 a1 a2) (value_told.f (k + 1) a0 a1 a2) := by
 intro a0 a1 a2 k
 unfold value_told.f
 repeat' first
   | (with_reducible exact value_Number.mono _ _ _)
   | (with_reducible exact LeO.refl _)
   | (with_reducible exact LeO.none _)
   | (with_reducible refine LeO.ite ?_ ?_)
   | (with_reducible refine LeO.bind ?_ (fun _ => ?_))
   | exact value_Number.mono _ _ _
   | exact LeO.none _
   | refine LeO.ite ?_ ?_
   | refine LeO.bind ?_ (fun _ => ?_)
set_option maxHeartbeats 8000000 in
set_option maxRecDepth 100000 in
theorem value_told.calls (k : Nat) (a0_0 : Int) (a0_1 : Int) (a1 : Bool) (r1 : Int) (r2 : Int) (r3 : Int) (r4 : ByteArray) (r5 : Bool) (r6 : Int) (w : World) (h : value_told.f k a0_0 a0_1 a1 = some (r1, r2, r3, r4, r5, r6)) :
  Calls Tryd.prog 74 #[.agg #[.int .i64 a0_0, .int .i64 a0_1], .bool a1] w fun e w' => e = .returned (.agg #[.int .i64 r1, .int .i64 r2, .int .i64 r3, .string r4, .bool r5, .int .i64 r6]) ∧ Below w.heap.size w w' := by
 have hu23 := Tryd.underlying23
 have hu25 := Tryd.underlying25
 have BX := Bx.start w
 have H : (if a1 = true then ((value_Number.f k a0_0 a0_1).bind fun bt370 => (some (bt370.1, bt370.2.1, bt370.2.2.1, bt370.2.2.2.1, bt370.2.2.2.2.1, bt370.2.2.2.2.2))) else ((value_Fault.f 4).bind fun bt376 => (some (bt376.1, bt376.2.1, bt376.2.2.1, bt376.2.2.2.1, bt376.2.2.2.2.1, bt376.2.2.2.2.2)))) = some (r1, r2, r3, r4, r5, r6) := h
 clear h
 by_cases c3 : a1 = true
 ·subst c3
  have H1 : ((value_Number.f k a0_0 a0_1).bind fun bt370 => (some (bt370.1, bt370.2.1, bt370.2.2.1, bt370.2.2.2.1, bt370.2.2.2.2.1, bt370.2.2.2.2.2))) = some (r1, r2, r3, r4, r5, r6) := by rw [if_pos rfl] at H; exact H
  clear H
  have H := H1
  clear H1
  replace H := Option.bind_eq_some_iff.mp H
  obtain ⟨⟨t370, t371, t372, t373, t374, t375⟩, A40, H⟩ := H
  replace H : (some (t370, t371, t372, t373, t374, t375)) = some (r1, r2, r3, r4, r5, r6) := H
  have A4 := Aside0.mk A40
  clear A40
  simp only [Option.some.injEq, Prod.mk.injEq] at H
  obtain ⟨rfl, rfl, rfl, rfl, rfl, rfl⟩ := H
  go_enter Tryd.func74, Tryd.ntmps74
  go_wp2_with (first | ((with_reducible refine gate_dst (N := 2) rfl ?_); refine bxe 2 #[.int .i64 a0_0, .int .i64 a0_1] 23 rfl rfl gr ?_; clear BX; intro gb368 w5 GE368 BX) | ((with_reducible refine gate_dst (N := 4) rfl ?_); refine bxe 4 #[.int .i64 0, .int .i64 0, .int .i64 0, .string (⟨#[]⟩ : ByteArray), .bool false, .int .i64 0] 25 rfl rfl gr ?_; clear BX; intro gb369 w6 GE369 BX) | ((with_reducible refine gate_callee (f := 19) rfl ?_); refine goesL_ (some 9) rfl rfl Tryd.func19 kr rfl #[.agg #[.int .i64 a0_0, .int .i64 a0_1]] rfl ga ?_; (with_reducible refine (value_Number.calls k a0_0 a0_1 t370 t371 t372 t373 t374 t375 _ A4.out).mono ?_); rintro e w9 ⟨rfl, hb⟩; refine ⟨_, rfl, ?_⟩; replace BX := bx_call hb; clear hb))
  refine bodyPost_ret (results_cell_row rfl _ _ gb369 25 #[.int .i64 t370, .int .i64 t371, .int .i64 t372, .string t373, .bool t374, .int .i64 t375] (0, 0) _ rfl bx_get Tryd.underlying25 rfl kr) rfl ?_
  exact ⟨er2, bx_bl⟩
 ·replace c3 := Bool.eq_false_iff.mpr c3
  subst c3
  have H1 : ((value_Fault.f 4).bind fun bt376 => (some (bt376.1, bt376.2.1, bt376.2.2.1, bt376.2.2.2.1, bt376.2.2.2.2.1, bt376.2.2.2.2.2))) = some (r1, r2, r3, r4, r5, r6) := by rw [if_neg (show ¬ (false = true) by decide)] at H; exact H
  clear H
  have H := H1
  clear H1
  replace H := Option.bind_eq_some_iff.mp H
  obtain ⟨⟨t376, t377, t378, t379, t380, t381⟩, A110, H⟩ := H
  replace H : (some (t376, t377, t378, t379, t380, t381)) = some (r1, r2, r3, r4, r5, r6) := H
  have A11 := Aside0.mk A110
  clear A110
  simp only [Option.some.injEq, Prod.mk.injEq] at H
  obtain ⟨rfl, rfl, rfl, rfl, rfl, rfl⟩ := H
  go_enter Tryd.func74, Tryd.ntmps74
  go_wp2_with (first | ((with_reducible refine gate_dst (N := 2) rfl ?_); refine bxe 2 #[.int .i64 a0_0, .int .i64 a0_1] 23 rfl rfl gr ?_; clear BX; intro gb368 w12 GE368 BX) | ((with_reducible refine gate_dst (N := 4) rfl ?_); refine bxe 4 #[.int .i64 0, .int .i64 0, .int .i64 0, .string (⟨#[]⟩ : ByteArray), .bool false, .int .i64 0] 25 rfl rfl gr ?_; clear BX; intro gb369 w13 GE369 BX) | ((with_reducible refine gate_callee (f := 25) rfl ?_); refine goesL_ (some 7) rfl rfl Tryd.func25 kr rfl #[.int .i64 4] rfl ga ?_; (with_reducible refine (value_Fault.calls 4 t376 t377 t378 t379 t380 t381 _ A11.out).mono ?_); rintro e w14 ⟨rfl, hb⟩; refine ⟨_, rfl, ?_⟩; replace BX := bx_call hb; clear hb))
  refine bodyPost_ret (results_cell_row rfl _ _ gb369 25 #[.int .i64 t376, .int .i64 t377, .int .i64 t378, .string t379, .bool t380, .int .i64 t381] (0, 0) _ rfl bx_get Tryd.underlying25 rfl kr) rfl ?_
  exact ⟨er2, bx_bl⟩
end
end Go.Proofs.YtmakkdlkgfgaoaaDoor.F
