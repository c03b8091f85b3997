-- Laid by program (wip/tools/genv.sh, pack.py, merge.py of this repo) out of the translation; Lean checks it.
import Derived.Test.YtmakkdlkgfgaoaaGreatDoorF0
import Derived.Test.YtmakkdlkgfgaoaaGreatDoorC0
import Derived.Test.YtmakkdlkgfgaoaaGreatDoorF100
import Derived.Test.YtmakkdlkgfgaoaaGreatDoorF106
import Derived.Test.YtmakkdlkgfgaoaaGreatDoorF107
namespace Go.Proofs.YtmakkdlkgfgaoaaGreatDoor.F
open Go.RowKit Go.Proofs.YtmakkdlkgfgaoaaGreatDoorW.PrintWords Go.Proofs.YtmakkdlkgfgaoaaGreatDoorW.PrintLast Go.Proofs.YtmakkdlkgfgaoaaGreatDoorW.PrintMore
attribute [local go_sem] max2_int min2_int max_two min_two max_three min_three max_four min_four
attribute [local go_sem high] bx_cell bx_frozen
set_option linter.unusedVariables false
set_option linter.unusedSimpArgs false

section
/-! ### whittleref2_plain: function 52 -/
def whittleref2_plain.l0 : Nat → ByteArray → Int → Option (Bool)
 | 0, _, _ => none
 | k + 1, x0, x3 => if x3 < (x0.size : Int) then (if 0 ≤ x3 then (if (bt x0 x3) < 32 then (some false) else (if (bt x0 x3) > 126 then (some false) else (whittleref2_plain.l0 k x0 (wrap64 (x3 + 1))))) else (none)) else (some true)
def whittleref2_plain.f (k : Nat) (a0 : ByteArray) : Option (Bool) := whittleref2_plain.l0 k a0 0
theorem whittleref2_plain.mono_l : ∀ k, (∀ y0 y1, LeO (whittleref2_plain.l0 k y0 y1) (whittleref2_plain.l0 (k + 1) y0 y1))
 | 0 => fun _ _ r h => by simp [whittleref2_plain.l0] at h
 | k + 1 => by
  have ih0 := whittleref2_plain.mono_l k
  ·intro y0 y1
   unfold whittleref2_plain.l0
   repeat' first
   | (with_reducible exact ih0 _ _)
   | (with_reducible exact LeO.refl _)
   | (with_reducible exact LeO.none _)
   | (with_reducible refine LeO.ite ?_ ?_)
   | (with_reducible refine LeO.bind ?_ (fun _ => ?_))
   | exact ih0 _ _
   | exact LeO.none _
   | refine LeO.ite ?_ ?_
   | refine LeO.bind ?_ (fun _ => ?_)
theorem whittleref2_plain.mono : ∀ a0 k, LeO (whittleref2_plain.f k a0) (whittleref2_plain.f (k + 1) a0) := by
 intro a0 k
 have ih0 := whittleref2_plain.mono_l k
 unfold whittleref2_plain.f
 repeat' first
   | (with_reducible exact ih0 _ _)
   | (with_reducible exact LeO.refl _)
   | (with_reducible exact LeO.none _)
   | (with_reducible refine LeO.ite ?_ ?_)
   | (with_reducible refine LeO.bind ?_ (fun _ => ?_))
   | exact ih0 _ _
   | exact LeO.none _
   | refine LeO.ite ?_ ?_
   | refine LeO.bind ?_ (fun _ => ?_)
set_option maxHeartbeats 8000000 in
set_option maxRecDepth 100000 in
theorem whittleref2_plain.calls (k : Nat) (a0 : ByteArray) (r : Bool) (w : World) (h : whittleref2_plain.f k a0 = some r) :
  Calls Tryz.prog 52 #[.string a0] w fun e w' => e = .returned (.bool r) ∧ Drawn0 w w' := by
 have H : (whittleref2_plain.l0 k a0 0) = some r := h
 clear h
 have H' := Aside0.mk H
 clear H
 go_enter Tryz.func52, Tryz.ntmps52
 go_wp2
 go_loopg [3] k (fun kq v3 w' => ∃ (x3_1 : Int), v3 = .int .i64 x3_1 ∧ Aside0 (whittleref2_plain.l0 kq a0 x3_1 = some r) ∧ Aside0 (kq ≤ k) ∧ Drawn0 w w')
 case atStart => exact ⟨(0), er, H', ⟨Nat.le_refl _⟩, dr⟩
 case round =>
  clear H'
  obtain ⟨x3_1, rfl, HA, HK1, ⟨m1, rfl⟩⟩ := hrel
  cases gk with
  | zero => exact absurd HA.out (by simp [whittleref2_plain.l0])
  | succ k1 =>
   have H := HA.out
   clear HA
   simp only [whittleref2_plain.l0] at H
   by_cases c2 : x3_1 < (a0.size : Int)
   ·rw [if_pos c2] at H
    have c2b0 : decide (x3_1 < (a0.size : Int)) = true := decide_eq_true c2
    clear c2
    by_cases c3 : 0 ≤ x3_1
    ·rw [if_pos c3] at H
     have c3b0 : decide (0 ≤ x3_1) = true := decide_eq_true c3
     clear c3
     by_cases c5 : (bt a0 x3_1) < 32
     ·rw [if_pos c5] at H
      have c5b0 : decide ((bt a0 x3_1) < 32) = true := decide_eq_true c5
      clear c5
      obtain rfl := Option.some.inj H
      have p4 : 0 ≤ (x3_1 : Int) := of_decide_eq_true (by first | (with_reducible assumption) | assumption)
      have q4 : x3_1 < (a0.size : Int) := of_decide_eq_true (by first | (with_reducible assumption) | assumption)
      have hx4 := bt_at a0 x3_1
      replace p4 := eq_true p4
      replace q4 := eq_true q4
      go_wp2
      go_ret
      exact ⟨er, dr⟩
     ·rw [if_neg c5] at H
      have c5b0 : decide ((bt a0 x3_1) < 32) = false := decide_eq_false c5
      clear c5
      by_cases c7 : (bt a0 x3_1) > 126
      ·rw [if_pos c7] at H
       have c7b0 : decide (126 < (bt a0 x3_1)) = true := decide_eq_true c7
       clear c7
       obtain rfl := Option.some.inj H
       have p4 : 0 ≤ (x3_1 : Int) := of_decide_eq_true (by first | (with_reducible assumption) | assumption)
       have q4 : x3_1 < (a0.size : Int) := of_decide_eq_true (by first | (with_reducible assumption) | assumption)
       have hx4 := bt_at a0 x3_1
       replace p4 := eq_true p4
       replace q4 := eq_true q4
       have p6 : 0 ≤ (x3_1 : Int) := of_decide_eq_true (by first | (with_reducible assumption) | assumption)
       have q6 : x3_1 < (a0.size : Int) := of_decide_eq_true (by first | (with_reducible assumption) | assumption)
       have hx6 := bt_at a0 x3_1
       replace p6 := eq_true p6
       replace q6 := eq_true q6
       go_wp2
       go_ret
       exact ⟨er, dr⟩
      ·rw [if_neg c7] at H
       have c7b0 : decide (126 < (bt a0 x3_1)) = false := decide_eq_false c7
       clear c7
       have H' := Aside0.mk H
       clear H
       have p4 : 0 ≤ (x3_1 : Int) := of_decide_eq_true (by first | (with_reducible assumption) | assumption)
       have q4 : x3_1 < (a0.size : Int) := of_decide_eq_true (by first | (with_reducible assumption) | assumption)
       have hx4 := bt_at a0 x3_1
       replace p4 := eq_true p4
       replace q4 := eq_true q4
       have p6 : 0 ≤ (x3_1 : Int) := of_decide_eq_true (by first | (with_reducible assumption) | assumption)
       have q6 : x3_1 < (a0.size : Int) := of_decide_eq_true (by first | (with_reducible assumption) | assumption)
       have hx6 := bt_at a0 x3_1
       replace p6 := eq_true p6
       replace q6 := eq_true q6
       go_wp2
       go_roundg k1
       case measure => have := HK1.out; omega
       case rel => exact ⟨(wrap64 (x3_1 + 1)), er, H', ⟨by have := HK1.out; omega⟩, dr⟩
    ·rw [if_neg c3] at H
     exact absurd H (by simp)
   ·rw [if_neg c2] at H
    have c2b0 : decide (x3_1 < (a0.size : Int)) = false := decide_eq_false c2
    clear c2
    obtain rfl := Option.some.inj H
    go_wp2
    go_ret
    exact ⟨er, dr⟩
end
section
attribute [local go_sem high] eqA25
/-! ### whittleref2_Right: function 49 -/
def whittleref2_Right.f (k : Nat) (a0_0 : Int) (a0_1 : Int) (a0_2 : Int) (a0_3 : ByteArray) (a0_4 : Bool) (a0_5 : Int) : Option (Bool) := if a0_0 = 0 then (some (a0_0 == 0 && ((a0_1 == 0 && (a0_2 == 0)) && (a0_3.toList == ([] : List UInt8) && (!a0_4 && (a0_5 == 0)))))) else (if a0_0 = 1 then ((whittleref1_Right.f k a0_1 a0_2).bind fun t580 => (if t580 = true then (some (a0_0 == 1 && (a0_3.toList == ([] : List UInt8) && (!a0_4 && (a0_5 == 0))))) else (some false))) else (if a0_0 = 2 then ((whittleref2_plain.f k a0_3).bind fun t581 => (if t581 = true then (if (a0_3.size : Int) ≤ 256 then (some (a0_0 == 2 && ((a0_1 == 0 && (a0_2 == 0)) && (!a0_4 && (a0_5 == 0))))) else (some false)) else (some false))) else (if a0_0 = 3 then (some (a0_0 == 3 && ((a0_1 == 0 && (a0_2 == 0)) && (a0_3.toList == ([] : List UInt8) && (a0_5 == 0))))) else (if a0_0 = 4 then (if a0_5 ≥ 1 then (if a0_5 ≤ 8 then (some (a0_0 == 4 && ((a0_1 == 0 && (a0_2 == 0)) && (a0_3.toList == ([] : List UInt8) && (!a0_4))))) else (some false)) else (some false)) else (some false)))))
theorem whittleref2_Right.mono : ∀ a0 a1 a2 a3 a4 a5 k, LeO (whittleref2_Right.f k a0 a1 a2 a3 a4 a5) (whittleref2_Right.f (k + 1) a0 a1 a2 a3 a4 a5) := by
 intro a0 a1 a2 a3 a4 a5 k
 unfold whittleref2_Right.f
 repeat' first
   | (with_reducible exact whittleref1_Right.mono _ _ _)
   | (with_reducible exact whittleref2_plain.mono _ _)
   | (with_reducible exact LeO.refl _)
   | (with_reducible exact LeO.none _)
   | (with_reducible refine LeO.ite ?_ ?_)
   | (with_reducible refine LeO.bind ?_ (fun _ => ?_))
   | exact whittleref1_Right.mono _ _ _
   | exact whittleref2_plain.mono _ _
   | exact LeO.none _
   | refine LeO.ite ?_ ?_
   | refine LeO.bind ?_ (fun _ => ?_)
set_option maxHeartbeats 8000000 in
set_option maxRecDepth 100000 in
theorem whittleref2_Right.calls (k : Nat) (a0_0 : Int) (a0_1 : Int) (a0_2 : Int) (a0_3 : ByteArray) (a0_4 : Bool) (a0_5 : Int) (r : Bool) (w : World) (h : whittleref2_Right.f k a0_0 a0_1 a0_2 a0_3 a0_4 a0_5 = some r) :
  Calls Tryz.prog 49 #[.agg #[.int .i64 a0_0, .int .i64 a0_1, .int .i64 a0_2, .string a0_3, .bool a0_4, .int .i64 a0_5]] w fun e w' => e = .returned (.bool r) ∧ Below w.heap.size w w' := by
 have hu25 := Tryz.underlying25
 have hu23 := Tryz.underlying23
 have BX := Bx.start w
 have H : (if a0_0 = 0 then (some (a0_0 == 0 && ((a0_1 == 0 && (a0_2 == 0)) && (a0_3.toList == ([] : List UInt8) && (!a0_4 && (a0_5 == 0)))))) else (if a0_0 = 1 then ((whittleref1_Right.f k a0_1 a0_2).bind fun t580 => (if t580 = true then (some (a0_0 == 1 && (a0_3.toList == ([] : List UInt8) && (!a0_4 && (a0_5 == 0))))) else (some false))) else (if a0_0 = 2 then ((whittleref2_plain.f k a0_3).bind fun t581 => (if t581 = true then (if (a0_3.size : Int) ≤ 256 then (some (a0_0 == 2 && ((a0_1 == 0 && (a0_2 == 0)) && (!a0_4 && (a0_5 == 0))))) else (some false)) else (some false))) else (if a0_0 = 3 then (some (a0_0 == 3 && ((a0_1 == 0 && (a0_2 == 0)) && (a0_3.toList == ([] : List UInt8) && (a0_5 == 0))))) else (if a0_0 = 4 then (if a0_5 ≥ 1 then (if a0_5 ≤ 8 then (some (a0_0 == 4 && ((a0_1 == 0 && (a0_2 == 0)) && (a0_3.toList == ([] : List UInt8) && (!a0_4))))) else (some false)) else (some false)) else (some false)))))) = some r := h
 clear h
 by_cases c2 : a0_0 = 0
 ·rw [if_pos c2] at H
  have c2b0 : (a0_0 == 0) = true := beq_iff_eq.mpr c2
  have c2b1 : (a0_0 != 0) = false := bne_eq_false_iff_eq.mpr c2
  clear c2
  obtain rfl := Option.some.inj H
  go_enter Tryz.func49, Tryz.ntmps49
  go_wp2_with (first | ((with_reducible refine gate_dst (N := 1) rfl ?_); (try (refine gate_guard (by rfl) ?_; dsimp only)); refine bxe 1 #[.int .i64 a0_0, .int .i64 a0_1, .int .i64 a0_2, .string a0_3, .bool a0_4, .int .i64 a0_5] 25 rfl rfl gr ?_; clear BX; intro gb579 w3 GE579 BX))
  go_ret
  exact ⟨er2, bx_bl⟩
 ·rw [if_neg c2] at H
  have c2b0 : (a0_0 == 0) = false := beq_eq_false_iff_ne.mpr c2
  have c2b1 : (a0_0 != 0) = true := bne_iff_ne.mpr c2
  by_cases c5 : a0_0 = 1
  ·rw [if_pos c5] at H
   have c5b0 : (a0_0 == 1) = true := beq_iff_eq.mpr c5
   have c5b1 : (a0_0 != 1) = false := bne_eq_false_iff_eq.mpr c5
   clear c5
   replace H := Option.bind_eq_some_iff.mp H
   obtain ⟨t580, A60, H⟩ := H
   replace H : (if t580 = true then (some (a0_0 == 1 && (a0_3.toList == ([] : List UInt8) && (!a0_4 && (a0_5 == 0))))) else (some false)) = some r := H
   have A6 := Aside0.mk A60
   clear A60
   by_cases c7 : t580 = true
   ·subst c7
    have H1 : (some (a0_0 == 1 && (a0_3.toList == ([] : List UInt8) && (!a0_4 && (a0_5 == 0))))) = some r := by rw [if_pos rfl] at H; exact H
    clear H
    have H := H1
    clear H1
    obtain rfl := Option.some.inj H
    go_enter Tryz.func49, Tryz.ntmps49
    go_wp2_with (first | ((with_reducible refine gate_dst (N := 1) rfl ?_); (try (refine gate_guard (by rfl) ?_; dsimp only)); refine bxe 1 #[.int .i64 a0_0, .int .i64 a0_1, .int .i64 a0_2, .string a0_3, .bool a0_4, .int .i64 a0_5] 25 rfl rfl gr ?_; clear BX; intro gb579 w8 GE579 BX) | ((with_reducible refine gate_callee (f := 77) rfl ?_); refine goesL_ (some 16) rfl rfl Tryz.func77 kr rfl #[.agg #[.int .i64 a0_1, .int .i64 a0_2]] rfl ga ?_; (with_reducible refine (whittleref1_Right.calls k a0_1 a0_2 true _ A6.out).mono ?_); rintro e w10 ⟨rfl, hb⟩; refine ⟨_, rfl, ?_⟩; replace BX := bx_call hb; clear hb))
    go_ret
    exact ⟨er2, bx_bl⟩
   ·replace c7 := Bool.eq_false_iff.mpr c7
    subst c7
    have H1 : (some false) = some r := by rw [if_neg (show ¬ (false = true) by decide)] at H; exact H
    clear H
    have H := H1
    clear H1
    obtain rfl := Option.some.inj H
    go_enter Tryz.func49, Tryz.ntmps49
    go_wp2_with (first | ((with_reducible refine gate_dst (N := 1) rfl ?_); (try (refine gate_guard (by rfl) ?_; dsimp only)); refine bxe 1 #[.int .i64 a0_0, .int .i64 a0_1, .int .i64 a0_2, .string a0_3, .bool a0_4, .int .i64 a0_5] 25 rfl rfl gr ?_; clear BX; intro gb579 w12 GE579 BX) | ((with_reducible refine gate_callee (f := 77) rfl ?_); refine goesL_ (some 16) rfl rfl Tryz.func77 kr rfl #[.agg #[.int .i64 a0_1, .int .i64 a0_2]] rfl ga ?_; (with_reducible refine (whittleref1_Right.calls k a0_1 a0_2 false _ A6.out).mono ?_); rintro e w14 ⟨rfl, hb⟩; refine ⟨_, rfl, ?_⟩; replace BX := bx_call hb; clear hb))
    go_ret
    exact ⟨er2, bx_bl⟩
  ·rw [if_neg c5] at H
   have c5b0 : (a0_0 == 1) = false := beq_eq_false_iff_ne.mpr c5
   have c5b1 : (a0_0 != 1) = true := bne_iff_ne.mpr c5
   by_cases c15 : a0_0 = 2
   ·rw [if_pos c15] at H
    have c15b0 : (a0_0 == 2) = true := beq_iff_eq.mpr c15
    have c15b1 : (a0_0 != 2) = false := bne_eq_false_iff_eq.mpr c15
    clear c15
    replace H := Option.bind_eq_some_iff.mp H
    obtain ⟨t581, A160, H⟩ := H
    replace H : (if t581 = true then (if (a0_3.size : Int) ≤ 256 then (some (a0_0 == 2 && ((a0_1 == 0 && (a0_2 == 0)) && (!a0_4 && (a0_5 == 0))))) else (some false)) else (some false)) = some r := H
    have A16 := Aside0.mk A160
    clear A160
    by_cases c17 : t581 = true
    ·subst c17
     have H1 : (if (a0_3.size : Int) ≤ 256 then (some (a0_0 == 2 && ((a0_1 == 0 && (a0_2 == 0)) && (!a0_4 && (a0_5 == 0))))) else (some false)) = some r := by rw [if_pos rfl] at H; exact H
     clear H
     have H := H1
     clear H1
     by_cases c18 : (a0_3.size : Int) ≤ 256
     ·rw [if_pos c18] at H
      have c18b0 : decide ((a0_3.size : Int) ≤ 256) = true := decide_eq_true c18
      have c18b1 : decide (a0_3.size ≤ 256) = true := decide_eq_true (by omega)
      clear c18
      obtain rfl := Option.some.inj H
      go_enter Tryz.func49, Tryz.ntmps49
      go_wp2_with (first | ((with_reducible refine gate_dst (N := 1) rfl ?_); (try (refine gate_guard (by rfl) ?_; dsimp only)); refine bxe 1 #[.int .i64 a0_0, .int .i64 a0_1, .int .i64 a0_2, .string a0_3, .bool a0_4, .int .i64 a0_5] 25 rfl rfl gr ?_; clear BX; intro gb579 w19 GE579 BX) | ((with_reducible refine gate_callee (f := 52) rfl ?_); refine goesL_ (some 29) rfl rfl Tryz.func52 kr rfl #[.string a0_3] rfl ga ?_; (with_reducible refine (whittleref2_plain.calls k a0_3 true _ A16.out).mono ?_); rintro e w' ⟨rfl, ⟨nd, rfl⟩⟩; refine ⟨_, rfl, ?_⟩))
      go_ret
      exact ⟨er2, bx_bl⟩
     ·rw [if_neg c18] at H
      have c18b0 : decide ((a0_3.size : Int) ≤ 256) = false := decide_eq_false c18
      have c18b1 : decide (a0_3.size ≤ 256) = false := decide_eq_false (by omega)
      clear c18
      obtain rfl := Option.some.inj H
      go_enter Tryz.func49, Tryz.ntmps49
      go_wp2_with (first | ((with_reducible refine gate_dst (N := 1) rfl ?_); (try (refine gate_guard (by rfl) ?_; dsimp only)); refine bxe 1 #[.int .i64 a0_0, .int .i64 a0_1, .int .i64 a0_2, .string a0_3, .bool a0_4, .int .i64 a0_5] 25 rfl rfl gr ?_; clear BX; intro gb579 w21 GE579 BX) | ((with_reducible refine gate_callee (f := 52) rfl ?_); refine goesL_ (some 29) rfl rfl Tryz.func52 kr rfl #[.string a0_3] rfl ga ?_; (with_reducible refine (whittleref2_plain.calls k a0_3 true _ A16.out).mono ?_); rintro e w' ⟨rfl, ⟨nd, rfl⟩⟩; refine ⟨_, rfl, ?_⟩))
      go_ret
      exact ⟨er2, bx_bl⟩
    ·replace c17 := Bool.eq_false_iff.mpr c17
     subst c17
     have H1 : (some false) = some r := by rw [if_neg (show ¬ (false = true) by decide)] at H; exact H
     clear H
     have H := H1
     clear H1
     obtain rfl := Option.some.inj H
     go_enter Tryz.func49, Tryz.ntmps49
     go_wp2_with (first | ((with_reducible refine gate_dst (N := 1) rfl ?_); (try (refine gate_guard (by rfl) ?_; dsimp only)); refine bxe 1 #[.int .i64 a0_0, .int .i64 a0_1, .int .i64 a0_2, .string a0_3, .bool a0_4, .int .i64 a0_5] 25 rfl rfl gr ?_; clear BX; intro gb579 w23 GE579 BX) | ((with_reducible refine gate_callee (f := 52) rfl ?_); refine goesL_ (some 29) rfl rfl Tryz.func52 kr rfl #[.string a0_3] rfl ga ?_; (with_reducible refine (whittleref2_plain.calls k a0_3 false _ A16.out).mono ?_); rintro e w' ⟨rfl, ⟨nd, rfl⟩⟩; refine ⟨_, rfl, ?_⟩))
     go_ret
     exact ⟨er2, bx_bl⟩
   ·rw [if_neg c15] at H
    have c15b0 : (a0_0 == 2) = false := beq_eq_false_iff_ne.mpr c15
    have c15b1 : (a0_0 != 2) = true := bne_iff_ne.mpr c15
    by_cases c25 : a0_0 = 3
    ·rw [if_pos c25] at H
     have c25b0 : (a0_0 == 3) = true := beq_iff_eq.mpr c25
     have c25b1 : (a0_0 != 3) = false := bne_eq_false_iff_eq.mpr c25
     clear c25
     obtain rfl := Option.some.inj H
     go_enter Tryz.func49, Tryz.ntmps49
     go_wp2_with (first | ((with_reducible refine gate_dst (N := 1) rfl ?_); (try (refine gate_guard (by rfl) ?_; dsimp only)); refine bxe 1 #[.int .i64 a0_0, .int .i64 a0_1, .int .i64 a0_2, .string a0_3, .bool a0_4, .int .i64 a0_5] 25 rfl rfl gr ?_; clear BX; intro gb579 w26 GE579 BX))
     go_ret
     exact ⟨er2, bx_bl⟩
    ·rw [if_neg c25] at H
     have c25b0 : (a0_0 == 3) = false := beq_eq_false_iff_ne.mpr c25
     have c25b1 : (a0_0 != 3) = true := bne_iff_ne.mpr c25
     by_cases c28 : a0_0 = 4
     ·rw [if_pos c28] at H
      have c28b0 : (a0_0 == 4) = true := beq_iff_eq.mpr c28
      have c28b1 : (a0_0 != 4) = false := bne_eq_false_iff_eq.mpr c28
      clear c28
      by_cases c29 : a0_5 ≥ 1
      ·rw [if_pos c29] at H
       have c29b0 : decide (1 ≤ a0_5) = true := decide_eq_true c29
       clear c29
       by_cases c30 : a0_5 ≤ 8
       ·rw [if_pos c30] at H
        have c30b0 : decide (a0_5 ≤ 8) = true := decide_eq_true c30
        clear c30
        obtain rfl := Option.some.inj H
        go_enter Tryz.func49, Tryz.ntmps49
        go_wp2_with (first | ((with_reducible refine gate_dst (N := 1) rfl ?_); (try (refine gate_guard (by rfl) ?_; dsimp only)); refine bxe 1 #[.int .i64 a0_0, .int .i64 a0_1, .int .i64 a0_2, .string a0_3, .bool a0_4, .int .i64 a0_5] 25 rfl rfl gr ?_; clear BX; intro gb579 w31 GE579 BX))
        go_ret
        exact ⟨er2, bx_bl⟩
       ·rw [if_neg c30] at H
        have c30b0 : decide (a0_5 ≤ 8) = false := decide_eq_false c30
        clear c30
        obtain rfl := Option.some.inj H
        go_enter Tryz.func49, Tryz.ntmps49
        go_wp2_with (first | ((with_reducible refine gate_dst (N := 1) rfl ?_); (try (refine gate_guard (by rfl) ?_; dsimp only)); refine bxe 1 #[.int .i64 a0_0, .int .i64 a0_1, .int .i64 a0_2, .string a0_3, .bool a0_4, .int .i64 a0_5] 25 rfl rfl gr ?_; clear BX; intro gb579 w33 GE579 BX))
        go_ret
        exact ⟨er2, bx_bl⟩
      ·rw [if_neg c29] at H
       have c29b0 : decide (1 ≤ a0_5) = false := decide_eq_false c29
       clear c29
       obtain rfl := Option.some.inj H
       go_enter Tryz.func49, Tryz.ntmps49
       go_wp2_with (first | ((with_reducible refine gate_dst (N := 1) rfl ?_); (try (refine gate_guard (by rfl) ?_; dsimp only)); refine bxe 1 #[.int .i64 a0_0, .int .i64 a0_1, .int .i64 a0_2, .string a0_3, .bool a0_4, .int .i64 a0_5] 25 rfl rfl gr ?_; clear BX; intro gb579 w35 GE579 BX))
       go_ret
       exact ⟨er2, bx_bl⟩
     ·rw [if_neg c28] at H
      have c28b0 : (a0_0 == 4) = false := beq_eq_false_iff_ne.mpr c28
      have c28b1 : (a0_0 != 4) = true := bne_iff_ne.mpr c28
      obtain rfl := Option.some.inj H
      go_enter Tryz.func49, Tryz.ntmps49
      go_wp2_with (first | ((with_reducible refine gate_dst (N := 1) rfl ?_); (try (refine gate_guard (by rfl) ?_; dsimp only)); refine bxe 1 #[.int .i64 a0_0, .int .i64 a0_1, .int .i64 a0_2, .string a0_3, .bool a0_4, .int .i64 a0_5] 25 rfl rfl gr ?_; clear BX; intro gb579 w37 GE579 BX))
      go_ret
      exact ⟨er2, bx_bl⟩
end
section
/-! ### whittleref2_Of: function 23 -/
def whittleref2_Of.f (k : Nat) (a0_0 : Int) (a0_1 : Int) (a0_2 : Int) (a0_3 : ByteArray) (a0_4 : Bool) (a0_5 : Int) : Option (Int × Int × Int × ByteArray × Bool × Int) := (whittleref2_Right.f k a0_0 a0_1 a0_2 a0_3 a0_4 a0_5).bind fun t584 => (if t584 = true then (some (a0_0, a0_1, a0_2, a0_3, a0_4, a0_5)) else (some (4, 0, 0, (⟨#[]⟩ : ByteArray), false, 2)))
theorem whittleref2_Of.mono : ∀ a0 a1 a2 a3 a4 a5 k, LeO (whittleref2_Of.f k a0 a1 a2 a3 a4 a5) (whittleref2_Of.f (k + 1) a0 a1 a2 a3 a4 a5) := by
 intro a0 a1 a2 a3 a4 a5 k
 unfold whittleref2_Of.f
 repeat' first
   | (with_reducible exact whittleref2_Right.mono _ _ _ _ _ _ _)
   | (with_reducible exact LeO.refl _)
   | (with_reducible exact LeO.none _)
   | (with_reducible refine LeO.ite ?_ ?_)
   | (with_reducible refine LeO.bind ?_ (fun _ => ?_))
   | exact whittleref2_Right.mono _ _ _ _ _ _ _
   | exact LeO.none _
   | refine LeO.ite ?_ ?_
   | refine LeO.bind ?_ (fun _ => ?_)
set_option maxHeartbeats 8000000 in
set_option maxRecDepth 100000 in
theorem whittleref2_Of.calls (k : Nat) (a0_0 : Int) (a0_1 : Int) (a0_2 : Int) (a0_3 : ByteArray) (a0_4 : Bool) (a0_5 : Int) (r1 : Int) (r2 : Int) (r3 : Int) (r4 : ByteArray) (r5 : Bool) (r6 : Int) (w : World) (h : whittleref2_Of.f k a0_0 a0_1 a0_2 a0_3 a0_4 a0_5 = some (r1, r2, r3, r4, r5, r6)) :
  Calls Tryz.prog 23 #[.agg #[.int .i64 a0_0, .int .i64 a0_1, .int .i64 a0_2, .string a0_3, .bool a0_4, .int .i64 a0_5]] w fun e w' => e = .returned (.agg #[.int .i64 r1, .int .i64 r2, .int .i64 r3, .string r4, .bool r5, .int .i64 r6]) ∧ Below w.heap.size w w' := by
 have hu25 := Tryz.underlying25
 have BX := Bx.start w
 have H : ((whittleref2_Right.f k a0_0 a0_1 a0_2 a0_3 a0_4 a0_5).bind fun t584 => (if t584 = true then (some (a0_0, a0_1, a0_2, a0_3, a0_4, a0_5)) else (some (4, 0, 0, (⟨#[]⟩ : ByteArray), false, 2)))) = some (r1, r2, r3, r4, r5, r6) := h
 clear h
 replace H := Option.bind_eq_some_iff.mp H
 obtain ⟨t584, A20, H⟩ := H
 replace H : (if t584 = true then (some (a0_0, a0_1, a0_2, a0_3, a0_4, a0_5)) else (some (4, 0, 0, (⟨#[]⟩ : ByteArray), false, 2))) = some (r1, r2, r3, r4, r5, r6) := H
 have A2 := Aside0.mk A20
 clear A20
 by_cases c3 : t584 = true
 ·subst c3
  have H1 : (some (a0_0, a0_1, a0_2, a0_3, a0_4, a0_5)) = some (r1, r2, r3, r4, r5, r6) := by rw [if_pos rfl] at H; exact H
  clear H
  have H := H1
  clear H1
  simp only [Option.some.injEq, Prod.mk.injEq] at H
  obtain ⟨rfl, rfl, rfl, rfl, rfl, rfl⟩ := H
  go_enter Tryz.func23, Tryz.ntmps23
  go_wp2_with (first | ((with_reducible refine gate_dst (N := 1) rfl ?_); refine bxe 1 #[.int .i64 a0_0, .int .i64 a0_1, .int .i64 a0_2, .string a0_3, .bool a0_4, .int .i64 a0_5] 25 rfl rfl gr ?_; clear BX; intro gb582 w4 GE582 BX) | ((with_reducible refine gate_dst (N := 2) rfl ?_); refine bxe 2 #[.int .i64 0, .int .i64 0, .int .i64 0, .string (⟨#[]⟩ : ByteArray), .bool false, .int .i64 0] 25 rfl rfl gr ?_; clear BX; intro gb583 w5 GE583 BX) | ((with_reducible refine gate_callee (f := 49) rfl ?_); refine goesL_ (some 5) rfl rfl Tryz.func49 kr rfl #[.agg #[.int .i64 a0_0, .int .i64 a0_1, .int .i64 a0_2, .string a0_3, .bool a0_4, .int .i64 a0_5]] rfl ga ?_; (with_reducible refine (whittleref2_Right.calls k a0_0 a0_1 a0_2 a0_3 a0_4 a0_5 true _ A2.out).mono ?_); rintro e w8 ⟨rfl, hb⟩; refine ⟨_, rfl, ?_⟩; replace BX := bx_call hb; clear hb))
  refine bodyPost_ret (results_cell_row rfl _ _ gb583 25 #[.int .i64 a0_0, .int .i64 a0_1, .int .i64 a0_2, .string a0_3, .bool a0_4, .int .i64 a0_5] (0, 0) _ rfl bx_get Tryz.underlying25 rfl kr) rfl ?_
  exact ⟨er2, bx_bl⟩
 ·replace c3 := Bool.eq_false_iff.mpr c3
  subst c3
  have H1 : (some (4, 0, 0, (⟨#[]⟩ : ByteArray), false, 2)) = some (r1, r2, r3, r4, r5, r6) := by rw [if_neg (show ¬ (false = true) by decide)] at H; exact H
  clear H
  have H := H1
  clear H1
  simp only [Option.some.injEq, Prod.mk.injEq] at H
  obtain ⟨rfl, rfl, rfl, rfl, rfl, rfl⟩ := H
  go_enter Tryz.func23, Tryz.ntmps23
  go_wp2_with (first | ((with_reducible refine gate_dst (N := 1) rfl ?_); refine bxe 1 #[.int .i64 a0_0, .int .i64 a0_1, .int .i64 a0_2, .string a0_3, .bool a0_4, .int .i64 a0_5] 25 rfl rfl gr ?_; clear BX; intro gb582 w11 GE582 BX) | ((with_reducible refine gate_dst (N := 2) rfl ?_); refine bxe 2 #[.int .i64 0, .int .i64 0, .int .i64 0, .string (⟨#[]⟩ : ByteArray), .bool false, .int .i64 0] 25 rfl rfl gr ?_; clear BX; intro gb583 w12 GE583 BX) | ((with_reducible refine gate_callee (f := 49) rfl ?_); refine goesL_ (some 5) rfl rfl Tryz.func49 kr rfl #[.agg #[.int .i64 a0_0, .int .i64 a0_1, .int .i64 a0_2, .string a0_3, .bool a0_4, .int .i64 a0_5]] rfl ga ?_; (with_reducible refine (whittleref2_Right.calls k a0_0 a0_1 a0_2 a0_3 a0_4 a0_5 false _ A2.out).mono ?_); rintro e w15 ⟨rfl, hb⟩; refine ⟨_, rfl, ?_⟩; replace BX := bx_call hb; clear hb))
  refine bodyPost_ret (results_cell_row rfl _ _ gb583 25 #[.int .i64 4, .int .i64 0, .int .i64 0, .string (⟨#[]⟩ : ByteArray), .bool false, .int .i64 2] (0, 0) _ rfl bx_get Tryz.underlying25 rfl kr) rfl ?_
  exact ⟨er2, bx_bl⟩
end
section
/-! ### whittleref2_Fault: function 24 -/
def whittleref2_Fault.f (a0 : Int) : Option (Int × Int × Int × ByteArray × Bool × Int) := if a0 < 1 then (some (4, 0, 0, (⟨#[]⟩ : ByteArray), false, 2)) else (if a0 > 8 then (some (4, 0, 0, (⟨#[]⟩ : ByteArray), false, 2)) else (some (4, 0, 0, (⟨#[]⟩ : ByteArray), false, a0)))
set_option maxHeartbeats 8000000 in
set_option maxRecDepth 100000 in
theorem whittleref2_Fault.calls (a0 : Int) (r1 : Int) (r2 : Int) (r3 : Int) (r4 : ByteArray) (r5 : Bool) (r6 : Int) (w : World) (h : whittleref2_Fault.f a0 = some (r1, r2, r3, r4, r5, r6)) :
  Calls Tryz.prog 24 #[.int .i64 a0] w fun e w' => e = .returned (.agg #[.int .i64 r1, .int .i64 r2, .int .i64 r3, .string r4, .bool r5, .int .i64 r6]) ∧ Below w.heap.size w w' := by
 have hu25 := Tryz.underlying25
 have BX := Bx.start w
 have H : (if a0 < 1 then (some (4, 0, 0, (⟨#[]⟩ : ByteArray), false, 2)) else (if a0 > 8 then (some (4, 0, 0, (⟨#[]⟩ : ByteArray), false, 2)) else (some (4, 0, 0, (⟨#[]⟩ : ByteArray), false, a0)))) = some (r1, r2, r3, r4, r5, r6) := h
 clear h
 by_cases c2 : a0 < 1
 ·rw [if_pos c2] at H
  have c2b0 : decide (a0 < 1) = true := decide_eq_true c2
  clear c2
  simp only [Option.some.injEq, Prod.mk.injEq] at H
  obtain ⟨rfl, rfl, rfl, rfl, rfl, rfl⟩ := H
  go_enter Tryz.func24, Tryz.ntmps24
  go_wp2_with (first | ((with_reducible refine gate_dst (N := 2) rfl ?_); refine bxe 2 #[.int .i64 0, .int .i64 0, .int .i64 0, .string (⟨#[]⟩ : ByteArray), .bool false, .int .i64 0] 25 rfl rfl gr ?_; clear BX; intro gb585 w3 GE585 BX))
  refine bodyPost_ret (results_cell_row rfl _ _ gb585 25 #[.int .i64 4, .int .i64 0, .int .i64 0, .string (⟨#[]⟩ : ByteArray), .bool false, .int .i64 2] (0, 0) _ rfl bx_get Tryz.underlying25 rfl kr) rfl ?_
  exact ⟨er2, bx_bl⟩
 ·rw [if_neg c2] at H
  have c2b0 : decide (a0 < 1) = false := decide_eq_false c2
  clear c2
  by_cases c5 : a0 > 8
  ·rw [if_pos c5] at H
   have c5b0 : decide (8 < a0) = true := decide_eq_true c5
   clear c5
   simp only [Option.some.injEq, Prod.mk.injEq] at H
   obtain ⟨rfl, rfl, rfl, rfl, rfl, rfl⟩ := H
   go_enter Tryz.func24, Tryz.ntmps24
   go_wp2_with (first | ((with_reducible refine gate_dst (N := 2) rfl ?_); refine bxe 2 #[.int .i64 0, .int .i64 0, .int .i64 0, .string (⟨#[]⟩ : ByteArray), .bool false, .int .i64 0] 25 rfl rfl gr ?_; clear BX; intro gb585 w6 GE585 BX))
   refine bodyPost_ret (results_cell_row rfl _ _ gb585 25 #[.int .i64 4, .int .i64 0, .int .i64 0, .string (⟨#[]⟩ : ByteArray), .bool false, .int .i64 2] (0, 0) _ rfl bx_get Tryz.underlying25 rfl kr) rfl ?_
   exact ⟨er2, bx_bl⟩
  ·rw [if_neg c5] at H
   have c5b0 : decide (8 < a0) = false := decide_eq_false c5
   clear c5
   simp only [Option.some.injEq, Prod.mk.injEq] at H
   obtain ⟨rfl, rfl, rfl, rfl, rfl, rfl⟩ := H
   go_enter Tryz.func24, Tryz.ntmps24
   go_wp2_with (first | ((with_reducible refine gate_dst (N := 2) rfl ?_); refine bxe 2 #[.int .i64 0, .int .i64 0, .int .i64 0, .string (⟨#[]⟩ : ByteArray), .bool false, .int .i64 0] 25 rfl rfl gr ?_; clear BX; intro gb585 w8 GE585 BX))
   refine bodyPost_ret (results_cell_row rfl _ _ gb585 25 #[.int .i64 4, .int .i64 0, .int .i64 0, .string (⟨#[]⟩ : ByteArray), .bool false, .int .i64 a0] (0, 0) _ rfl bx_get Tryz.underlying25 rfl kr) rfl ?_
   exact ⟨er2, bx_bl⟩
end
section
/-! ### whittleref2_truth: function 51 -/
def whittleref2_truth.f (a0 : Bool) : Option (ByteArray) := if a0 = true then (some (⟨#[84, 82, 85, 69]⟩ : ByteArray)) else (some (⟨#[70, 65, 76, 83, 69]⟩ : ByteArray))
set_option maxHeartbeats 8000000 in
set_option maxRecDepth 100000 in
theorem whittleref2_truth.calls (a0 : Bool) (r : ByteArray) (w : World) (h : whittleref2_truth.f a0 = some r) :
  Calls Tryz.prog 51 #[.bool a0] w fun e w' => e = .returned (.string r) ∧ Drawn0 w w' := by
 have H : (if a0 = true then (some (⟨#[84, 82, 85, 69]⟩ : ByteArray)) else (some (⟨#[70, 65, 76, 83, 69]⟩ : ByteArray))) = some r := h
 clear h
 by_cases c2 : a0 = true
 ·subst c2
  have H1 : (some (⟨#[84, 82, 85, 69]⟩ : ByteArray)) = some r := by rw [if_pos rfl] at H; exact H
  clear H
  have H := H1
  clear H1
  obtain rfl := Option.some.inj H
  go_enter Tryz.func51, Tryz.ntmps51
  go_wp2
  go_ret
  exact ⟨er, dr⟩
 ·replace c2 := Bool.eq_false_iff.mpr c2
  subst c2
  have H1 : (some (⟨#[70, 65, 76, 83, 69]⟩ : ByteArray)) = some r := by rw [if_neg (show ¬ (false = true) by decide)] at H; exact H
  clear H
  have H := H1
  clear H1
  obtain rfl := Option.some.inj H
  go_enter Tryz.func51, Tryz.ntmps51
  go_wp2
  go_ret
  exact ⟨er, dr⟩
end
section
/-! ### whittleref2_AsText: function 25 -/
def whittleref2_AsText.f (k : Nat) (a0_0 : Int) (a0_1 : Int) (a0_2 : Int) (a0_3 : ByteArray) (a0_4 : Bool) (a0_5 : Int) : Option (ByteArray × Int × Int × Int × ByteArray × Bool × Int) := (whittleref2_Of.f k a0_0 a0_1 a0_2 a0_3 a0_4 a0_5).bind fun bt602 => (if bt602.1 = 1 then ((whittleref1_Text.f k bt602.2.1 bt602.2.2.1).bind fun t608 => (some (t608, 0, 0, 0, (⟨#[]⟩ : ByteArray), false, 0))) else (if bt602.1 = 2 then (some (bt602.2.2.2.1, 0, 0, 0, (⟨#[]⟩ : ByteArray), false, 0)) else (if bt602.1 = 3 then ((whittleref2_truth.f bt602.2.2.2.2.1).bind fun t609 => (some (t609, 0, 0, 0, (⟨#[]⟩ : ByteArray), false, 0))) else (if bt602.1 = 4 then (some ((⟨#[]⟩ : ByteArray), bt602.1, bt602.2.1, bt602.2.2.1, bt602.2.2.2.1, bt602.2.2.2.2.1, bt602.2.2.2.2.2)) else (some ((⟨#[]⟩ : ByteArray), 0, 0, 0, (⟨#[]⟩ : ByteArray), false, 0))))))
theorem whittleref2_AsText.mono : ∀ a0 a1 a2 a3 a4 a5 k, LeO (whittleref2_AsText.f k a0 a1 a2 a3 a4 a5) (whittleref2_AsText.f (k + 1) a0 a1 a2 a3 a4 a5) := by
 intro a0 a1 a2 a3 a4 a5 k
 unfold whittleref2_AsText.f
 repeat' first
   | (with_reducible exact whittleref1_Text.mono _ _ _)
   | (with_reducible exact whittleref2_Of.mono _ _ _ _ _ _ _)
   | (with_reducible exact LeO.refl _)
   | (with_reducible exact LeO.none _)
   | (with_reducible refine LeO.ite ?_ ?_)
   | (with_reducible refine LeO.bind ?_ (fun _ => ?_))
   | exact whittleref1_Text.mono _ _ _
   | exact whittleref2_Of.mono _ _ _ _ _ _ _
   | exact LeO.none _
   | refine LeO.ite ?_ ?_
   | refine LeO.bind ?_ (fun _ => ?_)
set_option maxHeartbeats 8000000 in
set_option maxRecDepth 100000 in
theorem whittleref2_AsText.calls (k : Nat) (a0_0 : Int) (a0_1 : Int) (a0_2 : Int) (a0_3 : ByteArray) (a0_4 : Bool) (a0_5 : Int) (r1 : ByteArray) (r2 : Int) (r3 : Int) (r4 : Int) (r5 : ByteArray) (r6 : Bool) (r7 : Int) (w : World) (h : whittleref2_AsText.f k a0_0 a0_1 a0_2 a0_3 a0_4 a0_5 = some (r1, r2, r3, r4, r5, r6, r7)) :
  Calls Tryz.prog 25 #[.agg #[.int .i64 a0_0, .int .i64 a0_1, .int .i64 a0_2, .string a0_3, .bool a0_4, .int .i64 a0_5]] w fun e w' => e = .returned (.tuple #[.string r1, .agg #[.int .i64 r2, .int .i64 r3, .int .i64 r4, .string r5, .bool r6, .int .i64 r7]]) ∧ Below w.heap.size w w' := by
 have hu25 := Tryz.underlying25
 have hu23 := Tryz.underlying23
 have BX := Bx.start w
 have H : ((whittleref2_Of.f k a0_0 a0_1 a0_2 a0_3 a0_4 a0_5).bind fun bt602 => (if bt602.1 = 1 then ((whittleref1_Text.f k bt602.2.1 bt602.2.2.1).bind fun t608 => (some (t608, 0, 0, 0, (⟨#[]⟩ : ByteArray), false, 0))) else (if bt602.1 = 2 then (some (bt602.2.2.2.1, 0, 0, 0, (⟨#[]⟩ : ByteArray), false, 0)) else (if bt602.1 = 3 then ((whittleref2_truth.f bt602.2.2.2.2.1).bind fun t609 => (some (t609, 0, 0, 0, (⟨#[]⟩ : ByteArray), false, 0))) else (if bt602.1 = 4 then (some ((⟨#[]⟩ : ByteArray), bt602.1, bt602.2.1, bt602.2.2.1, bt602.2.2.2.1, bt602.2.2.2.2.1, bt602.2.2.2.2.2)) else (some ((⟨#[]⟩ : ByteArray), 0, 0, 0, (⟨#[]⟩ : ByteArray), false, 0))))))) = some (r1, r2, r3, r4, r5, r6, r7) := h
 clear h
 replace H := Option.bind_eq_some_iff.mp H
 obtain ⟨⟨t602, t603, t604, t605, t606, t607⟩, A20, H⟩ := H
 replace H : (if t602 = 1 then ((whittleref1_Text.f k t603 t604).bind fun t608 => (some (t608, 0, 0, 0, (⟨#[]⟩ : ByteArray), false, 0))) else (if t602 = 2 then (some (t605, 0, 0, 0, (⟨#[]⟩ : ByteArray), false, 0)) else (if t602 = 3 then ((whittleref2_truth.f t606).bind fun t609 => (some (t609, 0, 0, 0, (⟨#[]⟩ : ByteArray), false, 0))) else (if t602 = 4 then (some ((⟨#[]⟩ : ByteArray), t602, t603, t604, t605, t606, t607)) else (some ((⟨#[]⟩ : ByteArray), 0, 0, 0, (⟨#[]⟩ : ByteArray), false, 0)))))) = some (r1, r2, r3, r4, r5, r6, r7) := H
 have A2 := Aside0.mk A20
 clear A20
 by_cases c3 : t602 = 1
 ·rw [if_pos c3] at H
  have c3b0 : (t602 == 1) = true := beq_iff_eq.mpr c3
  have c3b1 : (t602 != 1) = false := bne_eq_false_iff_eq.mpr c3
  clear c3
  replace H := Option.bind_eq_some_iff.mp H
  obtain ⟨t608, A40, H⟩ := H
  replace H : (some (t608, 0, 0, 0, (⟨#[]⟩ : ByteArray), false, 0)) = some (r1, r2, r3, r4, r5, r6, r7) := H
  have A4 := Aside0.mk A40
  clear A40
  simp only [Option.some.injEq, Prod.mk.injEq] at H
  obtain ⟨rfl, rfl, rfl, rfl, rfl, rfl, rfl⟩ := H
  go_enter Tryz.func25, Tryz.ntmps25
  go_wp2_with (first | ((with_reducible refine gate_dst (N := 1) rfl ?_); refine bxe 1 #[.int .i64 a0_0, .int .i64 a0_1, .int .i64 a0_2, .string a0_3, .bool a0_4, .int .i64 a0_5] 25 rfl rfl gr ?_; clear BX; intro gb600 w5 GE600 BX) | ((with_reducible refine gate_dst (N := 3) rfl ?_); refine bxe 3 #[.int .i64 0, .int .i64 0, .int .i64 0, .string (⟨#[]⟩ : ByteArray), .bool false, .int .i64 0] 25 rfl rfl gr ?_; clear BX; intro gb601 w6 GE601 BX) | ((with_reducible refine gate_callee (f := 23) rfl ?_); refine goesL_ (some 5) rfl rfl Tryz.func23 kr rfl #[.agg #[.int .i64 a0_0, .int .i64 a0_1, .int .i64 a0_2, .string a0_3, .bool a0_4, .int .i64 a0_5]] rfl ga ?_; (with_reducible refine (whittleref2_Of.calls k a0_0 a0_1 a0_2 a0_3 a0_4 a0_5 t602 t603 t604 t605 t606 t607 _ A2.out).mono ?_); rintro e w9 ⟨rfl, hb⟩; refine ⟨_, rfl, ?_⟩; replace BX := bx_call hb; clear hb) | ((with_reducible refine gate_callee (f := 50) rfl ?_); refine goesL_ (some 12) rfl rfl Tryz.func50 kr rfl #[.agg #[.int .i64 t603, .int .i64 t604]] rfl ga ?_; (with_reducible refine (whittleref1_Text.calls k t603 t604 t608 _ A4.out).mono ?_); rintro e w11 ⟨rfl, hb⟩; refine ⟨_, rfl, ?_⟩; replace BX := bx_call hb; clear hb))
  refine bodyPost_ret (results_tc rfl _ _ gb601 25 #[.int .i64 0, .int .i64 0, .int .i64 0, .string (⟨#[]⟩ : ByteArray), .bool false, .int .i64 0] (0, 0) _ rfl bx_get Tryz.underlying25 rfl kr) rfl ?_
  exact ⟨er2, bx_bl⟩
 ·rw [if_neg c3] at H
  have c3b0 : (t602 == 1) = false := beq_eq_false_iff_ne.mpr c3
  have c3b1 : (t602 != 1) = true := bne_iff_ne.mpr c3
  by_cases c13 : t602 = 2
  ·rw [if_pos c13] at H
   have c13b0 : (t602 == 2) = true := beq_iff_eq.mpr c13
   have c13b1 : (t602 != 2) = false := bne_eq_false_iff_eq.mpr c13
   clear c13
   simp only [Option.some.injEq, Prod.mk.injEq] at H
   obtain ⟨rfl, rfl, rfl, rfl, rfl, rfl, rfl⟩ := H
   go_enter Tryz.func25, Tryz.ntmps25
   go_wp2_with (first | ((with_reducible refine gate_dst (N := 1) rfl ?_); refine bxe 1 #[.int .i64 a0_0, .int .i64 a0_1, .int .i64 a0_2, .string a0_3, .bool a0_4, .int .i64 a0_5] 25 rfl rfl gr ?_; clear BX; intro gb600 w14 GE600 BX) | ((with_reducible refine gate_dst (N := 3) rfl ?_); refine bxe 3 #[.int .i64 0, .int .i64 0, .int .i64 0, .string (⟨#[]⟩ : ByteArray), .bool false, .int .i64 0] 25 rfl rfl gr ?_; clear BX; intro gb601 w15 GE601 BX) | ((with_reducible refine gate_callee (f := 23) rfl ?_); refine goesL_ (some 5) rfl rfl Tryz.func23 kr rfl #[.agg #[.int .i64 a0_0, .int .i64 a0_1, .int .i64 a0_2, .string a0_3, .bool a0_4, .int .i64 a0_5]] rfl ga ?_; (with_reducible refine (whittleref2_Of.calls k a0_0 a0_1 a0_2 a0_3 a0_4 a0_5 t602 t603 t604 t605 t606 t607 _ A2.out).mono ?_); rintro e w18 ⟨rfl, hb⟩; refine ⟨_, rfl, ?_⟩; replace BX := bx_call hb; clear hb))
   refine bodyPost_ret (results_tc rfl _ _ gb601 25 #[.int .i64 0, .int .i64 0, .int .i64 0, .string (⟨#[]⟩ : ByteArray), .bool false, .int .i64 0] (0, 0) _ rfl bx_get Tryz.underlying25 rfl kr) rfl ?_
   exact ⟨er2, bx_bl⟩
  ·rw [if_neg c13] at H
   have c13b0 : (t602 == 2) = false := beq_eq_false_iff_ne.mpr c13
   have c13b1 : (t602 != 2) = true := bne_iff_ne.mpr c13
   by_cases c21 : t602 = 3
   ·rw [if_pos c21] at H
    have c21b0 : (t602 == 3) = true := beq_iff_eq.mpr c21
    have c21b1 : (t602 != 3) = false := bne_eq_false_iff_eq.mpr c21
    clear c21
    replace H := Option.bind_eq_some_iff.mp H
    obtain ⟨t609, A220, H⟩ := H
    replace H : (some (t609, 0, 0, 0, (⟨#[]⟩ : ByteArray), false, 0)) = some (r1, r2, r3, r4, r5, r6, r7) := H
    have A22 := Aside0.mk A220
    clear A220
    simp only [Option.some.injEq, Prod.mk.injEq] at H
    obtain ⟨rfl, rfl, rfl, rfl, rfl, rfl, rfl⟩ := H
    go_enter Tryz.func25, Tryz.ntmps25
    go_wp2_with (first | ((with_reducible refine gate_dst (N := 1) rfl ?_); refine bxe 1 #[.int .i64 a0_0, .int .i64 a0_1, .int .i64 a0_2, .string a0_3, .bool a0_4, .int .i64 a0_5] 25 rfl rfl gr ?_; clear BX; intro gb600 w23 GE600 BX) | ((with_reducible refine gate_dst (N := 3) rfl ?_); refine bxe 3 #[.int .i64 0, .int .i64 0, .int .i64 0, .string (⟨#[]⟩ : ByteArray), .bool false, .int .i64 0] 25 rfl rfl gr ?_; clear BX; intro gb601 w24 GE601 BX) | ((with_reducible refine gate_callee (f := 23) rfl ?_); refine goesL_ (some 5) rfl rfl Tryz.func23 kr rfl #[.agg #[.int .i64 a0_0, .int .i64 a0_1, .int .i64 a0_2, .string a0_3, .bool a0_4, .int .i64 a0_5]] rfl ga ?_; (with_reducible refine (whittleref2_Of.calls k a0_0 a0_1 a0_2 a0_3 a0_4 a0_5 t602 t603 t604 t605 t606 t607 _ A2.out).mono ?_); rintro e w27 ⟨rfl, hb⟩; refine ⟨_, rfl, ?_⟩; replace BX := bx_call hb; clear hb) | ((with_reducible refine gate_callee (f := 51) rfl ?_); refine goesL_ (some 23) rfl rfl Tryz.func51 kr rfl #[.bool t606] rfl ga ?_; (with_reducible refine (whittleref2_truth.calls t606 t609 _ A22.out).mono ?_); rintro e w' ⟨rfl, ⟨nd, rfl⟩⟩; refine ⟨_, rfl, ?_⟩))
    refine bodyPost_ret (results_tc rfl _ _ gb601 25 #[.int .i64 0, .int .i64 0, .int .i64 0, .string (⟨#[]⟩ : ByteArray), .bool false, .int .i64 0] (0, 0) _ rfl bx_get Tryz.underlying25 rfl kr) rfl ?_
    exact ⟨er2, bx_bl⟩
   ·rw [if_neg c21] at H
    have c21b0 : (t602 == 3) = false := beq_eq_false_iff_ne.mpr c21
    have c21b1 : (t602 != 3) = true := bne_iff_ne.mpr c21
    by_cases c30 : t602 = 4
    ·rw [if_pos c30] at H
     have c30b0 : (t602 == 4) = true := beq_iff_eq.mpr c30
     have c30b1 : (t602 != 4) = false := bne_eq_false_iff_eq.mpr c30
     clear c30
     simp only [Option.some.injEq, Prod.mk.injEq] at H
     obtain ⟨rfl, rfl, rfl, rfl, rfl, rfl, rfl⟩ := H
     go_enter Tryz.func25, Tryz.ntmps25
     try go_wp2_with (first | ((with_reducible refine gate_dst (N := 1) rfl ?_); refine bxe 1 #[.int .i64 a0_0, .int .i64 a0_1, .int .i64 a0_2, .string a0_3, .bool a0_4, .int .i64 a0_5] 25 rfl rfl gr ?_; clear BX; intro gb600 w31 GE600 BX) | ((with_reducible refine gate_dst (N := 3) rfl ?_); refine bxe 3 #[.int .i64 0, .int .i64 0, .int .i64 0, .string (⟨#[]⟩ : ByteArray), .bool false, .int .i64 0] 25 rfl rfl gr ?_; clear BX; intro gb601 w32 GE601 BX) | ((with_reducible refine gate_callee (f := 23) rfl ?_); refine goesL_ (some 5) rfl rfl Tryz.func23 kr rfl #[.agg #[.int .i64 a0_0, .int .i64 a0_1, .int .i64 a0_2, .string a0_3, .bool a0_4, .int .i64 a0_5]] rfl ga ?_; (with_reducible refine (whittleref2_Of.calls k a0_0 a0_1 a0_2 a0_3 a0_4 a0_5 t602 t603 t604 t605 t606 t607 _ A2.out).mono ?_); rintro e w35 ⟨rfl, hb⟩; refine ⟨_, rfl, ?_⟩; replace BX := bx_call hb; clear hb))
     replace BX : Bx w ((((((w35.setCell ⟨gb600, 0, none⟩ (.int .i64 t602)).setCell ⟨gb600, 1, none⟩ (.int .i64 t603)).setCell ⟨gb600, 2, none⟩ (.int .i64 t604)).setCell ⟨gb600, 3, none⟩ (.string t605)).setCell ⟨gb600, 4, none⟩ (.bool t606)).setCell ⟨gb600, 5, none⟩ (.int .i64 t607)) _ := bxi
     generalize ((((((w35.setCell ⟨gb600, 0, none⟩ (.int .i64 t602)).setCell ⟨gb600, 1, none⟩ (.int .i64 t603)).setCell ⟨gb600, 2, none⟩ (.int .i64 t604)).setCell ⟨gb600, 3, none⟩ (.string t605)).setCell ⟨gb600, 4, none⟩ (.bool t606)).setCell ⟨gb600, 5, none⟩ (.int .i64 t607)) = w37 at BX ⊢
     refine startm [false, true] (n := 3) (ds := []) #[false, false, false] kr rfl rfl (fun BX1 => ?_)
     clear BX
     have BX := BX1
     clear BX1
     generalize w37.drew = w38 at BX ⊢
     refine pure_ (i := 1) (N := some 2) (v := ?_) (a' := ?_) #[false, true, false] rfl rfl kr (fun _ _ _ h => h) (Or.inl ⟨by rfl, ?_⟩) ?_ ?_
     rotate_left
     ·intro w'
      go_simp
      with_reducible rfl
     rotate_left
     ·simp only [Act.put, List.setIfInBounds_toArray, List.set_cons_zero, List.set_cons_succ, i64_w, i32_w]
      rfl
     refine take_ (i := 0) (N := some 27) (v := ?_) (a' := ?_) #[true, true, false] rfl rfl kr (fun _ _ _ h => h) (Or.inl ⟨by rfl, ?_⟩) bxs ?_ ?_
     rotate_left
     ·intro w' hS
      go_simp
      with_reducible rfl
     rotate_left
     ·simp only [Act.put, List.setIfInBounds_toArray, List.set_cons_zero, List.set_cons_succ, i64_w, i32_w]
      rfl
     refine one_ (i := 2) (N := none) #[true, true, true] rfl rfl kr (by decide) (fun K hK => ?_)
     refine skip_ (w1 := ?_) (by rfl) rfl ?_ ?_
     rotate_left
     ·go_simp
      rfl
     refine hK.out _ _ bxs (fun hHeld => ?_)
     clear hK K hHeld
     refine done_ kr ?_
     try go_wp2
     refine bodyPost_ret (results_tc rfl _ _ gb601 25 #[.int .i64 t602, .int .i64 t603, .int .i64 t604, .string t605, .bool t606, .int .i64 t607] (0, 0) _ rfl bx_get Tryz.underlying25 rfl kr) rfl ?_
     exact ⟨er2, bx_bl⟩
    ·rw [if_neg c30] at H
     have c30b0 : (t602 == 4) = false := beq_eq_false_iff_ne.mpr c30
     have c30b1 : (t602 != 4) = true := bne_iff_ne.mpr c30
     simp only [Option.some.injEq, Prod.mk.injEq] at H
     obtain ⟨rfl, rfl, rfl, rfl, rfl, rfl, rfl⟩ := H
     go_enter Tryz.func25, Tryz.ntmps25
     go_wp2_with (first | ((with_reducible refine gate_dst (N := 1) rfl ?_); refine bxe 1 #[.int .i64 a0_0, .int .i64 a0_1, .int .i64 a0_2, .string a0_3, .bool a0_4, .int .i64 a0_5] 25 rfl rfl gr ?_; clear BX; intro gb600 w45 GE600 BX) | ((with_reducible refine gate_dst (N := 3) rfl ?_); refine bxe 3 #[.int .i64 0, .int .i64 0, .int .i64 0, .string (⟨#[]⟩ : ByteArray), .bool false, .int .i64 0] 25 rfl rfl gr ?_; clear BX; intro gb601 w46 GE601 BX) | ((with_reducible refine gate_callee (f := 23) rfl ?_); refine goesL_ (some 5) rfl rfl Tryz.func23 kr rfl #[.agg #[.int .i64 a0_0, .int .i64 a0_1, .int .i64 a0_2, .string a0_3, .bool a0_4, .int .i64 a0_5]] rfl ga ?_; (with_reducible refine (whittleref2_Of.calls k a0_0 a0_1 a0_2 a0_3 a0_4 a0_5 t602 t603 t604 t605 t606 t607 _ A2.out).mono ?_); rintro e w49 ⟨rfl, hb⟩; refine ⟨_, rfl, ?_⟩; replace BX := bx_call hb; clear hb))
     refine bodyPost_ret (results_tc rfl _ _ gb601 25 #[.int .i64 0, .int .i64 0, .int .i64 0, .string (⟨#[]⟩ : ByteArray), .bool false, .int .i64 0] (0, 0) _ rfl bx_get Tryz.underlying25 rfl kr) rfl ?_
     exact ⟨er2, bx_bl⟩
end
section
/-! ### whittleref2_Text: function 26 -/
def whittleref2_Text.f (k : Nat) (a0 : ByteArray) : Option (Int × Int × Int × ByteArray × Bool × Int) := (whittleref2_plain.f k a0).bind fun t611 => (if t611 = true then (if (a0.size : Int) > 256 then ((whittleref2_Fault.f 7).bind fun bt612 => (some (bt612.1, bt612.2.1, bt612.2.2.1, bt612.2.2.2.1, bt612.2.2.2.2.1, bt612.2.2.2.2.2))) else (some (2, 0, 0, a0, false, 0))) else ((whittleref2_Fault.f 2).bind fun bt618 => (some (bt618.1, bt618.2.1, bt618.2.2.1, bt618.2.2.2.1, bt618.2.2.2.2.1, bt618.2.2.2.2.2))))
theorem whittleref2_Text.mono : ∀ a0 k, LeO (whittleref2_Text.f k a0) (whittleref2_Text.f (k + 1) a0) := by
 intro a0 k
 unfold whittleref2_Text.f
 repeat' first
   | (with_reducible exact whittleref2_plain.mono _ _)
   | (with_reducible exact LeO.refl _)
   | (with_reducible exact LeO.none _)
   | (with_reducible refine LeO.ite ?_ ?_)
   | (with_reducible refine LeO.bind ?_ (fun _ => ?_))
   | exact whittleref2_plain.mono _ _
   | exact LeO.none _
   | refine LeO.ite ?_ ?_
   | refine LeO.bind ?_ (fun _ => ?_)
set_option maxHeartbeats 8000000 in
set_option maxRecDepth 100000 in
theorem whittleref2_Text.calls (k : Nat) (a0 : ByteArray) (r1 : Int) (r2 : Int) (r3 : Int) (r4 : ByteArray) (r5 : Bool) (r6 : Int) (w : World) (h : whittleref2_Text.f k a0 = some (r1, r2, r3, r4, r5, r6)) :
  Calls Tryz.prog 26 #[.string a0] w fun e w' => e = .returned (.agg #[.int .i64 r1, .int .i64 r2, .int .i64 r3, .string r4, .bool r5, .int .i64 r6]) ∧ Below w.heap.size w w' := by
 have hu25 := Tryz.underlying25
 have BX := Bx.start w
 have H : ((whittleref2_plain.f k a0).bind fun t611 => (if t611 = true then (if (a0.size : Int) > 256 then ((whittleref2_Fault.f 7).bind fun bt612 => (some (bt612.1, bt612.2.1, bt612.2.2.1, bt612.2.2.2.1, bt612.2.2.2.2.1, bt612.2.2.2.2.2))) else (some (2, 0, 0, a0, false, 0))) else ((whittleref2_Fault.f 2).bind fun bt618 => (some (bt618.1, bt618.2.1, bt618.2.2.1, bt618.2.2.2.1, bt618.2.2.2.2.1, bt618.2.2.2.2.2))))) = some (r1, r2, r3, r4, r5, r6) := h
 clear h
 replace H := Option.bind_eq_some_iff.mp H
 obtain ⟨t611, A20, H⟩ := H
 replace H : (if t611 = true then (if (a0.size : Int) > 256 then ((whittleref2_Fault.f 7).bind fun bt612 => (some (bt612.1, bt612.2.1, bt612.2.2.1, bt612.2.2.2.1, bt612.2.2.2.2.1, bt612.2.2.2.2.2))) else (some (2, 0, 0, a0, false, 0))) else ((whittleref2_Fault.f 2).bind fun bt618 => (some (bt618.1, bt618.2.1, bt618.2.2.1, bt618.2.2.2.1, bt618.2.2.2.2.1, bt618.2.2.2.2.2)))) = some (r1, r2, r3, r4, r5, r6) := H
 have A2 := Aside0.mk A20
 clear A20
 by_cases c3 : t611 = true
 ·subst c3
  have H1 : (if (a0.size : Int) > 256 then ((whittleref2_Fault.f 7).bind fun bt612 => (some (bt612.1, bt612.2.1, bt612.2.2.1, bt612.2.2.2.1, bt612.2.2.2.2.1, bt612.2.2.2.2.2))) else (some (2, 0, 0, a0, false, 0))) = some (r1, r2, r3, r4, r5, r6) := by rw [if_pos rfl] at H; exact H
  clear H
  have H := H1
  clear H1
  by_cases c4 : (a0.size : Int) > 256
  ·rw [if_pos c4] at H
   have c4b0 : decide (256 < (a0.size : Int)) = true := decide_eq_true c4
   have c4b1 : decide (256 < a0.size) = true := decide_eq_true (by omega)
   clear c4
   replace H := Option.bind_eq_some_iff.mp H
   obtain ⟨⟨t612, t613, t614, t615, t616, t617⟩, A50, H⟩ := H
   replace H : (some (t612, t613, t614, t615, t616, t617)) = some (r1, r2, r3, r4, r5, r6) := H
   have A5 := Aside0.mk A50
   clear A50
   simp only [Option.some.injEq, Prod.mk.injEq] at H
   obtain ⟨rfl, rfl, rfl, rfl, rfl, rfl⟩ := H
   go_enter Tryz.func26, Tryz.ntmps26
   go_wp2_with (first | ((with_reducible refine gate_dst (N := 2) rfl ?_); refine bxe 2 #[.int .i64 0, .int .i64 0, .int .i64 0, .string (⟨#[]⟩ : ByteArray), .bool false, .int .i64 0] 25 rfl rfl gr ?_; clear BX; intro gb610 w6 GE610 BX) | ((with_reducible refine gate_callee (f := 52) rfl ?_); refine goesL_ (some 5) rfl rfl Tryz.func52 kr rfl #[.string a0] rfl ga ?_; (with_reducible refine (whittleref2_plain.calls k a0 true _ A2.out).mono ?_); rintro e w' ⟨rfl, ⟨nd, rfl⟩⟩; refine ⟨_, rfl, ?_⟩) | ((with_reducible refine gate_callee (f := 24) rfl ?_); refine goesL_ (some 12) rfl rfl Tryz.func24 kr rfl #[.int .i64 7] rfl ga ?_; (with_reducible refine (whittleref2_Fault.calls 7 t612 t613 t614 t615 t616 t617 _ A5.out).mono ?_); rintro e w8 ⟨rfl, hb⟩; refine ⟨_, rfl, ?_⟩; replace BX := bx_call hb; clear hb))
   refine bodyPost_ret (results_cell_row rfl _ _ gb610 25 #[.int .i64 t612, .int .i64 t613, .int .i64 t614, .string t615, .bool t616, .int .i64 t617] (0, 0) _ rfl bx_get Tryz.underlying25 rfl kr) rfl ?_
   exact ⟨er2, bx_bl⟩
  ·rw [if_neg c4] at H
   have c4b0 : decide (256 < (a0.size : Int)) = false := decide_eq_false c4
   have c4b1 : decide (256 < a0.size) = false := decide_eq_false (by omega)
   clear c4
   simp only [Option.some.injEq, Prod.mk.injEq] at H
   obtain ⟨rfl, rfl, rfl, rfl, rfl, rfl⟩ := H
   go_enter Tryz.func26, Tryz.ntmps26
   go_wp2_with (first | ((with_reducible refine gate_dst (N := 2) rfl ?_); refine bxe 2 #[.int .i64 0, .int .i64 0, .int .i64 0, .string (⟨#[]⟩ : ByteArray), .bool false, .int .i64 0] 25 rfl rfl gr ?_; clear BX; intro gb610 w10 GE610 BX) | ((with_reducible refine gate_callee (f := 52) rfl ?_); refine goesL_ (some 5) rfl rfl Tryz.func52 kr rfl #[.string a0] rfl ga ?_; (with_reducible refine (whittleref2_plain.calls k a0 true _ A2.out).mono ?_); rintro e w' ⟨rfl, ⟨nd, rfl⟩⟩; refine ⟨_, rfl, ?_⟩))
   refine bodyPost_ret (results_cell_row rfl _ _ gb610 25 #[.int .i64 2, .int .i64 0, .int .i64 0, .string a0, .bool false, .int .i64 0] (0, 0) _ rfl bx_get Tryz.underlying25 rfl kr) rfl ?_
   exact ⟨er2, bx_bl⟩
 ·replace c3 := Bool.eq_false_iff.mpr c3
  subst c3
  have H1 : ((whittleref2_Fault.f 2).bind fun bt618 => (some (bt618.1, bt618.2.1, bt618.2.2.1, bt618.2.2.2.1, bt618.2.2.2.2.1, bt618.2.2.2.2.2))) = some (r1, r2, r3, r4, r5, r6) := by rw [if_neg (show ¬ (false = true) by decide)] at H; exact H
  clear H
  have H := H1
  clear H1
  replace H := Option.bind_eq_some_iff.mp H
  obtain ⟨⟨t618, t619, t620, t621, t622, t623⟩, A130, H⟩ := H
  replace H : (some (t618, t619, t620, t621, t622, t623)) = some (r1, r2, r3, r4, r5, r6) := H
  have A13 := Aside0.mk A130
  clear A130
  simp only [Option.some.injEq, Prod.mk.injEq] at H
  obtain ⟨rfl, rfl, rfl, rfl, rfl, rfl⟩ := H
  go_enter Tryz.func26, Tryz.ntmps26
  go_wp2_with (first | ((with_reducible refine gate_dst (N := 2) rfl ?_); refine bxe 2 #[.int .i64 0, .int .i64 0, .int .i64 0, .string (⟨#[]⟩ : ByteArray), .bool false, .int .i64 0] 25 rfl rfl gr ?_; clear BX; intro gb610 w14 GE610 BX) | ((with_reducible refine gate_callee (f := 52) rfl ?_); refine goesL_ (some 5) rfl rfl Tryz.func52 kr rfl #[.string a0] rfl ga ?_; (with_reducible refine (whittleref2_plain.calls k a0 false _ A2.out).mono ?_); rintro e w' ⟨rfl, ⟨nd, rfl⟩⟩; refine ⟨_, rfl, ?_⟩) | ((with_reducible refine gate_callee (f := 24) rfl ?_); refine goesL_ (some 8) rfl rfl Tryz.func24 kr rfl #[.int .i64 2] rfl ga ?_; (with_reducible refine (whittleref2_Fault.calls 2 t618 t619 t620 t621 t622 t623 _ A13.out).mono ?_); rintro e w16 ⟨rfl, hb⟩; refine ⟨_, rfl, ?_⟩; replace BX := bx_call hb; clear hb))
  refine bodyPost_ret (results_cell_row rfl _ _ gb610 25 #[.int .i64 t618, .int .i64 t619, .int .i64 t620, .string t621, .bool t622, .int .i64 t623] (0, 0) _ rfl bx_get Tryz.underlying25 rfl kr) rfl ?_
  exact ⟨er2, bx_bl⟩
end
section
/-! ### whittleref2_Truth: function 28 -/
def whittleref2_Truth.f (a0 : Bool) : Option (Int × Int × Int × ByteArray × Bool × Int) := some (3, 0, 0, (⟨#[]⟩ : ByteArray), a0, 0)
set_option maxHeartbeats 8000000 in
set_option maxRecDepth 100000 in
theorem whittleref2_Truth.calls (a0 : Bool) (r1 : Int) (r2 : Int) (r3 : Int) (r4 : ByteArray) (r5 : Bool) (r6 : Int) (w : World) (h : whittleref2_Truth.f a0 = some (r1, r2, r3, r4, r5, r6)) :
  Calls Tryz.prog 28 #[.bool a0] w fun e w' => e = .returned (.agg #[.int .i64 r1, .int .i64 r2, .int .i64 r3, .string r4, .bool r5, .int .i64 r6]) ∧ Below w.heap.size w w' := by
 have hu25 := Tryz.underlying25
 have BX := Bx.start w
 have H : (some (3, 0, 0, (⟨#[]⟩ : ByteArray), a0, 0)) = some (r1, r2, r3, r4, r5, r6) := h
 clear h
 simp only [Option.some.injEq, Prod.mk.injEq] at H
 obtain ⟨rfl, rfl, rfl, rfl, rfl, rfl⟩ := H
 go_enter Tryz.func28, Tryz.ntmps28
 go_wp2_with (first | ((with_reducible refine gate_dst (N := 2) rfl ?_); refine bxe 2 #[.int .i64 0, .int .i64 0, .int .i64 0, .string (⟨#[]⟩ : ByteArray), .bool false, .int .i64 0] 25 rfl rfl gr ?_; clear BX; intro gb665 w2 GE665 BX))
 refine bodyPost_ret (results_cell_row rfl _ _ gb665 25 #[.int .i64 3, .int .i64 0, .int .i64 0, .string (⟨#[]⟩ : ByteArray), .bool a0, .int .i64 0] (0, 0) _ rfl bx_get Tryz.underlying25 rfl kr) rfl ?_
 exact ⟨er2, bx_bl⟩
end
section
/-! ### whittleref2_AsNumber: function 29 -/
def whittleref2_AsNumber.f (k : Nat) (a0_0 : Int) (a0_1 : Int) (a0_2 : Int) (a0_3 : ByteArray) (a0_4 : Bool) (a0_5 : Int) : Option (Int × Int × Int × Int × Int × ByteArray × Bool × Int) := (whittleref2_Of.f k a0_0 a0_1 a0_2 a0_3 a0_4 a0_5).bind fun bt697 => (if bt697.1 = 1 then (some (bt697.2.1, bt697.2.2.1, 0, 0, 0, (⟨#[]⟩ : ByteArray), false, 0)) else (if bt697.1 = 2 then ((whittleref1_Read.f k bt697.2.2.2.1).bind fun bt703 => (if bt703.2.2 = true then (some (bt703.1, bt703.2.1, 0, 0, 0, (⟨#[]⟩ : ByteArray), false, 0)) else ((whittleref2_Fault.f 2).bind fun bt707 => (some (0, 0, bt707.1, bt707.2.1, bt707.2.2.1, bt707.2.2.2.1, bt707.2.2.2.2.1, bt707.2.2.2.2.2))))) else (if bt697.1 = 3 then (if bt697.2.2.2.2.1 = true then (some (1, 1, 0, 0, 0, (⟨#[]⟩ : ByteArray), false, 0)) else (some (0, 1, 0, 0, 0, (⟨#[]⟩ : ByteArray), false, 0))) else (if bt697.1 = 4 then (some (0, 0, bt697.1, bt697.2.1, bt697.2.2.1, bt697.2.2.2.1, bt697.2.2.2.2.1, bt697.2.2.2.2.2)) else (some (0, 1, 0, 0, 0, (⟨#[]⟩ : ByteArray), false, 0))))))
theorem whittleref2_AsNumber.mono : ∀ a0 a1 a2 a3 a4 a5 k, LeO (whittleref2_AsNumber.f k a0 a1 a2 a3 a4 a5) (whittleref2_AsNumber.f (k + 1) a0 a1 a2 a3 a4 a5) := by
 intro a0 a1 a2 a3 a4 a5 k
 unfold whittleref2_AsNumber.f
 repeat' first
   | (with_reducible exact whittleref1_Read.mono _ _)
   | (with_reducible exact whittleref2_Of.mono _ _ _ _ _ _ _)
   | (with_reducible exact LeO.refl _)
   | (with_reducible exact LeO.none _)
   | (with_reducible refine LeO.ite ?_ ?_)
   | (with_reducible refine LeO.bind ?_ (fun _ => ?_))
   | exact whittleref1_Read.mono _ _
   | exact whittleref2_Of.mono _ _ _ _ _ _ _
   | exact LeO.none _
   | refine LeO.ite ?_ ?_
   | refine LeO.bind ?_ (fun _ => ?_)
set_option maxHeartbeats 8000000 in
set_option maxRecDepth 100000 in
theorem whittleref2_AsNumber.calls (k : Nat) (a0_0 : Int) (a0_1 : Int) (a0_2 : Int) (a0_3 : ByteArray) (a0_4 : Bool) (a0_5 : Int) (r1 : Int) (r2 : Int) (r3 : Int) (r4 : Int) (r5 : Int) (r6 : ByteArray) (r7 : Bool) (r8 : Int) (w : World) (h : whittleref2_AsNumber.f k a0_0 a0_1 a0_2 a0_3 a0_4 a0_5 = some (r1, r2, r3, r4, r5, r6, r7, r8)) :
  Calls Tryz.prog 29 #[.agg #[.int .i64 a0_0, .int .i64 a0_1, .int .i64 a0_2, .string a0_3, .bool a0_4, .int .i64 a0_5]] w fun e w' => e = .returned (.tuple #[.agg #[.int .i64 r1, .int .i64 r2], .agg #[.int .i64 r3, .int .i64 r4, .int .i64 r5, .string r6, .bool r7, .int .i64 r8]]) ∧ Below w.heap.size w w' := by
 have hu25 := Tryz.underlying25
 have hu23 := Tryz.underlying23
 have BX := Bx.start w
 have H : ((whittleref2_Of.f k a0_0 a0_1 a0_2 a0_3 a0_4 a0_5).bind fun bt697 => (if bt697.1 = 1 then (some (bt697.2.1, bt697.2.2.1, 0, 0, 0, (⟨#[]⟩ : ByteArray), false, 0)) else (if bt697.1 = 2 then ((whittleref1_Read.f k bt697.2.2.2.1).bind fun bt703 => (if bt703.2.2 = true then (some (bt703.1, bt703.2.1, 0, 0, 0, (⟨#[]⟩ : ByteArray), false, 0)) else ((whittleref2_Fault.f 2).bind fun bt707 => (some (0, 0, bt707.1, bt707.2.1, bt707.2.2.1, bt707.2.2.2.1, bt707.2.2.2.2.1, bt707.2.2.2.2.2))))) else (if bt697.1 = 3 then (if bt697.2.2.2.2.1 = true then (some (1, 1, 0, 0, 0, (⟨#[]⟩ : ByteArray), false, 0)) else (some (0, 1, 0, 0, 0, (⟨#[]⟩ : ByteArray), false, 0))) else (if bt697.1 = 4 then (some (0, 0, bt697.1, bt697.2.1, bt697.2.2.1, bt697.2.2.2.1, bt697.2.2.2.2.1, bt697.2.2.2.2.2)) else (some (0, 1, 0, 0, 0, (⟨#[]⟩ : ByteArray), false, 0))))))) = some (r1, r2, r3, r4, r5, r6, r7, r8) := h
 clear h
 replace H := Option.bind_eq_some_iff.mp H
 obtain ⟨⟨t697, t698, t699, t700, t701, t702⟩, A20, H⟩ := H
 replace H : (if t697 = 1 then (some (t698, t699, 0, 0, 0, (⟨#[]⟩ : ByteArray), false, 0)) else (if t697 = 2 then ((whittleref1_Read.f k t700).bind fun bt703 => (if bt703.2.2 = true then (some (bt703.1, bt703.2.1, 0, 0, 0, (⟨#[]⟩ : ByteArray), false, 0)) else ((whittleref2_Fault.f 2).bind fun bt707 => (some (0, 0, bt707.1, bt707.2.1, bt707.2.2.1, bt707.2.2.2.1, bt707.2.2.2.2.1, bt707.2.2.2.2.2))))) else (if t697 = 3 then (if t701 = true then (some (1, 1, 0, 0, 0, (⟨#[]⟩ : ByteArray), false, 0)) else (some (0, 1, 0, 0, 0, (⟨#[]⟩ : ByteArray), false, 0))) else (if t697 = 4 then (some (0, 0, t697, t698, t699, t700, t701, t702)) else (some (0, 1, 0, 0, 0, (⟨#[]⟩ : ByteArray), false, 0)))))) = some (r1, r2, r3, r4, r5, r6, r7, r8) := H
 have A2 := Aside0.mk A20
 clear A20
 by_cases c3 : t697 = 1
 ·rw [if_pos c3] at H
  have c3b0 : (t697 == 1) = true := beq_iff_eq.mpr c3
  have c3b1 : (t697 != 1) = false := bne_eq_false_iff_eq.mpr c3
  clear c3
  simp only [Option.some.injEq, Prod.mk.injEq] at H
  obtain ⟨rfl, rfl, rfl, rfl, rfl, rfl, rfl, rfl⟩ := H
  go_enter Tryz.func29, Tryz.ntmps29
  go_wp2_with (first | ((with_reducible refine gate_dst (N := 1) rfl ?_); refine bxe 1 #[.int .i64 a0_0, .int .i64 a0_1, .int .i64 a0_2, .string a0_3, .bool a0_4, .int .i64 a0_5] 25 rfl rfl gr ?_; clear BX; intro gb694 w4 GE694 BX) | ((with_reducible refine gate_dst (N := 2) rfl ?_); refine bxe 2 #[.int .i64 0, .int .i64 0] 23 rfl rfl gr ?_; clear BX; intro gb695 w5 GE695 BX) | ((with_reducible refine gate_dst (N := 3) rfl ?_); refine bxe 3 #[.int .i64 0, .int .i64 0, .int .i64 0, .string (⟨#[]⟩ : ByteArray), .bool false, .int .i64 0] 25 rfl rfl gr ?_; clear BX; intro gb696 w6 GE696 BX) | ((with_reducible refine gate_callee (f := 23) rfl ?_); refine goesL_ (some 7) rfl rfl Tryz.func23 kr rfl #[.agg #[.int .i64 a0_0, .int .i64 a0_1, .int .i64 a0_2, .string a0_3, .bool a0_4, .int .i64 a0_5]] rfl ga ?_; (with_reducible refine (whittleref2_Of.calls k a0_0 a0_1 a0_2 a0_3 a0_4 a0_5 t697 t698 t699 t700 t701 t702 _ A2.out).mono ?_); rintro e w10 ⟨rfl, hb⟩; refine ⟨_, rfl, ?_⟩; replace BX := bx_call hb; clear hb))
  refine bodyPost_ret (results_cc rfl _ _ gb695 gb696 23 25 #[.int .i64 t698, .int .i64 t699] #[.int .i64 0, .int .i64 0, .int .i64 0, .string (⟨#[]⟩ : ByteArray), .bool false, .int .i64 0] (0, 0) (0, 0) _ _ rfl bx_get Tryz.underlying23 rfl kr rfl bx_get Tryz.underlying25 rfl kr) rfl ?_
  exact ⟨er2, bx_bl⟩
 ·rw [if_neg c3] at H
  have c3b0 : (t697 == 1) = false := beq_eq_false_iff_ne.mpr c3
  have c3b1 : (t697 != 1) = true := bne_iff_ne.mpr c3
  by_cases c15 : t697 = 2
  ·rw [if_pos c15] at H
   have c15b0 : (t697 == 2) = true := beq_iff_eq.mpr c15
   have c15b1 : (t697 != 2) = false := bne_eq_false_iff_eq.mpr c15
   clear c15
   replace H := Option.bind_eq_some_iff.mp H
   obtain ⟨⟨t703, t704, t705⟩, A160, H⟩ := H
   replace H : (if t705 = true then (some (t703, t704, 0, 0, 0, (⟨#[]⟩ : ByteArray), false, 0)) else ((whittleref2_Fault.f 2).bind fun bt707 => (some (0, 0, bt707.1, bt707.2.1, bt707.2.2.1, bt707.2.2.2.1, bt707.2.2.2.2.1, bt707.2.2.2.2.2)))) = some (r1, r2, r3, r4, r5, r6, r7, r8) := H
   have A16 := Aside0.mk A160
   clear A160
   by_cases c17 : t705 = true
   ·subst c17
    have H1 : (some (t703, t704, 0, 0, 0, (⟨#[]⟩ : ByteArray), false, 0)) = some (r1, r2, r3, r4, r5, r6, r7, r8) := by rw [if_pos rfl] at H; exact H
    clear H
    have H := H1
    clear H1
    simp only [Option.some.injEq, Prod.mk.injEq] at H
    obtain ⟨rfl, rfl, rfl, rfl, rfl, rfl, rfl, rfl⟩ := H
    go_enter Tryz.func29, Tryz.ntmps29
    go_wp2_with (first | ((with_reducible refine gate_dst (N := 1) rfl ?_); refine bxe 1 #[.int .i64 a0_0, .int .i64 a0_1, .int .i64 a0_2, .string a0_3, .bool a0_4, .int .i64 a0_5] 25 rfl rfl gr ?_; clear BX; intro gb694 w18 GE694 BX) | ((with_reducible refine gate_dst (N := 2) rfl ?_); refine bxe 2 #[.int .i64 0, .int .i64 0] 23 rfl rfl gr ?_; clear BX; intro gb695 w19 GE695 BX) | ((with_reducible refine gate_dst (N := 3) rfl ?_); refine bxe 3 #[.int .i64 0, .int .i64 0, .int .i64 0, .string (⟨#[]⟩ : ByteArray), .bool false, .int .i64 0] 25 rfl rfl gr ?_; clear BX; intro gb696 w20 GE696 BX) | ((with_reducible refine gate_callee (f := 23) rfl ?_); refine goesL_ (some 7) rfl rfl Tryz.func23 kr rfl #[.agg #[.int .i64 a0_0, .int .i64 a0_1, .int .i64 a0_2, .string a0_3, .bool a0_4, .int .i64 a0_5]] rfl ga ?_; (with_reducible refine (whittleref2_Of.calls k a0_0 a0_1 a0_2 a0_3 a0_4 a0_5 t697 t698 t699 t700 t701 t702 _ A2.out).mono ?_); rintro e w24 ⟨rfl, hb⟩; refine ⟨_, rfl, ?_⟩; replace BX := bx_call hb; clear hb) | ((with_reducible refine gate_callee (f := 57) rfl ?_); refine goesL_ (some 20) rfl rfl Tryz.func57 kr rfl #[.string t700] rfl ga ?_; (with_reducible refine (whittleref1_Read.calls k t700 t703 t704 true _ A16.out).mono ?_); rintro e w26 ⟨rfl, hb⟩; refine ⟨_, rfl, ?_⟩; replace BX := bx_call hb; clear hb) | ((with_reducible refine gate_dst (N := 4) rfl ?_); refine bxe 4 #[.int .i64 0, .int .i64 0] 23 rfl rfl gr ?_; clear BX; intro gb706 w27 GE706 BX))
    refine bodyPost_ret (results_cc rfl _ _ gb695 gb696 23 25 #[.int .i64 t703, .int .i64 t704] #[.int .i64 0, .int .i64 0, .int .i64 0, .string (⟨#[]⟩ : ByteArray), .bool false, .int .i64 0] (0, 0) (0, 0) _ _ rfl bx_get Tryz.underlying23 rfl kr rfl bx_get Tryz.underlying25 rfl kr) rfl ?_
    exact ⟨er2, bx_bl⟩
   ·replace c17 := Bool.eq_false_iff.mpr c17
    subst c17
    have H1 : ((whittleref2_Fault.f 2).bind fun bt707 => (some (0, 0, bt707.1, bt707.2.1, bt707.2.2.1, bt707.2.2.2.1, bt707.2.2.2.2.1, bt707.2.2.2.2.2))) = some (r1, r2, r3, r4, r5, r6, r7, r8) := by rw [if_neg (show ¬ (false = true) by decide)] at H; exact H
    clear H
    have H := H1
    clear H1
    replace H := Option.bind_eq_some_iff.mp H
    obtain ⟨⟨t707, t708, t709, t710, t711, t712⟩, A350, H⟩ := H
    replace H : (some (0, 0, t707, t708, t709, t710, t711, t712)) = some (r1, r2, r3, r4, r5, r6, r7, r8) := H
    have A35 := Aside0.mk A350
    clear A350
    simp only [Option.some.injEq, Prod.mk.injEq] at H
    obtain ⟨rfl, rfl, rfl, rfl, rfl, rfl, rfl, rfl⟩ := H
    go_enter Tryz.func29, Tryz.ntmps29
    go_wp2_with (first | ((with_reducible refine gate_dst (N := 1) rfl ?_); refine bxe 1 #[.int .i64 a0_0, .int .i64 a0_1, .int .i64 a0_2, .string a0_3, .bool a0_4, .int .i64 a0_5] 25 rfl rfl gr ?_; clear BX; intro gb694 w36 GE694 BX) | ((with_reducible refine gate_dst (N := 2) rfl ?_); refine bxe 2 #[.int .i64 0, .int .i64 0] 23 rfl rfl gr ?_; clear BX; intro gb695 w37 GE695 BX) | ((with_reducible refine gate_dst (N := 3) rfl ?_); refine bxe 3 #[.int .i64 0, .int .i64 0, .int .i64 0, .string (⟨#[]⟩ : ByteArray), .bool false, .int .i64 0] 25 rfl rfl gr ?_; clear BX; intro gb696 w38 GE696 BX) | ((with_reducible refine gate_callee (f := 23) rfl ?_); refine goesL_ (some 7) rfl rfl Tryz.func23 kr rfl #[.agg #[.int .i64 a0_0, .int .i64 a0_1, .int .i64 a0_2, .string a0_3, .bool a0_4, .int .i64 a0_5]] rfl ga ?_; (with_reducible refine (whittleref2_Of.calls k a0_0 a0_1 a0_2 a0_3 a0_4 a0_5 t697 t698 t699 t700 t701 t702 _ A2.out).mono ?_); rintro e w42 ⟨rfl, hb⟩; refine ⟨_, rfl, ?_⟩; replace BX := bx_call hb; clear hb) | ((with_reducible refine gate_callee (f := 57) rfl ?_); refine goesL_ (some 20) rfl rfl Tryz.func57 kr rfl #[.string t700] rfl ga ?_; (with_reducible refine (whittleref1_Read.calls k t700 t703 t704 false _ A16.out).mono ?_); rintro e w44 ⟨rfl, hb⟩; refine ⟨_, rfl, ?_⟩; replace BX := bx_call hb; clear hb) | ((with_reducible refine gate_dst (N := 4) rfl ?_); refine bxe 4 #[.int .i64 0, .int .i64 0] 23 rfl rfl gr ?_; clear BX; intro gb706 w45 GE706 BX) | ((with_reducible refine gate_callee (f := 24) rfl ?_); refine goesL_ (some 27) rfl rfl Tryz.func24 kr rfl #[.int .i64 2] rfl ga ?_; (with_reducible refine (whittleref2_Fault.calls 2 t707 t708 t709 t710 t711 t712 _ A35.out).mono ?_); rintro e w50 ⟨rfl, hb⟩; refine ⟨_, rfl, ?_⟩; replace BX := bx_call hb; clear hb))
    refine bodyPost_ret (results_cc rfl _ _ gb695 gb696 23 25 #[.int .i64 0, .int .i64 0] #[.int .i64 t707, .int .i64 t708, .int .i64 t709, .string t710, .bool t711, .int .i64 t712] (0, 0) (0, 0) _ _ rfl bx_get Tryz.underlying23 rfl kr rfl bx_get Tryz.underlying25 rfl kr) rfl ?_
    exact ⟨er2, bx_bl⟩
  ·rw [if_neg c15] at H
   have c15b0 : (t697 == 2) = false := beq_eq_false_iff_ne.mpr c15
   have c15b1 : (t697 != 2) = true := bne_iff_ne.mpr c15
   by_cases c54 : t697 = 3
   ·rw [if_pos c54] at H
    have c54b0 : (t697 == 3) = true := beq_iff_eq.mpr c54
    have c54b1 : (t697 != 3) = false := bne_eq_false_iff_eq.mpr c54
    clear c54
    by_cases c55 : t701 = true
    ·subst c55
     have H1 : (some (1, 1, 0, 0, 0, (⟨#[]⟩ : ByteArray), false, 0)) = some (r1, r2, r3, r4, r5, r6, r7, r8) := by rw [if_pos rfl] at H; exact H
     clear H
     have H := H1
     clear H1
     simp only [Option.some.injEq, Prod.mk.injEq] at H
     obtain ⟨rfl, rfl, rfl, rfl, rfl, rfl, rfl, rfl⟩ := H
     go_enter Tryz.func29, Tryz.ntmps29
     go_wp2_with (first | ((with_reducible refine gate_dst (N := 1) rfl ?_); refine bxe 1 #[.int .i64 a0_0, .int .i64 a0_1, .int .i64 a0_2, .string a0_3, .bool a0_4, .int .i64 a0_5] 25 rfl rfl gr ?_; clear BX; intro gb694 w56 GE694 BX) | ((with_reducible refine gate_dst (N := 2) rfl ?_); refine bxe 2 #[.int .i64 0, .int .i64 0] 23 rfl rfl gr ?_; clear BX; intro gb695 w57 GE695 BX) | ((with_reducible refine gate_dst (N := 3) rfl ?_); refine bxe 3 #[.int .i64 0, .int .i64 0, .int .i64 0, .string (⟨#[]⟩ : ByteArray), .bool false, .int .i64 0] 25 rfl rfl gr ?_; clear BX; intro gb696 w58 GE696 BX) | ((with_reducible refine gate_callee (f := 23) rfl ?_); refine goesL_ (some 7) rfl rfl Tryz.func23 kr rfl #[.agg #[.int .i64 a0_0, .int .i64 a0_1, .int .i64 a0_2, .string a0_3, .bool a0_4, .int .i64 a0_5]] rfl ga ?_; (with_reducible refine (whittleref2_Of.calls k a0_0 a0_1 a0_2 a0_3 a0_4 a0_5 t697 t698 t699 t700 true t702 _ A2.out).mono ?_); rintro e w62 ⟨rfl, hb⟩; refine ⟨_, rfl, ?_⟩; replace BX := bx_call hb; clear hb))
     refine bodyPost_ret (results_cc rfl _ _ gb695 gb696 23 25 #[.int .i64 1, .int .i64 1] #[.int .i64 0, .int .i64 0, .int .i64 0, .string (⟨#[]⟩ : ByteArray), .bool false, .int .i64 0] (0, 0) (0, 0) _ _ rfl bx_get Tryz.underlying23 rfl kr rfl bx_get Tryz.underlying25 rfl kr) rfl ?_
     exact ⟨er2, bx_bl⟩
    ·replace c55 := Bool.eq_false_iff.mpr c55
     subst c55
     have H1 : (some (0, 1, 0, 0, 0, (⟨#[]⟩ : ByteArray), false, 0)) = some (r1, r2, r3, r4, r5, r6, r7, r8) := by rw [if_neg (show ¬ (false = true) by decide)] at H; exact H
     clear H
     have H := H1
     clear H1
     simp only [Option.some.injEq, Prod.mk.injEq] at H
     obtain ⟨rfl, rfl, rfl, rfl, rfl, rfl, rfl, rfl⟩ := H
     go_enter Tryz.func29, Tryz.ntmps29
     go_wp2_with (first | ((with_reducible refine gate_dst (N := 1) rfl ?_); refine bxe 1 #[.int .i64 a0_0, .int .i64 a0_1, .int .i64 a0_2, .string a0_3, .bool a0_4, .int .i64 a0_5] 25 rfl rfl gr ?_; clear BX; intro gb694 w67 GE694 BX) | ((with_reducible refine gate_dst (N := 2) rfl ?_); refine bxe 2 #[.int .i64 0, .int .i64 0] 23 rfl rfl gr ?_; clear BX; intro gb695 w68 GE695 BX) | ((with_reducible refine gate_dst (N := 3) rfl ?_); refine bxe 3 #[.int .i64 0, .int .i64 0, .int .i64 0, .string (⟨#[]⟩ : ByteArray), .bool false, .int .i64 0] 25 rfl rfl gr ?_; clear BX; intro gb696 w69 GE696 BX) | ((with_reducible refine gate_callee (f := 23) rfl ?_); refine goesL_ (some 7) rfl rfl Tryz.func23 kr rfl #[.agg #[.int .i64 a0_0, .int .i64 a0_1, .int .i64 a0_2, .string a0_3, .bool a0_4, .int .i64 a0_5]] rfl ga ?_; (with_reducible refine (whittleref2_Of.calls k a0_0 a0_1 a0_2 a0_3 a0_4 a0_5 t697 t698 t699 t700 false t702 _ A2.out).mono ?_); rintro e w73 ⟨rfl, hb⟩; refine ⟨_, rfl, ?_⟩; replace BX := bx_call hb; clear hb))
     refine bodyPost_ret (results_cc rfl _ _ gb695 gb696 23 25 #[.int .i64 0, .int .i64 1] #[.int .i64 0, .int .i64 0, .int .i64 0, .string (⟨#[]⟩ : ByteArray), .bool false, .int .i64 0] (0, 0) (0, 0) _ _ rfl bx_get Tryz.underlying23 rfl kr rfl bx_get Tryz.underlying25 rfl kr) rfl ?_
     exact ⟨er2, bx_bl⟩
   ·rw [if_neg c54] at H
    have c54b0 : (t697 == 3) = false := beq_eq_false_iff_ne.mpr c54
    have c54b1 : (t697 != 3) = true := bne_iff_ne.mpr c54
    by_cases c78 : t697 = 4
    ·rw [if_pos c78] at H
     have c78b0 : (t697 == 4) = true := beq_iff_eq.mpr c78
     have c78b1 : (t697 != 4) = false := bne_eq_false_iff_eq.mpr c78
     clear c78
     simp only [Option.some.injEq, Prod.mk.injEq] at H
     obtain ⟨rfl, rfl, rfl, rfl, rfl, rfl, rfl, rfl⟩ := H
     go_enter Tryz.func29, Tryz.ntmps29
     try go_wp2_with (first | ((with_reducible refine gate_dst (N := 1) rfl ?_); refine bxe 1 #[.int .i64 a0_0, .int .i64 a0_1, .int .i64 a0_2, .string a0_3, .bool a0_4, .int .i64 a0_5] 25 rfl rfl gr ?_; clear BX; intro gb694 w79 GE694 BX) | ((with_reducible refine gate_dst (N := 2) rfl ?_); refine bxe 2 #[.int .i64 0, .int .i64 0] 23 rfl rfl gr ?_; clear BX; intro gb695 w80 GE695 BX) | ((with_reducible refine gate_dst (N := 3) rfl ?_); refine bxe 3 #[.int .i64 0, .int .i64 0, .int .i64 0, .string (⟨#[]⟩ : ByteArray), .bool false, .int .i64 0] 25 rfl rfl gr ?_; clear BX; intro gb696 w81 GE696 BX) | ((with_reducible refine gate_callee (f := 23) rfl ?_); refine goesL_ (some 7) rfl rfl Tryz.func23 kr rfl #[.agg #[.int .i64 a0_0, .int .i64 a0_1, .int .i64 a0_2, .string a0_3, .bool a0_4, .int .i64 a0_5]] rfl ga ?_; (with_reducible refine (whittleref2_Of.calls k a0_0 a0_1 a0_2 a0_3 a0_4 a0_5 t697 t698 t699 t700 t701 t702 _ A2.out).mono ?_); rintro e w85 ⟨rfl, hb⟩; refine ⟨_, rfl, ?_⟩; replace BX := bx_call hb; clear hb))
     replace BX : Bx w ((((((w85.setCell ⟨gb694, 0, none⟩ (.int .i64 t697)).setCell ⟨gb694, 1, none⟩ (.int .i64 t698)).setCell ⟨gb694, 2, none⟩ (.int .i64 t699)).setCell ⟨gb694, 3, none⟩ (.string t700)).setCell ⟨gb694, 4, none⟩ (.bool t701)).setCell ⟨gb694, 5, none⟩ (.int .i64 t702)) _ := bxi
     generalize ((((((w85.setCell ⟨gb694, 0, none⟩ (.int .i64 t697)).setCell ⟨gb694, 1, none⟩ (.int .i64 t698)).setCell ⟨gb694, 2, none⟩ (.int .i64 t699)).setCell ⟨gb694, 3, none⟩ (.string t700)).setCell ⟨gb694, 4, none⟩ (.bool t701)).setCell ⟨gb694, 5, none⟩ (.int .i64 t702)) = w87 at BX ⊢
     refine startm [false, false, true] (n := 4) (ds := []) #[false, false, false, false] kr rfl rfl (fun BX1 => ?_)
     clear BX
     have BX := BX1
     clear BX1
     generalize w87.drew = w88 at BX ⊢
     refine pure_ (i := 0) (N := some 36) (v := ?_) (a' := ?_) #[true, false, false, false] rfl rfl kr (fun _ _ _ h => h) (Or.inl ⟨by rfl, ?_⟩) ?_ ?_
     rotate_left
     ·intro w'
      go_simp
      with_reducible rfl
     rotate_left
     ·simp only [Act.put, List.setIfInBounds_toArray, List.set_cons_zero, List.set_cons_succ, i64_w, i32_w]
      rfl
     refine take_ (i := 1) (N := some 37) (v := ?_) (a' := ?_) #[true, true, false, false] rfl rfl kr (fun _ _ _ h => h) (Or.inl ⟨by rfl, ?_⟩) bxs ?_ ?_
     rotate_left
     ·intro w' hS
      go_simp
      with_reducible rfl
     rotate_left
     ·simp only [Act.put, List.setIfInBounds_toArray, List.set_cons_zero, List.set_cons_succ, i64_w, i32_w]
      rfl
     refine one_ (i := 2) (N := none) #[true, true, true, false] rfl rfl kr (by decide) (fun K hK => ?_)
     refine skip_ (w1 := ?_) (by rfl) rfl ?_ ?_
     rotate_left
     ·go_simp
      rfl
     refine hK.out _ _ bxs (fun hHeld => ?_)
     clear hK K hHeld
     refine one_ (i := 3) (N := none) #[true, true, true, true] rfl rfl kr (by decide) (fun K hK => ?_)
     refine skip_ (w1 := ?_) (by rfl) rfl ?_ ?_
     rotate_left
     ·go_simp
      rfl
     refine hK.out _ _ bxs (fun hHeld => ?_)
     clear hK K hHeld
     refine done_ kr ?_
     try go_wp2
     refine bodyPost_ret (results_cc rfl _ _ gb695 gb696 23 25 #[.int .i64 0, .int .i64 0] #[.int .i64 t697, .int .i64 t698, .int .i64 t699, .string t700, .bool t701, .int .i64 t702] (0, 0) (0, 0) _ _ rfl bx_get Tryz.underlying23 rfl kr rfl bx_get Tryz.underlying25 rfl kr) rfl ?_
     exact ⟨er2, bx_bl⟩
    ·rw [if_neg c78] at H
     have c78b0 : (t697 == 4) = false := beq_eq_false_iff_ne.mpr c78
     have c78b1 : (t697 != 4) = true := bne_iff_ne.mpr c78
     simp only [Option.some.injEq, Prod.mk.injEq] at H
     obtain ⟨rfl, rfl, rfl, rfl, rfl, rfl, rfl, rfl⟩ := H
     go_enter Tryz.func29, Tryz.ntmps29
     go_wp2_with (first | ((with_reducible refine gate_dst (N := 1) rfl ?_); refine bxe 1 #[.int .i64 a0_0, .int .i64 a0_1, .int .i64 a0_2, .string a0_3, .bool a0_4, .int .i64 a0_5] 25 rfl rfl gr ?_; clear BX; intro gb694 w97 GE694 BX) | ((with_reducible refine gate_dst (N := 2) rfl ?_); refine bxe 2 #[.int .i64 0, .int .i64 0] 23 rfl rfl gr ?_; clear BX; intro gb695 w98 GE695 BX) | ((with_reducible refine gate_dst (N := 3) rfl ?_); refine bxe 3 #[.int .i64 0, .int .i64 0, .int .i64 0, .string (⟨#[]⟩ : ByteArray), .bool false, .int .i64 0] 25 rfl rfl gr ?_; clear BX; intro gb696 w99 GE696 BX) | ((with_reducible refine gate_callee (f := 23) rfl ?_); refine goesL_ (some 7) rfl rfl Tryz.func23 kr rfl #[.agg #[.int .i64 a0_0, .int .i64 a0_1, .int .i64 a0_2, .string a0_3, .bool a0_4, .int .i64 a0_5]] rfl ga ?_; (with_reducible refine (whittleref2_Of.calls k a0_0 a0_1 a0_2 a0_3 a0_4 a0_5 t697 t698 t699 t700 t701 t702 _ A2.out).mono ?_); rintro e w103 ⟨rfl, hb⟩; refine ⟨_, rfl, ?_⟩; replace BX := bx_call hb; clear hb))
     refine bodyPost_ret (results_cc rfl _ _ gb695 gb696 23 25 #[.int .i64 0, .int .i64 1] #[.int .i64 0, .int .i64 0, .int .i64 0, .string (⟨#[]⟩ : ByteArray), .bool false, .int .i64 0] (0, 0) (0, 0) _ _ rfl bx_get Tryz.underlying23 rfl kr rfl bx_get Tryz.underlying25 rfl kr) rfl ?_
     exact ⟨er2, bx_bl⟩
end
section
/-! ### whittleref2_Number: function 87 -/
def whittleref2_Number.f (k : Nat) (a0_0 : Int) (a0_1 : Int) : Option (Int × Int × Int × ByteArray × Bool × Int) := (whittleref1_Of.f k a0_0 a0_1).bind fun bt788 => (some (1, bt788.1, bt788.2, (⟨#[]⟩ : ByteArray), false, 0))
theorem whittleref2_Number.mono : ∀ a0 a1 k, LeO (whittleref2_Number.f k a0 a1) (whittleref2_Number.f (k + 1) a0 a1) := by
 intro a0 a1 k
 unfold whittleref2_Number.f
 repeat' first
   | (with_reducible exact whittleref1_Of.mono _ _ _)
   | (with_reducible exact LeO.refl _)
   | (with_reducible exact LeO.none _)
   | (with_reducible refine LeO.ite ?_ ?_)
   | (with_reducible refine LeO.bind ?_ (fun _ => ?_))
   | exact whittleref1_Of.mono _ _ _
   | exact LeO.none _
   | refine LeO.ite ?_ ?_
   | refine LeO.bind ?_ (fun _ => ?_)
set_option maxHeartbeats 8000000 in
set_option maxRecDepth 100000 in
theorem whittleref2_Number.calls (k : Nat) (a0_0 : Int) (a0_1 : Int) (r1 : Int) (r2 : Int) (r3 : Int) (r4 : ByteArray) (r5 : Bool) (r6 : Int) (w : World) (h : whittleref2_Number.f k a0_0 a0_1 = some (r1, r2, r3, r4, r5, r6)) :
  Calls Tryz.prog 87 #[.agg #[.int .i64 a0_0, .int .i64 a0_1]] w fun e w' => e = .returned (.agg #[.int .i64 r1, .int .i64 r2, .int .i64 r3, .string r4, .bool r5, .int .i64 r6]) ∧ Below w.heap.size w w' := by
 have hu23 := Tryz.underlying23
 have hu25 := Tryz.underlying25
 have BX := Bx.start w
 have H : ((whittleref1_Of.f k a0_0 a0_1).bind fun bt788 => (some (1, bt788.1, bt788.2, (⟨#[]⟩ : ByteArray), false, 0))) = some (r1, r2, r3, r4, r5, r6) := h
 clear h
 replace H := Option.bind_eq_some_iff.mp H
 obtain ⟨⟨t788, t789⟩, A20, H⟩ := H
 replace H : (some (1, t788, t789, (⟨#[]⟩ : ByteArray), false, 0)) = some (r1, r2, r3, r4, r5, r6) := H
 have A2 := Aside0.mk A20
 clear A20
 simp only [Option.some.injEq, Prod.mk.injEq] at H
 obtain ⟨rfl, rfl, rfl, rfl, rfl, rfl⟩ := H
 go_enter Tryz.func87, Tryz.ntmps87
 go_wp2_with (first | ((with_reducible refine gate_dst (N := 1) rfl ?_); refine bxe 1 #[.int .i64 a0_0, .int .i64 a0_1] 23 rfl rfl gr ?_; clear BX; intro gb786 w3 GE786 BX) | ((with_reducible refine gate_dst (N := 2) rfl ?_); refine bxe 2 #[.int .i64 0, .int .i64 0, .int .i64 0, .string (⟨#[]⟩ : ByteArray), .bool false, .int .i64 0] 25 rfl rfl gr ?_; clear BX; intro gb787 w4 GE787 BX) | ((with_reducible refine gate_callee (f := 78) rfl ?_); refine goesL_ (some 4) rfl rfl Tryz.func78 kr rfl #[.agg #[.int .i64 a0_0, .int .i64 a0_1]] rfl ga ?_; (with_reducible refine (whittleref1_Of.calls k a0_0 a0_1 t788 t789 _ A2.out).mono ?_); rintro e w7 ⟨rfl, hb⟩; refine ⟨_, rfl, ?_⟩; replace BX := bx_call hb; clear hb))
 refine bodyPost_ret (results_cell_row rfl _ _ gb787 25 #[.int .i64 1, .int .i64 t788, .int .i64 t789, .string (⟨#[]⟩ : ByteArray), .bool false, .int .i64 0] (0, 0) _ rfl bx_get Tryz.underlying25 rfl kr) rfl ?_
 exact ⟨er2, bx_bl⟩
end
section
/-! ### whittleref2_fitting: function 64 -/
def whittleref2_fitting.f (k : Nat) (a0_0 : Int) (a0_1 : Int) (a1 : Bool) : Option (Int × Int × Int × ByteArray × Bool × Int) := if a1 = true then ((whittleref2_Number.f k a0_0 a0_1).bind fun bt792 => (some (bt792.1, bt792.2.1, bt792.2.2.1, bt792.2.2.2.1, bt792.2.2.2.2.1, bt792.2.2.2.2.2))) else ((whittleref2_Fault.f 4).bind fun bt798 => (some (bt798.1, bt798.2.1, bt798.2.2.1, bt798.2.2.2.1, bt798.2.2.2.2.1, bt798.2.2.2.2.2)))
theorem whittleref2_fitting.mono : ∀ a0 a1 a2 k, LeO (whittleref2_fitting.f k a0 a1 a2) (whittleref2_fitting.f (k + 1) a0 a1 a2) := by
 intro a0 a1 a2 k
 unfold whittleref2_fitting.f
 repeat' first
   | (with_reducible exact whittleref2_Number.mono _ _ _)
   | (with_reducible exact LeO.refl _)
   | (with_reducible exact LeO.none _)
   | (with_reducible refine LeO.ite ?_ ?_)
   | (with_reducible refine LeO.bind ?_ (fun _ => ?_))
   | exact whittleref2_Number.mono _ _ _
   | exact LeO.none _
   | refine LeO.ite ?_ ?_
   | refine LeO.bind ?_ (fun _ => ?_)
set_option maxHeartbeats 8000000 in
set_option maxRecDepth 100000 in
theorem whittleref2_fitting.calls (k : Nat) (a0_0 : Int) (a0_1 : Int) (a1 : Bool) (r1 : Int) (r2 : Int) (r3 : Int) (r4 : ByteArray) (r5 : Bool) (r6 : Int) (w : World) (h : whittleref2_fitting.f k a0_0 a0_1 a1 = some (r1, r2, r3, r4, r5, r6)) :
  Calls Tryz.prog 64 #[.agg #[.int .i64 a0_0, .int .i64 a0_1], .bool a1] w fun e w' => e = .returned (.agg #[.int .i64 r1, .int .i64 r2, .int .i64 r3, .string r4, .bool r5, .int .i64 r6]) ∧ Below w.heap.size w w' := by
 have hu23 := Tryz.underlying23
 have hu25 := Tryz.underlying25
 have BX := Bx.start w
 have H : (if a1 = true then ((whittleref2_Number.f k a0_0 a0_1).bind fun bt792 => (some (bt792.1, bt792.2.1, bt792.2.2.1, bt792.2.2.2.1, bt792.2.2.2.2.1, bt792.2.2.2.2.2))) else ((whittleref2_Fault.f 4).bind fun bt798 => (some (bt798.1, bt798.2.1, bt798.2.2.1, bt798.2.2.2.1, bt798.2.2.2.2.1, bt798.2.2.2.2.2)))) = some (r1, r2, r3, r4, r5, r6) := h
 clear h
 by_cases c3 : a1 = true
 ·subst c3
  have H1 : ((whittleref2_Number.f k a0_0 a0_1).bind fun bt792 => (some (bt792.1, bt792.2.1, bt792.2.2.1, bt792.2.2.2.1, bt792.2.2.2.2.1, bt792.2.2.2.2.2))) = some (r1, r2, r3, r4, r5, r6) := by rw [if_pos rfl] at H; exact H
  clear H
  have H := H1
  clear H1
  replace H := Option.bind_eq_some_iff.mp H
  obtain ⟨⟨t792, t793, t794, t795, t796, t797⟩, A40, H⟩ := H
  replace H : (some (t792, t793, t794, t795, t796, t797)) = some (r1, r2, r3, r4, r5, r6) := H
  have A4 := Aside0.mk A40
  clear A40
  simp only [Option.some.injEq, Prod.mk.injEq] at H
  obtain ⟨rfl, rfl, rfl, rfl, rfl, rfl⟩ := H
  go_enter Tryz.func64, Tryz.ntmps64
  go_wp2_with (first | ((with_reducible refine gate_dst (N := 2) rfl ?_); refine bxe 2 #[.int .i64 a0_0, .int .i64 a0_1] 23 rfl rfl gr ?_; clear BX; intro gb790 w5 GE790 BX) | ((with_reducible refine gate_dst (N := 4) rfl ?_); refine bxe 4 #[.int .i64 0, .int .i64 0, .int .i64 0, .string (⟨#[]⟩ : ByteArray), .bool false, .int .i64 0] 25 rfl rfl gr ?_; clear BX; intro gb791 w6 GE791 BX) | ((with_reducible refine gate_callee (f := 87) rfl ?_); refine goesL_ (some 9) rfl rfl Tryz.func87 kr rfl #[.agg #[.int .i64 a0_0, .int .i64 a0_1]] rfl ga ?_; (with_reducible refine (whittleref2_Number.calls k a0_0 a0_1 t792 t793 t794 t795 t796 t797 _ A4.out).mono ?_); rintro e w9 ⟨rfl, hb⟩; refine ⟨_, rfl, ?_⟩; replace BX := bx_call hb; clear hb))
  refine bodyPost_ret (results_cell_row rfl _ _ gb791 25 #[.int .i64 t792, .int .i64 t793, .int .i64 t794, .string t795, .bool t796, .int .i64 t797] (0, 0) _ rfl bx_get Tryz.underlying25 rfl kr) rfl ?_
  exact ⟨er2, bx_bl⟩
 ·replace c3 := Bool.eq_false_iff.mpr c3
  subst c3
  have H1 : ((whittleref2_Fault.f 4).bind fun bt798 => (some (bt798.1, bt798.2.1, bt798.2.2.1, bt798.2.2.2.1, bt798.2.2.2.2.1, bt798.2.2.2.2.2))) = some (r1, r2, r3, r4, r5, r6) := by rw [if_neg (show ¬ (false = true) by decide)] at H; exact H
  clear H
  have H := H1
  clear H1
  replace H := Option.bind_eq_some_iff.mp H
  obtain ⟨⟨t798, t799, t800, t801, t802, t803⟩, A110, H⟩ := H
  replace H : (some (t798, t799, t800, t801, t802, t803)) = some (r1, r2, r3, r4, r5, r6) := H
  have A11 := Aside0.mk A110
  clear A110
  simp only [Option.some.injEq, Prod.mk.injEq] at H
  obtain ⟨rfl, rfl, rfl, rfl, rfl, rfl⟩ := H
  go_enter Tryz.func64, Tryz.ntmps64
  go_wp2_with (first | ((with_reducible refine gate_dst (N := 2) rfl ?_); refine bxe 2 #[.int .i64 a0_0, .int .i64 a0_1] 23 rfl rfl gr ?_; clear BX; intro gb790 w12 GE790 BX) | ((with_reducible refine gate_dst (N := 4) rfl ?_); refine bxe 4 #[.int .i64 0, .int .i64 0, .int .i64 0, .string (⟨#[]⟩ : ByteArray), .bool false, .int .i64 0] 25 rfl rfl gr ?_; clear BX; intro gb791 w13 GE791 BX) | ((with_reducible refine gate_callee (f := 24) rfl ?_); refine goesL_ (some 7) rfl rfl Tryz.func24 kr rfl #[.int .i64 4] rfl ga ?_; (with_reducible refine (whittleref2_Fault.calls 4 t798 t799 t800 t801 t802 t803 _ A11.out).mono ?_); rintro e w14 ⟨rfl, hb⟩; refine ⟨_, rfl, ?_⟩; replace BX := bx_call hb; clear hb))
  refine bodyPost_ret (results_cell_row rfl _ _ gb791 25 #[.int .i64 t798, .int .i64 t799, .int .i64 t800, .string t801, .bool t802, .int .i64 t803] (0, 0) _ rfl bx_get Tryz.underlying25 rfl kr) rfl ?_
  exact ⟨er2, bx_bl⟩
end
end Go.Proofs.YtmakkdlkgfgaoaaGreatDoor.F
