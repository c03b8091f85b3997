-- Laid by program (wip/tools/genv.sh, pack.py, merge.py of this repo) out of the translation; Lean checks it.
import Derived.Test.YtmakkdlkgfgaoaaDoorF0
import Derived.Test.YtmakkdlkgfgaoaaDoorC0
import Derived.Test.YtmakkdlkgfgaoaaDoorF100
import Derived.Test.YtmakkdlkgfgaoaaDoorF106
import Derived.Test.YtmakkdlkgfgaoaaDoorF107
namespace Go.Proofs.YtmakkdlkgfgaoaaDoor.F
open Go.RowKit Go.Proofs.YtmakkdlkgfgaoaaDoorW.PrintWords Go.Proofs.YtmakkdlkgfgaoaaDoorW.PrintLast Go.Proofs.YtmakkdlkgfgaoaaDoorW.PrintMore
attribute [local go_sem] max2_int min2_int max_two min_two max_three min_three max_four min_four
attribute [local go_sem high] bx_cell bx_frozen
set_option linter.unusedVariables false
set_option linter.unusedSimpArgs false

section
/-! ### whittleref2_plain: function 52 -/
def whittleref2_plain.l0 : Nat → ByteArray → Int → Option (Bool)
 | 0, _, _ => none
 | k + 1, x0, x3 => if x3 < (x0.size : Int) then (if 0 ≤ x3 then (if (bt x0 x3) < 32 then (some false) else (if (bt x0 x3) > 126 then (some false) else (whittleref2_plain.l0 k x0 (wrap64 (x3 + 1))))) else (none)) else (some true)
def whittleref2_plain.f (k : Nat) (a0 : ByteArray) : Option (Bool) := whittleref2_plain.l0 k a0 0
theorem whittleref2_plain.mono_l : ∀ k, (∀ y0 y1, LeO (whittleref2_plain.l0 k y0 y1) (whittleref2_plain.l0 (k + 1) y0 y1))
 | 0 => fun _ _ r h => by simp [whittleref2_plain.l0] at h
 | k + 1 => by
  have ih0 := whittleref2_plain.mono_l k
  ·intro y0 y1
   unfold whittleref2_plain.l0
   repeat' first
   | (with_reducible exact ih0 _ _)
   | (with_reducible exact LeO.refl _)
   | (with_reducible exact LeO.none _)
   | (with_reducible refine LeO.ite ?_ ?_)
   | (with_reducible refine LeO.bind ?_ (fun _ => ?_))
   | exact ih0 _ _
   | exact LeO.none _
   | refine LeO.ite ?_ ?_
   | refine LeO.bind ?_ (fun _ => ?_)
theorem whittleref2_plain.mono : ∀ a0 k, LeO (whittleref2_plain.f k a0) (whittleref2_plain.f (k + 1) a0) := by
 intro a0 k
 have ih0 := whittleref2_plain.mono_l k
 unfold whittleref2_plain.f
 repeat' first
   | (with_reducible exact ih0 _ _)
   | (with_reducible exact LeO.refl _)
   | (with_reducible exact LeO.none _)
   | (with_reducible refine LeO.ite ?_ ?_)
   | (with_reducible refine LeO.bind ?_ (fun _ => ?_))
   | exact ih0 _ _
   | exact LeO.none _
   | refine LeO.ite ?_ ?_
   | refine LeO.bind ?_ (fun _ => ?_)
set_option maxHeartbeats 8000000 in
set_option maxRecDepth 100000 in
theorem whittleref2_plain.calls (k : Nat) (a0 : ByteArray) (r : Bool) (w : World) (h : whittleref2_plain.f k a0 = some r) :
  Calls Tryd.prog 52 #[.string a0] w fun e w' => e = .returned (.bool r) ∧ Drawn0 w w' := by
 have H : (whittleref2_plain.l0 k a0 0) = some r := h
 clear h
 have H' := Aside0.mk H
 clear H
 go_enter Tryd.func52, Tryd.ntmps52
 go_wp2
 go_loopg [3] k (fun kq v3 w' => ∃ (x3_1 : Int), v3 = .int .i64 x3_1 ∧ Aside0 (whittleref2_plain.l0 kq a0 x3_1 = some r) ∧ Aside0 (kq ≤ k) ∧ Drawn0 w w')
 case atStart => exact ⟨(0), er, H', ⟨Nat.le_refl _⟩, dr⟩
 case round =>
  clear H'
  obtain ⟨x3_1, rfl, HA, HK1, ⟨m1, rfl⟩⟩ := hrel
  cases gk with
  | zero => exact absurd HA.out (by simp [whittleref2_plain.l0])
  | succ k1 =>
   have H := HA.out
   clear HA
   simp only [whittleref2_plain.l0] at H
   by_cases c2 : x3_1 < (a0.size : Int)
   ·rw [if_pos c2] at H
    have c2b0 : decide (x3_1 < (a0.size : Int)) = true := decide_eq_true c2
    clear c2
    by_cases c3 : 0 ≤ x3_1
    ·rw [if_pos c3] at H
     have c3b0 : decide (0 ≤ x3_1) = true := decide_eq_true c3
     clear c3
     by_cases c5 : (bt a0 x3_1) < 32
     ·rw [if_pos c5] at H
      have c5b0 : decide ((bt a0 x3_1) < 32) = true := decide_eq_true c5
      clear c5
      obtain rfl := Option.some.inj H
      have p4 : 0 ≤ (x3_1 : Int) := of_decide_eq_true (by first | (with_reducible assumption) | assumption)
      have q4 : x3_1 < (a0.size : Int) := of_decide_eq_true (by first | (with_reducible assumption) | assumption)
      have hx4 := bt_at a0 x3_1
      replace p4 := eq_true p4
      replace q4 := eq_true q4
      go_wp2
      go_ret
      exact ⟨er, dr⟩
     ·rw [if_neg c5] at H
      have c5b0 : decide ((bt a0 x3_1) < 32) = false := decide_eq_false c5
      clear c5
      by_cases c7 : (bt a0 x3_1) > 126
      ·rw [if_pos c7] at H
       have c7b0 : decide (126 < (bt a0 x3_1)) = true := decide_eq_true c7
       clear c7
       obtain rfl := Option.some.inj H
       have p4 : 0 ≤ (x3_1 : Int) := of_decide_eq_true (by first | (with_reducible assumption) | assumption)
       have q4 : x3_1 < (a0.size : Int) := of_decide_eq_true (by first | (with_reducible assumption) | assumption)
       have hx4 := bt_at a0 x3_1
       replace p4 := eq_true p4
       replace q4 := eq_true q4
       have p6 : 0 ≤ (x3_1 : Int) := of_decide_eq_true (by first | (with_reducible assumption) | assumption)
       have q6 : x3_1 < (a0.size : Int) := of_decide_eq_true (by first | (with_reducible assumption) | assumption)
       have hx6 := bt_at a0 x3_1
       replace p6 := eq_true p6
       replace q6 := eq_true q6
       go_wp2
       go_ret
       exact ⟨er, dr⟩
      ·rw [if_neg c7] at H
       have c7b0 : decide (126 < (bt a0 x3_1)) = false := decide_eq_false c7
       clear c7
       have H' := Aside0.mk H
       clear H
       have p4 : 0 ≤ (x3_1 : Int) := of_decide_eq_true (by first | (with_reducible assumption) | assumption)
       have q4 : x3_1 < (a0.size : Int) := of_decide_eq_true (by first | (with_reducible assumption) | assumption)
       have hx4 := bt_at a0 x3_1
       replace p4 := eq_true p4
       replace q4 := eq_true q4
       have p6 : 0 ≤ (x3_1 : Int) := of_decide_eq_true (by first | (with_reducible assumption) | assumption)
       have q6 : x3_1 < (a0.size : Int) := of_decide_eq_true (by first | (with_reducible assumption) | assumption)
       have hx6 := bt_at a0 x3_1
       replace p6 := eq_true p6
       replace q6 := eq_true q6
       go_wp2
       go_roundg k1
       case measure => have := HK1.out; omega
       case rel => exact ⟨(wrap64 (x3_1 + 1)), er, H', ⟨by have := HK1.out; omega⟩, dr⟩
    ·rw [if_neg c3] at H
     exact absurd H (by simp)
   ·rw [if_neg c2] at H
    have c2b0 : decide (x3_1 < (a0.size : Int)) = false := decide_eq_false c2
    clear c2
    obtain rfl := Option.some.inj H
    go_wp2
    go_ret
    exact ⟨er, dr⟩
end
section
attribute [local go_sem high] eqA25
/-! ### whittleref2_Right: function 17 -/
def whittleref2_Right.f (k : Nat) (a0_0 : Int) (a0_1 : Int) (a0_2 : Int) (a0_3 : ByteArray) (a0_4 : Bool) (a0_5 : Int) : Option (Bool) := if a0_0 = 0 then (some (a0_0 == 0 && ((a0_1 == 0 && (a0_2 == 0)) && (a0_3.toList == ([] : List UInt8) && (!a0_4 && (a0_5 == 0)))))) else (if a0_0 = 1 then ((whittleref1_Right.f k a0_1 a0_2).bind fun t580 => (if t580 = true then (some (a0_0 == 1 && (a0_3.toList == ([] : List UInt8) && (!a0_4 && (a0_5 == 0))))) else (some false))) else (if a0_0 = 2 then ((whittleref2_plain.f k a0_3).bind fun t581 => (if t581 = true then (if (a0_3.size : Int) ≤ 256 then (some (a0_0 == 2 && ((a0_1 == 0 && (a0_2 == 0)) && (!a0_4 && (a0_5 == 0))))) else (some false)) else (some false))) else (if a0_0 = 3 then (some (a0_0 == 3 && ((a0_1 == 0 && (a0_2 == 0)) && (a0_3.toList == ([] : List UInt8) && (a0_5 == 0))))) else (if a0_0 = 4 then (if a0_5 ≥ 1 then (if a0_5 ≤ 8 then (some (a0_0 == 4 && ((a0_1 == 0 && (a0_2 == 0)) && (a0_3.toList == ([] : List UInt8) && (!a0_4))))) else (some false)) else (some false)) else (some false)))))
theorem whittleref2_Right.mono : ∀ a0 a1 a2 a3 a4 a5 k, LeO (whittleref2_Right.f k a0 a1 a2 a3 a4 a5) (whittleref2_Right.f (k + 1) a0 a1 a2 a3 a4 a5) := by
 intro a0 a1 a2 a3 a4 a5 k
 unfold whittleref2_Right.f
 repeat' first
   | (with_reducible exact whittleref1_Right.mono _ _ _)
   | (with_reducible exact whittleref2_plain.mono _ _)
   | (with_reducible exact LeO.refl _)
   | (with_reducible exact LeO.none _)
   | (with_reducible refine LeO.ite ?_ ?_)
   | (with_reducible refine LeO.bind ?_ (fun _ => ?_))
   | exact whittleref1_Right.mono _ _ _
   | exact whittleref2_plain.mono _ _
   | exact LeO.none _
   | refine LeO.ite ?_ ?_
   | refine LeO.bind ?_ (fun _ => ?_)
set_option maxHeartbeats 8000000 in
set_option maxRecDepth 100000 in
theorem whittleref2_Right.calls (k : Nat) (a0_0 : Int) (a0_1 : Int) (a0_2 : Int) (a0_3 : ByteArray) (a0_4 : Bool) (a0_5 : Int) (r : Bool) (w : World) (h : whittleref2_Right.f k a0_0 a0_1 a0_2 a0_3 a0_4 a0_5 = some r) :
  Calls Tryd.prog 17 #[.agg #[.int .i64 a0_0, .int .i64 a0_1, .int .i64 a0_2, .string a0_3, .bool a0_4, .int .i64 a0_5]] w fun e w' => e = .returned (.bool r) ∧ Below w.heap.size w w' := by
 have hu25 := Tryd.underlying25
 have hu23 := Tryd.underlying23
 have BX := Bx.start w
 have H : (if a0_0 = 0 then (some (a0_0 == 0 && ((a0_1 == 0 && (a0_2 == 0)) && (a0_3.toList == ([] : List UInt8) && (!a0_4 && (a0_5 == 0)))))) else (if a0_0 = 1 then ((whittleref1_Right.f k a0_1 a0_2).bind fun t580 => (if t580 = true then (some (a0_0 == 1 && (a0_3.toList == ([] : List UInt8) && (!a0_4 && (a0_5 == 0))))) else (some false))) else (if a0_0 = 2 then ((whittleref2_plain.f k a0_3).bind fun t581 => (if t581 = true then (if (a0_3.size : Int) ≤ 256 then (some (a0_0 == 2 && ((a0_1 == 0 && (a0_2 == 0)) && (!a0_4 && (a0_5 == 0))))) else (some false)) else (some false))) else (if a0_0 = 3 then (some (a0_0 == 3 && ((a0_1 == 0 && (a0_2 == 0)) && (a0_3.toList == ([] : List UInt8) && (a0_5 == 0))))) else (if a0_0 = 4 then (if a0_5 ≥ 1 then (if a0_5 ≤ 8 then (some (a0_0 == 4 && ((a0_1 == 0 && (a0_2 == 0)) && (a0_3.toList == ([] : List UInt8) && (!a0_4))))) else (some false)) else (some false)) else (some false)))))) = some r := h
 clear h
 by_cases c2 : a0_0 = 0
 ·rw [if_pos c2] at H
  have c2b0 : (a0_0 == 0) = true := beq_iff_eq.mpr c2
  have c2b1 : (a0_0 != 0) = false := bne_eq_false_iff_eq.mpr c2
  clear c2
  obtain rfl := Option.some.inj H
  go_enter Tryd.func17, Tryd.ntmps17
  go_wp2_with (first | ((with_reducible refine gate_dst (N := 1) rfl ?_); (try (refine gate_guard (by rfl) ?_; dsimp only)); refine bxe 1 #[.int .i64 a0_0, .int .i64 a0_1, .int .i64 a0_2, .string a0_3, .bool a0_4, .int .i64 a0_5] 25 rfl rfl gr ?_; clear BX; intro gb579 w3 GE579 BX))
  go_ret
  exact ⟨er2, bx_bl⟩
 ·rw [if_neg c2] at H
  have c2b0 : (a0_0 == 0) = false := beq_eq_false_iff_ne.mpr c2
  have c2b1 : (a0_0 != 0) = true := bne_iff_ne.mpr c2
  by_cases c5 : a0_0 = 1
  ·rw [if_pos c5] at H
   have c5b0 : (a0_0 == 1) = true := beq_iff_eq.mpr c5
   have c5b1 : (a0_0 != 1) = false := bne_eq_false_iff_eq.mpr c5
   clear c5
   replace H := Option.bind_eq_some_iff.mp H
   obtain ⟨t580, A60, H⟩ := H
   replace H : (if t580 = true then (some (a0_0 == 1 && (a0_3.toList == ([] : List UInt8) && (!a0_4 && (a0_5 == 0))))) else (some false)) = some r := H
   have A6 := Aside0.mk A60
   clear A60
   by_cases c7 : t580 = true
   ·subst c7
    have H1 : (some (a0_0 == 1 && (a0_3.toList == ([] : List UInt8) && (!a0_4 && (a0_5 == 0))))) = some r := by rw [if_pos rfl] at H; exact H
    clear H
    have H := H1
    clear H1
    obtain rfl := Option.some.inj H
    go_enter Tryd.func17, Tryd.ntmps17
    go_wp2_with (first | ((with_reducible refine gate_dst (N := 1) rfl ?_); (try (refine gate_guard (by rfl) ?_; dsimp only)); refine bxe 1 #[.int .i64 a0_0, .int .i64 a0_1, .int .i64 a0_2, .string a0_3, .bool a0_4, .int .i64 a0_5] 25 rfl rfl gr ?_; clear BX; intro gb579 w8 GE579 BX) | ((with_reducible refine gate_callee (f := 51) rfl ?_); refine goesL_ (some 16) rfl rfl Tryd.func51 kr rfl #[.agg #[.int .i64 a0_1, .int .i64 a0_2]] rfl ga ?_; (with_reducible refine (whittleref1_Right.calls k a0_1 a0_2 true _ A6.out).mono ?_); rintro e w10 ⟨rfl, hb⟩; refine ⟨_, rfl, ?_⟩; replace BX := bx_call hb; clear hb))
    go_ret
    exact ⟨er2, bx_bl⟩
   ·replace c7 := Bool.eq_false_iff.mpr c7
    subst c7
    have H1 : (some false) = some r := by rw [if_neg (show ¬ (false = true) by decide)] at H; exact H
    clear H
    have H := H1
    clear H1
    obtain rfl := Option.some.inj H
    go_enter Tryd.func17, Tryd.ntmps17
    go_wp2_with (first | ((with_reducible refine gate_dst (N := 1) rfl ?_); (try (refine gate_guard (by rfl) ?_; dsimp only)); refine bxe 1 #[.int .i64 a0_0, .int .i64 a0_1, .int .i64 a0_2, .string a0_3, .bool a0_4, .int .i64 a0_5] 25 rfl rfl gr ?_; clear BX; intro gb579 w12 GE579 BX) | ((with_reducible refine gate_callee (f := 51) rfl ?_); refine goesL_ (some 16) rfl rfl Tryd.func51 kr rfl #[.agg #[.int .i64 a0_1, .int .i64 a0_2]] rfl ga ?_; (with_reducible refine (whittleref1_Right.calls k a0_1 a0_2 false _ A6.out).mono ?_); rintro e w14 ⟨rfl, hb⟩; refine ⟨_, rfl, ?_⟩; replace BX := bx_call hb; clear hb))
    go_ret
    exact ⟨er2, bx_bl⟩
  ·rw [if_neg c5] at H
   have c5b0 : (a0_0 == 1) = false := beq_eq_false_iff_ne.mpr c5
   have c5b1 : (a0_0 != 1) = true := bne_iff_ne.mpr c5
   by_cases c15 : a0_0 = 2
   ·rw [if_pos c15] at H
    have c15b0 : (a0_0 == 2) = true := beq_iff_eq.mpr c15
    have c15b1 : (a0_0 != 2) = false := bne_eq_false_iff_eq.mpr c15
    clear c15
    replace H := Option.bind_eq_some_iff.mp H
    obtain ⟨t581, A160, H⟩ := H
    replace H : (if t581 = true then (if (a0_3.size : Int) ≤ 256 then (some (a0_0 == 2 && ((a0_1 == 0 && (a0_2 == 0)) && (!a0_4 && (a0_5 == 0))))) else (some false)) else (some false)) = some r := H
    have A16 := Aside0.mk A160
    clear A160
    by_cases c17 : t581 = true
    ·subst c17
     have H1 : (if (a0_3.size : Int) ≤ 256 then (some (a0_0 == 2 && ((a0_1 == 0 && (a0_2 == 0)) && (!a0_4 && (a0_5 == 0))))) else (some false)) = some r := by rw [if_pos rfl] at H; exact H
     clear H
     have H := H1
     clear H1
     by_cases c18 : (a0_3.size : Int) ≤ 256
     ·rw [if_pos c18] at H
      have c18b0 : decide ((a0_3.size : Int) ≤ 256) = true := decide_eq_true c18
      have c18b1 : decide (a0_3.size ≤ 256) = true := decide_eq_true (by omega)
      clear c18
      obtain rfl := Option.some.inj H
      go_enter Tryd.func17, Tryd.ntmps17
      go_wp2_with (first | ((with_reducible refine gate_dst (N := 1) rfl ?_); (try (refine gate_guard (by rfl) ?_; dsimp only)); refine bxe 1 #[.int .i64 a0_0, .int .i64 a0_1, .int .i64 a0_2, .string a0_3, .bool a0_4, .int .i64 a0_5] 25 rfl rfl gr ?_; clear BX; intro gb579 w19 GE579 BX) | ((with_reducible refine gate_callee (f := 52) rfl ?_); refine goesL_ (some 29) rfl rfl Tryd.func52 kr rfl #[.string a0_3] rfl ga ?_; (with_reducible refine (whittleref2_plain.calls k a0_3 true _ A16.out).mono ?_); rintro e w' ⟨rfl, ⟨nd, rfl⟩⟩; refine ⟨_, rfl, ?_⟩))
      go_ret
      exact ⟨er2, bx_bl⟩
     ·rw [if_neg c18] at H
      have c18b0 : decide ((a0_3.size : Int) ≤ 256) = false := decide_eq_false c18
      have c18b1 : decide (a0_3.size ≤ 256) = false := decide_eq_false (by omega)
      clear c18
      obtain rfl := Option.some.inj H
      go_enter Tryd.func17, Tryd.ntmps17
      go_wp2_with (first | ((with_reducible refine gate_dst (N := 1) rfl ?_); (try (refine gate_guard (by rfl) ?_; dsimp only)); refine bxe 1 #[.int .i64 a0_0, .int .i64 a0_1, .int .i64 a0_2, .string a0_3, .bool a0_4, .int .i64 a0_5] 25 rfl rfl gr ?_; clear BX; intro gb579 w21 GE579 BX) | ((with_reducible refine gate_callee (f := 52) rfl ?_); refine goesL_ (some 29) rfl rfl Tryd.func52 kr rfl #[.string a0_3] rfl ga ?_; (with_reducible refine (whittleref2_plain.calls k a0_3 true _ A16.out).mono ?_); rintro e w' ⟨rfl, ⟨nd, rfl⟩⟩; refine ⟨_, rfl, ?_⟩))
      go_ret
      exact ⟨er2, bx_bl⟩
    ·replace c17 := Bool.eq_false_iff.mpr c17
     subst c17
     have H1 : (some false) = some r := by rw [if_neg (show ¬ (false = true) by decide)] at H; exact H
     clear H
     have H := H1
     clear H1
     obtain rfl := Option.some.inj H
     go_enter Tryd.func17, Tryd.ntmps17
     go_wp2_with (first | ((with_reducible refine gate_dst (N := 1) rfl ?_); (try (refine gate_guard (by rfl) ?_; dsimp only)); refine bxe 1 #[.int .i64 a0_0, .int .i64 a0_1, .int .i64 a0_2, .string a0_3, .bool a0_4, .int .i64 a0_5] 25 rfl rfl gr ?_; clear BX; intro gb579 w23 GE579 BX) | ((with_reducible refine gate_callee (f := 52) rfl ?_); refine goesL_ (some 29) rfl rfl Tryd.func52 kr rfl #[.string a0_3] rfl ga ?_; (with_reducible refine (whittleref2_plain.calls k a0_3 false _ A16.out).mono ?_); rintro e w' ⟨rfl, ⟨nd, rfl⟩⟩; refine ⟨_, rfl, ?_⟩))
     go_ret
     exact ⟨er2, bx_bl⟩
   ·rw [if_neg c15] at H
    have c15b0 : (a0_0 == 2) = false := beq_eq_false_iff_ne.mpr c15
    have c15b1 : (a0_0 != 2) = true := bne_iff_ne.mpr c15
    by_cases c25 : a0_0 = 3
    ·rw [if_pos c25] at H
     have c25b0 : (a0_0 == 3) = true := beq_iff_eq.mpr c25
     have c25b1 : (a0_0 != 3) = false := bne_eq_false_iff_eq.mpr c25
     clear c25
     obtain rfl := Option.some.inj H
     go_enter Tryd.func17, Tryd.ntmps17
     go_wp2_with (first | ((with_reducible refine gate_dst (N := 1) rfl ?_); (try (refine gate_guard (by rfl) ?_; dsimp only)); refine bxe 1 #[.int .i64 a0_0, .int .i64 a0_1, .int .i64 a0_2, .string a0_3, .bool a0_4, .int .i64 a0_5] 25 rfl rfl gr ?_; clear BX; intro gb579 w26 GE579 BX))
     go_ret
     exact ⟨er2, bx_bl⟩
    ·rw [if_neg c25] at H
     have c25b0 : (a0_0 == 3) = false := beq_eq_false_iff_ne.mpr c25
     have c25b1 : (a0_0 != 3) = true := bne_iff_ne.mpr c25
     by_cases c28 : a0_0 = 4
     ·rw [if_pos c28] at H
      have c28b0 : (a0_0 == 4) = true := beq_iff_eq.mpr c28
      have c28b1 : (a0_0 != 4) = false := bne_eq_false_iff_eq.mpr c28
      clear c28
      by_cases c29 : a0_5 ≥ 1
      ·rw [if_pos c29] at H
       have c29b0 : decide (1 ≤ a0_5) = true := decide_eq_true c29
       clear c29
       by_cases c30 : a0_5 ≤ 8
       ·rw [if_pos c30] at H
        have c30b0 : decide (a0_5 ≤ 8) = true := decide_eq_true c30
        clear c30
        obtain rfl := Option.some.inj H
        go_enter Tryd.func17, Tryd.ntmps17
        go_wp2_with (first | ((with_reducible refine gate_dst (N := 1) rfl ?_); (try (refine gate_guard (by rfl) ?_; dsimp only)); refine bxe 1 #[.int .i64 a0_0, .int .i64 a0_1, .int .i64 a0_2, .string a0_3, .bool a0_4, .int .i64 a0_5] 25 rfl rfl gr ?_; clear BX; intro gb579 w31 GE579 BX))
        go_ret
        exact ⟨er2, bx_bl⟩
       ·rw [if_neg c30] at H
        have c30b0 : decide (a0_5 ≤ 8) = false := decide_eq_false c30
        clear c30
        obtain rfl := Option.some.inj H
        go_enter Tryd.func17, Tryd.ntmps17
        go_wp2_with (first | ((with_reducible refine gate_dst (N := 1) rfl ?_); (try (refine gate_guard (by rfl) ?_; dsimp only)); refine bxe 1 #[.int .i64 a0_0, .int .i64 a0_1, .int .i64 a0_2, .string a0_3, .bool a0_4, .int .i64 a0_5] 25 rfl rfl gr ?_; clear BX; intro gb579 w33 GE579 BX))
        go_ret
        exact ⟨er2, bx_bl⟩
      ·rw [if_neg c29] at H
       have c29b0 : decide (1 ≤ a0_5) = false := decide_eq_false c29
       clear c29
       obtain rfl := Option.some.inj H
       go_enter Tryd.func17, Tryd.ntmps17
       go_wp2_with (first | ((with_reducible refine gate_dst (N := 1) rfl ?_); (try (refine gate_guard (by rfl) ?_; dsimp only)); refine bxe 1 #[.int .i64 a0_0, .int .i64 a0_1, .int .i64 a0_2, .string a0_3, .bool a0_4, .int .i64 a0_5] 25 rfl rfl gr ?_; clear BX; intro gb579 w35 GE579 BX))
       go_ret
       exact ⟨er2, bx_bl⟩
     ·rw [if_neg c28] at H
      have c28b0 : (a0_0 == 4) = false := beq_eq_false_iff_ne.mpr c28
      have c28b1 : (a0_0 != 4) = true := bne_iff_ne.mpr c28
      obtain rfl := Option.some.inj H
      go_enter Tryd.func17, Tryd.ntmps17
      go_wp2_with (first | ((with_reducible refine gate_dst (N := 1) rfl ?_); (try (refine gate_guard (by rfl) ?_; dsimp only)); refine bxe 1 #[.int .i64 a0_0, .int .i64 a0_1, .int .i64 a0_2, .string a0_3, .bool a0_4, .int .i64 a0_5] 25 rfl rfl gr ?_; clear BX; intro gb579 w37 GE579 BX))
      go_ret
      exact ⟨er2, bx_bl⟩
end
section
/-! ### whittleref2_Number: function 20 -/
def whittleref2_Number.f (k : Nat) (a0_0 : Int) (a0_1 : Int) : Option (Int × Int × Int × ByteArray × Bool × Int) := (whittleref1_Of.f k a0_0 a0_1).bind fun bt587 => (some (1, bt587.1, bt587.2, (⟨#[]⟩ : ByteArray), false, 0))
theorem whittleref2_Number.mono : ∀ a0 a1 k, LeO (whittleref2_Number.f k a0 a1) (whittleref2_Number.f (k + 1) a0 a1) := by
 intro a0 a1 k
 unfold whittleref2_Number.f
 repeat' first
   | (with_reducible exact whittleref1_Of.mono _ _ _)
   | (with_reducible exact LeO.refl _)
   | (with_reducible exact LeO.none _)
   | (with_reducible refine LeO.ite ?_ ?_)
   | (with_reducible refine LeO.bind ?_ (fun _ => ?_))
   | exact whittleref1_Of.mono _ _ _
   | exact LeO.none _
   | refine LeO.ite ?_ ?_
   | refine LeO.bind ?_ (fun _ => ?_)
set_option maxHeartbeats 8000000 in
set_option maxRecDepth 100000 in
theorem whittleref2_Number.calls (k : Nat) (a0_0 : Int) (a0_1 : Int) (r1 : Int) (r2 : Int) (r3 : Int) (r4 : ByteArray) (r5 : Bool) (r6 : Int) (w : World) (h : whittleref2_Number.f k a0_0 a0_1 = some (r1, r2, r3, r4, r5, r6)) :
  Calls Tryd.prog 20 #[.agg #[.int .i64 a0_0, .int .i64 a0_1]] w fun e w' => e = .returned (.agg #[.int .i64 r1, .int .i64 r2, .int .i64 r3, .string r4, .bool r5, .int .i64 r6]) ∧ Below w.heap.size w w' := by
 have hu23 := Tryd.underlying23
 have hu25 := Tryd.underlying25
 have BX := Bx.start w
 have H : ((whittleref1_Of.f k a0_0 a0_1).bind fun bt587 => (some (1, bt587.1, bt587.2, (⟨#[]⟩ : ByteArray), false, 0))) = some (r1, r2, r3, r4, r5, r6) := h
 clear h
 replace H := Option.bind_eq_some_iff.mp H
 obtain ⟨⟨t587, t588⟩, A20, H⟩ := H
 replace H : (some (1, t587, t588, (⟨#[]⟩ : ByteArray), false, 0)) = some (r1, r2, r3, r4, r5, r6) := H
 have A2 := Aside0.mk A20
 clear A20
 simp only [Option.some.injEq, Prod.mk.injEq] at H
 obtain ⟨rfl, rfl, rfl, rfl, rfl, rfl⟩ := H
 go_enter Tryd.func20, Tryd.ntmps20
 go_wp2_with (first | ((with_reducible refine gate_dst (N := 1) rfl ?_); refine bxe 1 #[.int .i64 a0_0, .int .i64 a0_1] 23 rfl rfl gr ?_; clear BX; intro gb585 w3 GE585 BX) | ((with_reducible refine gate_dst (N := 2) rfl ?_); refine bxe 2 #[.int .i64 0, .int .i64 0, .int .i64 0, .string (⟨#[]⟩ : ByteArray), .bool false, .int .i64 0] 25 rfl rfl gr ?_; clear BX; intro gb586 w4 GE586 BX) | ((with_reducible refine gate_callee (f := 53) rfl ?_); refine goesL_ (some 4) rfl rfl Tryd.func53 kr rfl #[.agg #[.int .i64 a0_0, .int .i64 a0_1]] rfl ga ?_; (with_reducible refine (whittleref1_Of.calls k a0_0 a0_1 t587 t588 _ A2.out).mono ?_); rintro e w7 ⟨rfl, hb⟩; refine ⟨_, rfl, ?_⟩; replace BX := bx_call hb; clear hb))
 refine bodyPost_ret (results_cell_row rfl _ _ gb586 25 #[.int .i64 1, .int .i64 t587, .int .i64 t588, .string (⟨#[]⟩ : ByteArray), .bool false, .int .i64 0] (0, 0) _ rfl bx_get Tryd.underlying25 rfl kr) rfl ?_
 exact ⟨er2, bx_bl⟩
end
section
/-! ### whittleref2_Fault: function 26 -/
def whittleref2_Fault.f (a0 : Int) : Option (Int × Int × Int × ByteArray × Bool × Int) := if a0 < 1 then (some (4, 0, 0, (⟨#[]⟩ : ByteArray), false, 2)) else (if a0 > 8 then (some (4, 0, 0, (⟨#[]⟩ : ByteArray), false, 2)) else (some (4, 0, 0, (⟨#[]⟩ : ByteArray), false, a0)))
set_option maxHeartbeats 8000000 in
set_option maxRecDepth 100000 in
theorem whittleref2_Fault.calls (a0 : Int) (r1 : Int) (r2 : Int) (r3 : Int) (r4 : ByteArray) (r5 : Bool) (r6 : Int) (w : World) (h : whittleref2_Fault.f a0 = some (r1, r2, r3, r4, r5, r6)) :
  Calls Tryd.prog 26 #[.int .i64 a0] w fun e w' => e = .returned (.agg #[.int .i64 r1, .int .i64 r2, .int .i64 r3, .string r4, .bool r5, .int .i64 r6]) ∧ Below w.heap.size w w' := by
 have hu25 := Tryd.underlying25
 have BX := Bx.start w
 have H : (if a0 < 1 then (some (4, 0, 0, (⟨#[]⟩ : ByteArray), false, 2)) else (if a0 > 8 then (some (4, 0, 0, (⟨#[]⟩ : ByteArray), false, 2)) else (some (4, 0, 0, (⟨#[]⟩ : ByteArray), false, a0)))) = some (r1, r2, r3, r4, r5, r6) := h
 clear h
 by_cases c2 : a0 < 1
 ·rw [if_pos c2] at H
  have c2b0 : decide (a0 < 1) = true := decide_eq_true c2
  clear c2
  simp only [Option.some.injEq, Prod.mk.injEq] at H
  obtain ⟨rfl, rfl, rfl, rfl, rfl, rfl⟩ := H
  go_enter Tryd.func26, Tryd.ntmps26
  go_wp2_with (first | ((with_reducible refine gate_dst (N := 2) rfl ?_); refine bxe 2 #[.int .i64 0, .int .i64 0, .int .i64 0, .string (⟨#[]⟩ : ByteArray), .bool false, .int .i64 0] 25 rfl rfl gr ?_; clear BX; intro gb589 w3 GE589 BX))
  refine bodyPost_ret (results_cell_row rfl _ _ gb589 25 #[.int .i64 4, .int .i64 0, .int .i64 0, .string (⟨#[]⟩ : ByteArray), .bool false, .int .i64 2] (0, 0) _ rfl bx_get Tryd.underlying25 rfl kr) rfl ?_
  exact ⟨er2, bx_bl⟩
 ·rw [if_neg c2] at H
  have c2b0 : decide (a0 < 1) = false := decide_eq_false c2
  clear c2
  by_cases c5 : a0 > 8
  ·rw [if_pos c5] at H
   have c5b0 : decide (8 < a0) = true := decide_eq_true c5
   clear c5
   simp only [Option.some.injEq, Prod.mk.injEq] at H
   obtain ⟨rfl, rfl, rfl, rfl, rfl, rfl⟩ := H
   go_enter Tryd.func26, Tryd.ntmps26
   go_wp2_with (first | ((with_reducible refine gate_dst (N := 2) rfl ?_); refine bxe 2 #[.int .i64 0, .int .i64 0, .int .i64 0, .string (⟨#[]⟩ : ByteArray), .bool false, .int .i64 0] 25 rfl rfl gr ?_; clear BX; intro gb589 w6 GE589 BX))
   refine bodyPost_ret (results_cell_row rfl _ _ gb589 25 #[.int .i64 4, .int .i64 0, .int .i64 0, .string (⟨#[]⟩ : ByteArray), .bool false, .int .i64 2] (0, 0) _ rfl bx_get Tryd.underlying25 rfl kr) rfl ?_
   exact ⟨er2, bx_bl⟩
  ·rw [if_neg c5] at H
   have c5b0 : decide (8 < a0) = false := decide_eq_false c5
   clear c5
   simp only [Option.some.injEq, Prod.mk.injEq] at H
   obtain ⟨rfl, rfl, rfl, rfl, rfl, rfl⟩ := H
   go_enter Tryd.func26, Tryd.ntmps26
   go_wp2_with (first | ((with_reducible refine gate_dst (N := 2) rfl ?_); refine bxe 2 #[.int .i64 0, .int .i64 0, .int .i64 0, .string (⟨#[]⟩ : ByteArray), .bool false, .int .i64 0] 25 rfl rfl gr ?_; clear BX; intro gb589 w8 GE589 BX))
   refine bodyPost_ret (results_cell_row rfl _ _ gb589 25 #[.int .i64 4, .int .i64 0, .int .i64 0, .string (⟨#[]⟩ : ByteArray), .bool false, .int .i64 a0] (0, 0) _ rfl bx_get Tryd.underlying25 rfl kr) rfl ?_
   exact ⟨er2, bx_bl⟩
end
section
/-! ### whittleref2_Text: function 22 -/
def whittleref2_Text.f (k : Nat) (a0 : ByteArray) : Option (Int × Int × Int × ByteArray × Bool × Int) := (whittleref2_plain.f k a0).bind fun t591 => (if t591 = true then (if (a0.size : Int) > 256 then ((whittleref2_Fault.f 7).bind fun bt592 => (some (bt592.1, bt592.2.1, bt592.2.2.1, bt592.2.2.2.1, bt592.2.2.2.2.1, bt592.2.2.2.2.2))) else (some (2, 0, 0, a0, false, 0))) else ((whittleref2_Fault.f 2).bind fun bt598 => (some (bt598.1, bt598.2.1, bt598.2.2.1, bt598.2.2.2.1, bt598.2.2.2.2.1, bt598.2.2.2.2.2))))
theorem whittleref2_Text.mono : ∀ a0 k, LeO (whittleref2_Text.f k a0) (whittleref2_Text.f (k + 1) a0) := by
 intro a0 k
 unfold whittleref2_Text.f
 repeat' first
   | (with_reducible exact whittleref2_plain.mono _ _)
   | (with_reducible exact LeO.refl _)
   | (with_reducible exact LeO.none _)
   | (with_reducible refine LeO.ite ?_ ?_)
   | (with_reducible refine LeO.bind ?_ (fun _ => ?_))
   | exact whittleref2_plain.mono _ _
   | exact LeO.none _
   | refine LeO.ite ?_ ?_
   | refine LeO.bind ?_ (fun _ => ?_)
set_option maxHeartbeats 8000000 in
set_option maxRecDepth 100000 in
theorem whittleref2_Text.calls (k : Nat) (a0 : ByteArray) (r1 : Int) (r2 : Int) (r3 : Int) (r4 : ByteArray) (r5 : Bool) (r6 : Int) (w : World) (h : whittleref2_Text.f k a0 = some (r1, r2, r3, r4, r5, r6)) :
  Calls Tryd.prog 22 #[.string a0] w fun e w' => e = .returned (.agg #[.int .i64 r1, .int .i64 r2, .int .i64 r3, .string r4, .bool r5, .int .i64 r6]) ∧ Below w.heap.size w w' := by
 have hu25 := Tryd.underlying25
 have BX := Bx.start w
 have H : ((whittleref2_plain.f k a0).bind fun t591 => (if t591 = true then (if (a0.size : Int) > 256 then ((whittleref2_Fault.f 7).bind fun bt592 => (some (bt592.1, bt592.2.1, bt592.2.2.1, bt592.2.2.2.1, bt592.2.2.2.2.1, bt592.2.2.2.2.2))) else (some (2, 0, 0, a0, false, 0))) else ((whittleref2_Fault.f 2).bind fun bt598 => (some (bt598.1, bt598.2.1, bt598.2.2.1, bt598.2.2.2.1, bt598.2.2.2.2.1, bt598.2.2.2.2.2))))) = some (r1, r2, r3, r4, r5, r6) := h
 clear h
 replace H := Option.bind_eq_some_iff.mp H
 obtain ⟨t591, A20, H⟩ := H
 replace H : (if t591 = true then (if (a0.size : Int) > 256 then ((whittleref2_Fault.f 7).bind fun bt592 => (some (bt592.1, bt592.2.1, bt592.2.2.1, bt592.2.2.2.1, bt592.2.2.2.2.1, bt592.2.2.2.2.2))) else (some (2, 0, 0, a0, false, 0))) else ((whittleref2_Fault.f 2).bind fun bt598 => (some (bt598.1, bt598.2.1, bt598.2.2.1, bt598.2.2.2.1, bt598.2.2.2.2.1, bt598.2.2.2.2.2)))) = some (r1, r2, r3, r4, r5, r6) := H
 have A2 := Aside0.mk A20
 clear A20
 by_cases c3 : t591 = true
 ·subst c3
  have H1 : (if (a0.size : Int) > 256 then ((whittleref2_Fault.f 7).bind fun bt592 => (some (bt592.1, bt592.2.1, bt592.2.2.1, bt592.2.2.2.1, bt592.2.2.2.2.1, bt592.2.2.2.2.2))) else (some (2, 0, 0, a0, false, 0))) = some (r1, r2, r3, r4, r5, r6) := by rw [if_pos rfl] at H; exact H
  clear H
  have H := H1
  clear H1
  by_cases c4 : (a0.size : Int) > 256
  ·rw [if_pos c4] at H
   have c4b0 : decide (256 < (a0.size : Int)) = true := decide_eq_true c4
   have c4b1 : decide (256 < a0.size) = true := decide_eq_true (by omega)
   clear c4
   replace H := Option.bind_eq_some_iff.mp H
   obtain ⟨⟨t592, t593, t594, t595, t596, t597⟩, A50, H⟩ := H
   replace H : (some (t592, t593, t594, t595, t596, t597)) = some (r1, r2, r3, r4, r5, r6) := H
   have A5 := Aside0.mk A50
   clear A50
   simp only [Option.some.injEq, Prod.mk.injEq] at H
   obtain ⟨rfl, rfl, rfl, rfl, rfl, rfl⟩ := H
   go_enter Tryd.func22, Tryd.ntmps22
   go_wp2_with (first | ((with_reducible refine gate_dst (N := 2) rfl ?_); refine bxe 2 #[.int .i64 0, .int .i64 0, .int .i64 0, .string (⟨#[]⟩ : ByteArray), .bool false, .int .i64 0] 25 rfl rfl gr ?_; clear BX; intro gb590 w6 GE590 BX) | ((with_reducible refine gate_callee (f := 52) rfl ?_); refine goesL_ (some 5) rfl rfl Tryd.func52 kr rfl #[.string a0] rfl ga ?_; (with_reducible refine (whittleref2_plain.calls k a0 true _ A2.out).mono ?_); rintro e w' ⟨rfl, ⟨nd, rfl⟩⟩; refine ⟨_, rfl, ?_⟩) | ((with_reducible refine gate_callee (f := 26) rfl ?_); refine goesL_ (some 12) rfl rfl Tryd.func26 kr rfl #[.int .i64 7] rfl ga ?_; (with_reducible refine (whittleref2_Fault.calls 7 t592 t593 t594 t595 t596 t597 _ A5.out).mono ?_); rintro e w8 ⟨rfl, hb⟩; refine ⟨_, rfl, ?_⟩; replace BX := bx_call hb; clear hb))
   refine bodyPost_ret (results_cell_row rfl _ _ gb590 25 #[.int .i64 t592, .int .i64 t593, .int .i64 t594, .string t595, .bool t596, .int .i64 t597] (0, 0) _ rfl bx_get Tryd.underlying25 rfl kr) rfl ?_
   exact ⟨er2, bx_bl⟩
  ·rw [if_neg c4] at H
   have c4b0 : decide (256 < (a0.size : Int)) = false := decide_eq_false c4
   have c4b1 : decide (256 < a0.size) = false := decide_eq_false (by omega)
   clear c4
   simp only [Option.some.injEq, Prod.mk.injEq] at H
   obtain ⟨rfl, rfl, rfl, rfl, rfl, rfl⟩ := H
   go_enter Tryd.func22, Tryd.ntmps22
   go_wp2_with (first | ((with_reducible refine gate_dst (N := 2) rfl ?_); refine bxe 2 #[.int .i64 0, .int .i64 0, .int .i64 0, .string (⟨#[]⟩ : ByteArray), .bool false, .int .i64 0] 25 rfl rfl gr ?_; clear BX; intro gb590 w10 GE590 BX) | ((with_reducible refine gate_callee (f := 52) rfl ?_); refine goesL_ (some 5) rfl rfl Tryd.func52 kr rfl #[.string a0] rfl ga ?_; (with_reducible refine (whittleref2_plain.calls k a0 true _ A2.out).mono ?_); rintro e w' ⟨rfl, ⟨nd, rfl⟩⟩; refine ⟨_, rfl, ?_⟩))
   refine bodyPost_ret (results_cell_row rfl _ _ gb590 25 #[.int .i64 2, .int .i64 0, .int .i64 0, .string a0, .bool false, .int .i64 0] (0, 0) _ rfl bx_get Tryd.underlying25 rfl kr) rfl ?_
   exact ⟨er2, bx_bl⟩
 ·replace c3 := Bool.eq_false_iff.mpr c3
  subst c3
  have H1 : ((whittleref2_Fault.f 2).bind fun bt598 => (some (bt598.1, bt598.2.1, bt598.2.2.1, bt598.2.2.2.1, bt598.2.2.2.2.1, bt598.2.2.2.2.2))) = some (r1, r2, r3, r4, r5, r6) := by rw [if_neg (show ¬ (false = true) by decide)] at H; exact H
  clear H
  have H := H1
  clear H1
  replace H := Option.bind_eq_some_iff.mp H
  obtain ⟨⟨t598, t599, t600, t601, t602, t603⟩, A130, H⟩ := H
  replace H : (some (t598, t599, t600, t601, t602, t603)) = some (r1, r2, r3, r4, r5, r6) := H
  have A13 := Aside0.mk A130
  clear A130
  simp only [Option.some.injEq, Prod.mk.injEq] at H
  obtain ⟨rfl, rfl, rfl, rfl, rfl, rfl⟩ := H
  go_enter Tryd.func22, Tryd.ntmps22
  go_wp2_with (first | ((with_reducible refine gate_dst (N := 2) rfl ?_); refine bxe 2 #[.int .i64 0, .int .i64 0, .int .i64 0, .string (⟨#[]⟩ : ByteArray), .bool false, .int .i64 0] 25 rfl rfl gr ?_; clear BX; intro gb590 w14 GE590 BX) | ((with_reducible refine gate_callee (f := 52) rfl ?_); refine goesL_ (some 5) rfl rfl Tryd.func52 kr rfl #[.string a0] rfl ga ?_; (with_reducible refine (whittleref2_plain.calls k a0 false _ A2.out).mono ?_); rintro e w' ⟨rfl, ⟨nd, rfl⟩⟩; refine ⟨_, rfl, ?_⟩) | ((with_reducible refine gate_callee (f := 26) rfl ?_); refine goesL_ (some 8) rfl rfl Tryd.func26 kr rfl #[.int .i64 2] rfl ga ?_; (with_reducible refine (whittleref2_Fault.calls 2 t598 t599 t600 t601 t602 t603 _ A13.out).mono ?_); rintro e w16 ⟨rfl, hb⟩; refine ⟨_, rfl, ?_⟩; replace BX := bx_call hb; clear hb))
  refine bodyPost_ret (results_cell_row rfl _ _ gb590 25 #[.int .i64 t598, .int .i64 t599, .int .i64 t600, .string t601, .bool t602, .int .i64 t603] (0, 0) _ rfl bx_get Tryd.underlying25 rfl kr) rfl ?_
  exact ⟨er2, bx_bl⟩
end
section
/-! ### whittleref2_Truth: function 24 -/
def whittleref2_Truth.f (a0 : Bool) : Option (Int × Int × Int × ByteArray × Bool × Int) := some (3, 0, 0, (⟨#[]⟩ : ByteArray), a0, 0)
set_option maxHeartbeats 8000000 in
set_option maxRecDepth 100000 in
theorem whittleref2_Truth.calls (a0 : Bool) (r1 : Int) (r2 : Int) (r3 : Int) (r4 : ByteArray) (r5 : Bool) (r6 : Int) (w : World) (h : whittleref2_Truth.f a0 = some (r1, r2, r3, r4, r5, r6)) :
  Calls Tryd.prog 24 #[.bool a0] w fun e w' => e = .returned (.agg #[.int .i64 r1, .int .i64 r2, .int .i64 r3, .string r4, .bool r5, .int .i64 r6]) ∧ Below w.heap.size w w' := by
 have hu25 := Tryd.underlying25
 have BX := Bx.start w
 have H : (some (3, 0, 0, (⟨#[]⟩ : ByteArray), a0, 0)) = some (r1, r2, r3, r4, r5, r6) := h
 clear h
 simp only [Option.some.injEq, Prod.mk.injEq] at H
 obtain ⟨rfl, rfl, rfl, rfl, rfl, rfl⟩ := H
 go_enter Tryd.func24, Tryd.ntmps24
 go_wp2_with (first | ((with_reducible refine gate_dst (N := 2) rfl ?_); refine bxe 2 #[.int .i64 0, .int .i64 0, .int .i64 0, .string (⟨#[]⟩ : ByteArray), .bool false, .int .i64 0] 25 rfl rfl gr ?_; clear BX; intro gb604 w2 GE604 BX))
 refine bodyPost_ret (results_cell_row rfl _ _ gb604 25 #[.int .i64 3, .int .i64 0, .int .i64 0, .string (⟨#[]⟩ : ByteArray), .bool a0, .int .i64 0] (0, 0) _ rfl bx_get Tryd.underlying25 rfl kr) rfl ?_
 exact ⟨er2, bx_bl⟩
end
section
/-! ### whittleref2_Of: function 60 -/
def whittleref2_Of.f (k : Nat) (a0_0 : Int) (a0_1 : Int) (a0_2 : Int) (a0_3 : ByteArray) (a0_4 : Bool) (a0_5 : Int) : Option (Int × Int × Int × ByteArray × Bool × Int) := (whittleref2_Right.f k a0_0 a0_1 a0_2 a0_3 a0_4 a0_5).bind fun t761 => (if t761 = true then (some (a0_0, a0_1, a0_2, a0_3, a0_4, a0_5)) else (some (4, 0, 0, (⟨#[]⟩ : ByteArray), false, 2)))
theorem whittleref2_Of.mono : ∀ a0 a1 a2 a3 a4 a5 k, LeO (whittleref2_Of.f k a0 a1 a2 a3 a4 a5) (whittleref2_Of.f (k + 1) a0 a1 a2 a3 a4 a5) := by
 intro a0 a1 a2 a3 a4 a5 k
 unfold whittleref2_Of.f
 repeat' first
   | (with_reducible exact whittleref2_Right.mono _ _ _ _ _ _ _)
   | (with_reducible exact LeO.refl _)
   | (with_reducible exact LeO.none _)
   | (with_reducible refine LeO.ite ?_ ?_)
   | (with_reducible refine LeO.bind ?_ (fun _ => ?_))
   | exact whittleref2_Right.mono _ _ _ _ _ _ _
   | exact LeO.none _
   | refine LeO.ite ?_ ?_
   | refine LeO.bind ?_ (fun _ => ?_)
set_option maxHeartbeats 8000000 in
set_option maxRecDepth 100000 in
theorem whittleref2_Of.calls (k : Nat) (a0_0 : Int) (a0_1 : Int) (a0_2 : Int) (a0_3 : ByteArray) (a0_4 : Bool) (a0_5 : Int) (r1 : Int) (r2 : Int) (r3 : Int) (r4 : ByteArray) (r5 : Bool) (r6 : Int) (w : World) (h : whittleref2_Of.f k a0_0 a0_1 a0_2 a0_3 a0_4 a0_5 = some (r1, r2, r3, r4, r5, r6)) :
  Calls Tryd.prog 60 #[.agg #[.int .i64 a0_0, .int .i64 a0_1, .int .i64 a0_2, .string a0_3, .bool a0_4, .int .i64 a0_5]] w fun e w' => e = .returned (.agg #[.int .i64 r1, .int .i64 r2, .int .i64 r3, .string r4, .bool r5, .int .i64 r6]) ∧ Below w.heap.size w w' := by
 have hu25 := Tryd.underlying25
 have BX := Bx.start w
 have H : ((whittleref2_Right.f k a0_0 a0_1 a0_2 a0_3 a0_4 a0_5).bind fun t761 => (if t761 = true then (some (a0_0, a0_1, a0_2, a0_3, a0_4, a0_5)) else (some (4, 0, 0, (⟨#[]⟩ : ByteArray), false, 2)))) = some (r1, r2, r3, r4, r5, r6) := h
 clear h
 replace H := Option.bind_eq_some_iff.mp H
 obtain ⟨t761, A20, H⟩ := H
 replace H : (if t761 = true then (some (a0_0, a0_1, a0_2, a0_3, a0_4, a0_5)) else (some (4, 0, 0, (⟨#[]⟩ : ByteArray), false, 2))) = some (r1, r2, r3, r4, r5, r6) := H
 have A2 := Aside0.mk A20
 clear A20
 by_cases c3 : t761 = true
 ·subst c3
  have H1 : (some (a0_0, a0_1, a0_2, a0_3, a0_4, a0_5)) = some (r1, r2, r3, r4, r5, r6) := by rw [if_pos rfl] at H; exact H
  clear H
  have H := H1
  clear H1
  simp only [Option.some.injEq, Prod.mk.injEq] at H
  obtain ⟨rfl, rfl, rfl, rfl, rfl, rfl⟩ := H
  go_enter Tryd.func60, Tryd.ntmps60
  go_wp2_with (first | ((with_reducible refine gate_dst (N := 1) rfl ?_); refine bxe 1 #[.int .i64 a0_0, .int .i64 a0_1, .int .i64 a0_2, .string a0_3, .bool a0_4, .int .i64 a0_5] 25 rfl rfl gr ?_; clear BX; intro gb759 w4 GE759 BX) | ((with_reducible refine gate_dst (N := 2) rfl ?_); refine bxe 2 #[.int .i64 0, .int .i64 0, .int .i64 0, .string (⟨#[]⟩ : ByteArray), .bool false, .int .i64 0] 25 rfl rfl gr ?_; clear BX; intro gb760 w5 GE760 BX) | ((with_reducible refine gate_callee (f := 17) rfl ?_); refine goesL_ (some 5) rfl rfl Tryd.func17 kr rfl #[.agg #[.int .i64 a0_0, .int .i64 a0_1, .int .i64 a0_2, .string a0_3, .bool a0_4, .int .i64 a0_5]] rfl ga ?_; (with_reducible refine (whittleref2_Right.calls k a0_0 a0_1 a0_2 a0_3 a0_4 a0_5 true _ A2.out).mono ?_); rintro e w8 ⟨rfl, hb⟩; refine ⟨_, rfl, ?_⟩; replace BX := bx_call hb; clear hb))
  refine bodyPost_ret (results_cell_row rfl _ _ gb760 25 #[.int .i64 a0_0, .int .i64 a0_1, .int .i64 a0_2, .string a0_3, .bool a0_4, .int .i64 a0_5] (0, 0) _ rfl bx_get Tryd.underlying25 rfl kr) rfl ?_
  exact ⟨er2, bx_bl⟩
 ·replace c3 := Bool.eq_false_iff.mpr c3
  subst c3
  have H1 : (some (4, 0, 0, (⟨#[]⟩ : ByteArray), false, 2)) = some (r1, r2, r3, r4, r5, r6) := by rw [if_neg (show ¬ (false = true) by decide)] at H; exact H
  clear H
  have H := H1
  clear H1
  simp only [Option.some.injEq, Prod.mk.injEq] at H
  obtain ⟨rfl, rfl, rfl, rfl, rfl, rfl⟩ := H
  go_enter Tryd.func60, Tryd.ntmps60
  go_wp2_with (first | ((with_reducible refine gate_dst (N := 1) rfl ?_); refine bxe 1 #[.int .i64 a0_0, .int .i64 a0_1, .int .i64 a0_2, .string a0_3, .bool a0_4, .int .i64 a0_5] 25 rfl rfl gr ?_; clear BX; intro gb759 w11 GE759 BX) | ((with_reducible refine gate_dst (N := 2) rfl ?_); refine bxe 2 #[.int .i64 0, .int .i64 0, .int .i64 0, .string (⟨#[]⟩ : ByteArray), .bool false, .int .i64 0] 25 rfl rfl gr ?_; clear BX; intro gb760 w12 GE760 BX) | ((with_reducible refine gate_callee (f := 17) rfl ?_); refine goesL_ (some 5) rfl rfl Tryd.func17 kr rfl #[.agg #[.int .i64 a0_0, .int .i64 a0_1, .int .i64 a0_2, .string a0_3, .bool a0_4, .int .i64 a0_5]] rfl ga ?_; (with_reducible refine (whittleref2_Right.calls k a0_0 a0_1 a0_2 a0_3 a0_4 a0_5 false _ A2.out).mono ?_); rintro e w15 ⟨rfl, hb⟩; refine ⟨_, rfl, ?_⟩; replace BX := bx_call hb; clear hb))
  refine bodyPost_ret (results_cell_row rfl _ _ gb760 25 #[.int .i64 4, .int .i64 0, .int .i64 0, .string (⟨#[]⟩ : ByteArray), .bool false, .int .i64 2] (0, 0) _ rfl bx_get Tryd.underlying25 rfl kr) rfl ?_
  exact ⟨er2, bx_bl⟩
end
section
/-! ### whittleref2_truth: function 62 -/
def whittleref2_truth.f (a0 : Bool) : Option (ByteArray) := if a0 = true then (some (⟨#[84, 82, 85, 69]⟩ : ByteArray)) else (some (⟨#[70, 65, 76, 83, 69]⟩ : ByteArray))
set_option maxHeartbeats 8000000 in
set_option maxRecDepth 100000 in
theorem whittleref2_truth.calls (a0 : Bool) (r : ByteArray) (w : World) (h : whittleref2_truth.f a0 = some r) :
  Calls Tryd.prog 62 #[.bool a0] w fun e w' => e = .returned (.string r) ∧ Drawn0 w w' := by
 have H : (if a0 = true then (some (⟨#[84, 82, 85, 69]⟩ : ByteArray)) else (some (⟨#[70, 65, 76, 83, 69]⟩ : ByteArray))) = some r := h
 clear h
 by_cases c2 : a0 = true
 ·subst c2
  have H1 : (some (⟨#[84, 82, 85, 69]⟩ : ByteArray)) = some r := by rw [if_pos rfl] at H; exact H
  clear H
  have H := H1
  clear H1
  obtain rfl := Option.some.inj H
  go_enter Tryd.func62, Tryd.ntmps62
  go_wp2
  go_ret
  exact ⟨er, dr⟩
 ·replace c2 := Bool.eq_false_iff.mpr c2
  subst c2
  have H1 : (some (⟨#[70, 65, 76, 83, 69]⟩ : ByteArray)) = some r := by rw [if_neg (show ¬ (false = true) by decide)] at H; exact H
  clear H
  have H := H1
  clear H1
  obtain rfl := Option.some.inj H
  go_enter Tryd.func62, Tryd.ntmps62
  go_wp2
  go_ret
  exact ⟨er, dr⟩
end
section
/-! ### whittleref2_AsNumber: function 38 -/
def whittleref2_AsNumber.f (k : Nat) (a0_0 : Int) (a0_1 : Int) (a0_2 : Int) (a0_3 : ByteArray) (a0_4 : Bool) (a0_5 : Int) : Option (Int × Int × Int × Int × Int × ByteArray × Bool × Int) := (whittleref2_Of.f k a0_0 a0_1 a0_2 a0_3 a0_4 a0_5).bind fun bt1065 => (if bt1065.1 = 1 then (some (bt1065.2.1, bt1065.2.2.1, 0, 0, 0, (⟨#[]⟩ : ByteArray), false, 0)) else (if bt1065.1 = 2 then ((whittleref1_Read.f k bt1065.2.2.2.1).bind fun bt1071 => (if bt1071.2.2 = true then (some (bt1071.1, bt1071.2.1, 0, 0, 0, (⟨#[]⟩ : ByteArray), false, 0)) else ((whittleref2_Fault.f 2).bind fun bt1075 => (some (0, 0, bt1075.1, bt1075.2.1, bt1075.2.2.1, bt1075.2.2.2.1, bt1075.2.2.2.2.1, bt1075.2.2.2.2.2))))) else (if bt1065.1 = 3 then (if bt1065.2.2.2.2.1 = true then (some (1, 1, 0, 0, 0, (⟨#[]⟩ : ByteArray), false, 0)) else (some (0, 1, 0, 0, 0, (⟨#[]⟩ : ByteArray), false, 0))) else (if bt1065.1 = 4 then (some (0, 0, bt1065.1, bt1065.2.1, bt1065.2.2.1, bt1065.2.2.2.1, bt1065.2.2.2.2.1, bt1065.2.2.2.2.2)) else (some (0, 1, 0, 0, 0, (⟨#[]⟩ : ByteArray), false, 0))))))
theorem whittleref2_AsNumber.mono : ∀ a0 a1 a2 a3 a4 a5 k, LeO (whittleref2_AsNumber.f k a0 a1 a2 a3 a4 a5) (whittleref2_AsNumber.f (k + 1) a0 a1 a2 a3 a4 a5) := by
 intro a0 a1 a2 a3 a4 a5 k
 unfold whittleref2_AsNumber.f
 repeat' first
   | (with_reducible exact whittleref1_Read.mono _ _)
   | (with_reducible exact whittleref2_Of.mono _ _ _ _ _ _ _)
   | (with_reducible exact LeO.refl _)
   | (with_reducible exact LeO.none _)
   | (with_reducible refine LeO.ite ?_ ?_)
   | (with_reducible refine LeO.bind ?_ (fun _ => ?_))
   | exact whittleref1_Read.mono _ _
   | exact whittleref2_Of.mono _ _ _ _ _ _ _
   | exact LeO.none _
   | refine LeO.ite ?_ ?_
   | refine LeO.bind ?_ (fun _ => ?_)
set_option maxHeartbeats 8000000 in
set_option maxRecDepth 100000 in
theorem whittleref2_AsNumber.calls (k : Nat) (a0_0 : Int) (a0_1 : Int) (a0_2 : Int) (a0_3 : ByteArray) (a0_4 : Bool) (a0_5 : Int) (r1 : Int) (r2 : Int) (r3 : Int) (r4 : Int) (r5 : Int) (r6 : ByteArray) (r7 : Bool) (r8 : Int) (w : World) (h : whittleref2_AsNumber.f k a0_0 a0_1 a0_2 a0_3 a0_4 a0_5 = some (r1, r2, r3, r4, r5, r6, r7, r8)) :
  Calls Tryd.prog 38 #[.agg #[.int .i64 a0_0, .int .i64 a0_1, .int .i64 a0_2, .string a0_3, .bool a0_4, .int .i64 a0_5]] w fun e w' => e = .returned (.tuple #[.agg #[.int .i64 r1, .int .i64 r2], .agg #[.int .i64 r3, .int .i64 r4, .int .i64 r5, .string r6, .bool r7, .int .i64 r8]]) ∧ Below w.heap.size w w' := by
 have hu25 := Tryd.underlying25
 have hu23 := Tryd.underlying23
 have BX := Bx.start w
 have H : ((whittleref2_Of.f k a0_0 a0_1 a0_2 a0_3 a0_4 a0_5).bind fun bt1065 => (if bt1065.1 = 1 then (some (bt1065.2.1, bt1065.2.2.1, 0, 0, 0, (⟨#[]⟩ : ByteArray), false, 0)) else (if bt1065.1 = 2 then ((whittleref1_Read.f k bt1065.2.2.2.1).bind fun bt1071 => (if bt1071.2.2 = true then (some (bt1071.1, bt1071.2.1, 0, 0, 0, (⟨#[]⟩ : ByteArray), false, 0)) else ((whittleref2_Fault.f 2).bind fun bt1075 => (some (0, 0, bt1075.1, bt1075.2.1, bt1075.2.2.1, bt1075.2.2.2.1, bt1075.2.2.2.2.1, bt1075.2.2.2.2.2))))) else (if bt1065.1 = 3 then (if bt1065.2.2.2.2.1 = true then (some (1, 1, 0, 0, 0, (⟨#[]⟩ : ByteArray), false, 0)) else (some (0, 1, 0, 0, 0, (⟨#[]⟩ : ByteArray), false, 0))) else (if bt1065.1 = 4 then (some (0, 0, bt1065.1, bt1065.2.1, bt1065.2.2.1, bt1065.2.2.2.1, bt1065.2.2.2.2.1, bt1065.2.2.2.2.2)) else (some (0, 1, 0, 0, 0, (⟨#[]⟩ : ByteArray), false, 0))))))) = some (r1, r2, r3, r4, r5, r6, r7, r8) := h
 clear h
 replace H := Option.bind_eq_some_iff.mp H
 obtain ⟨⟨t1065, t1066, t1067, t1068, t1069, t1070⟩, A20, H⟩ := H
 replace H : (if t1065 = 1 then (some (t1066, t1067, 0, 0, 0, (⟨#[]⟩ : ByteArray), false, 0)) else (if t1065 = 2 then ((whittleref1_Read.f k t1068).bind fun bt1071 => (if bt1071.2.2 = true then (some (bt1071.1, bt1071.2.1, 0, 0, 0, (⟨#[]⟩ : ByteArray), false, 0)) else ((whittleref2_Fault.f 2).bind fun bt1075 => (some (0, 0, bt1075.1, bt1075.2.1, bt1075.2.2.1, bt1075.2.2.2.1, bt1075.2.2.2.2.1, bt1075.2.2.2.2.2))))) else (if t1065 = 3 then (if t1069 = true then (some (1, 1, 0, 0, 0, (⟨#[]⟩ : ByteArray), false, 0)) else (some (0, 1, 0, 0, 0, (⟨#[]⟩ : ByteArray), false, 0))) else (if t1065 = 4 then (some (0, 0, t1065, t1066, t1067, t1068, t1069, t1070)) else (some (0, 1, 0, 0, 0, (⟨#[]⟩ : ByteArray), false, 0)))))) = some (r1, r2, r3, r4, r5, r6, r7, r8) := H
 have A2 := Aside0.mk A20
 clear A20
 by_cases c3 : t1065 = 1
 ·rw [if_pos c3] at H
  have c3b0 : (t1065 == 1) = true := beq_iff_eq.mpr c3
  have c3b1 : (t1065 != 1) = false := bne_eq_false_iff_eq.mpr c3
  clear c3
  simp only [Option.some.injEq, Prod.mk.injEq] at H
  obtain ⟨rfl, rfl, rfl, rfl, rfl, rfl, rfl, rfl⟩ := H
  go_enter Tryd.func38, Tryd.ntmps38
  go_wp2_with (first | ((with_reducible refine gate_dst (N := 1) rfl ?_); refine bxe 1 #[.int .i64 a0_0, .int .i64 a0_1, .int .i64 a0_2, .string a0_3, .bool a0_4, .int .i64 a0_5] 25 rfl rfl gr ?_; clear BX; intro gb1062 w4 GE1062 BX) | ((with_reducible refine gate_dst (N := 2) rfl ?_); refine bxe 2 #[.int .i64 0, .int .i64 0] 23 rfl rfl gr ?_; clear BX; intro gb1063 w5 GE1063 BX) | ((with_reducible refine gate_dst (N := 3) rfl ?_); refine bxe 3 #[.int .i64 0, .int .i64 0, .int .i64 0, .string (⟨#[]⟩ : ByteArray), .bool false, .int .i64 0] 25 rfl rfl gr ?_; clear BX; intro gb1064 w6 GE1064 BX) | ((with_reducible refine gate_callee (f := 60) rfl ?_); refine goesL_ (some 7) rfl rfl Tryd.func60 kr rfl #[.agg #[.int .i64 a0_0, .int .i64 a0_1, .int .i64 a0_2, .string a0_3, .bool a0_4, .int .i64 a0_5]] rfl ga ?_; (with_reducible refine (whittleref2_Of.calls k a0_0 a0_1 a0_2 a0_3 a0_4 a0_5 t1065 t1066 t1067 t1068 t1069 t1070 _ A2.out).mono ?_); rintro e w10 ⟨rfl, hb⟩; refine ⟨_, rfl, ?_⟩; replace BX := bx_call hb; clear hb))
  refine bodyPost_ret (results_cc rfl _ _ gb1063 gb1064 23 25 #[.int .i64 t1066, .int .i64 t1067] #[.int .i64 0, .int .i64 0, .int .i64 0, .string (⟨#[]⟩ : ByteArray), .bool false, .int .i64 0] (0, 0) (0, 0) _ _ rfl bx_get Tryd.underlying23 rfl kr rfl bx_get Tryd.underlying25 rfl kr) rfl ?_
  exact ⟨er2, bx_bl⟩
 ·rw [if_neg c3] at H
  have c3b0 : (t1065 == 1) = false := beq_eq_false_iff_ne.mpr c3
  have c3b1 : (t1065 != 1) = true := bne_iff_ne.mpr c3
  by_cases c15 : t1065 = 2
  ·rw [if_pos c15] at H
   have c15b0 : (t1065 == 2) = true := beq_iff_eq.mpr c15
   have c15b1 : (t1065 != 2) = false := bne_eq_false_iff_eq.mpr c15
   clear c15
   replace H := Option.bind_eq_some_iff.mp H
   obtain ⟨⟨t1071, t1072, t1073⟩, A160, H⟩ := H
   replace H : (if t1073 = true then (some (t1071, t1072, 0, 0, 0, (⟨#[]⟩ : ByteArray), false, 0)) else ((whittleref2_Fault.f 2).bind fun bt1075 => (some (0, 0, bt1075.1, bt1075.2.1, bt1075.2.2.1, bt1075.2.2.2.1, bt1075.2.2.2.2.1, bt1075.2.2.2.2.2)))) = some (r1, r2, r3, r4, r5, r6, r7, r8) := H
   have A16 := Aside0.mk A160
   clear A160
   by_cases c17 : t1073 = true
   ·subst c17
    have H1 : (some (t1071, t1072, 0, 0, 0, (⟨#[]⟩ : ByteArray), false, 0)) = some (r1, r2, r3, r4, r5, r6, r7, r8) := by rw [if_pos rfl] at H; exact H
    clear H
    have H := H1
    clear H1
    simp only [Option.some.injEq, Prod.mk.injEq] at H
    obtain ⟨rfl, rfl, rfl, rfl, rfl, rfl, rfl, rfl⟩ := H
    go_enter Tryd.func38, Tryd.ntmps38
    go_wp2_with (first | ((with_reducible refine gate_dst (N := 1) rfl ?_); refine bxe 1 #[.int .i64 a0_0, .int .i64 a0_1, .int .i64 a0_2, .string a0_3, .bool a0_4, .int .i64 a0_5] 25 rfl rfl gr ?_; clear BX; intro gb1062 w18 GE1062 BX) | ((with_reducible refine gate_dst (N := 2) rfl ?_); refine bxe 2 #[.int .i64 0, .int .i64 0] 23 rfl rfl gr ?_; clear BX; intro gb1063 w19 GE1063 BX) | ((with_reducible refine gate_dst (N := 3) rfl ?_); refine bxe 3 #[.int .i64 0, .int .i64 0, .int .i64 0, .string (⟨#[]⟩ : ByteArray), .bool false, .int .i64 0] 25 rfl rfl gr ?_; clear BX; intro gb1064 w20 GE1064 BX) | ((with_reducible refine gate_callee (f := 60) rfl ?_); refine goesL_ (some 7) rfl rfl Tryd.func60 kr rfl #[.agg #[.int .i64 a0_0, .int .i64 a0_1, .int .i64 a0_2, .string a0_3, .bool a0_4, .int .i64 a0_5]] rfl ga ?_; (with_reducible refine (whittleref2_Of.calls k a0_0 a0_1 a0_2 a0_3 a0_4 a0_5 t1065 t1066 t1067 t1068 t1069 t1070 _ A2.out).mono ?_); rintro e w24 ⟨rfl, hb⟩; refine ⟨_, rfl, ?_⟩; replace BX := bx_call hb; clear hb) | ((with_reducible refine gate_callee (f := 57) rfl ?_); refine goesL_ (some 20) rfl rfl Tryd.func57 kr rfl #[.string t1068] rfl ga ?_; (with_reducible refine (whittleref1_Read.calls k t1068 t1071 t1072 true _ A16.out).mono ?_); rintro e w26 ⟨rfl, hb⟩; refine ⟨_, rfl, ?_⟩; replace BX := bx_call hb; clear hb) | ((with_reducible refine gate_dst (N := 4) rfl ?_); refine bxe 4 #[.int .i64 0, .int .i64 0] 23 rfl rfl gr ?_; clear BX; intro gb1074 w27 GE1074 BX))
    refine bodyPost_ret (results_cc rfl _ _ gb1063 gb1064 23 25 #[.int .i64 t1071, .int .i64 t1072] #[.int .i64 0, .int .i64 0, .int .i64 0, .string (⟨#[]⟩ : ByteArray), .bool false, .int .i64 0] (0, 0) (0, 0) _ _ rfl bx_get Tryd.underlying23 rfl kr rfl bx_get Tryd.underlying25 rfl kr) rfl ?_
    exact ⟨er2, bx_bl⟩
   ·replace c17 := Bool.eq_false_iff.mpr c17
    subst c17
    have H1 : ((whittleref2_Fault.f 2).bind fun bt1075 => (some (0, 0, bt1075.1, bt1075.2.1, bt1075.2.2.1, bt1075.2.2.2.1, bt1075.2.2.2.2.1, bt1075.2.2.2.2.2))) = some (r1, r2, r3, r4, r5, r6, r7, r8) := by rw [if_neg (show ¬ (false = true) by decide)] at H; exact H
    clear H
    have H := H1
    clear H1
    replace H := Option.bind_eq_some_iff.mp H
    obtain ⟨⟨t1075, t1076, t1077, t1078, t1079, t1080⟩, A350, H⟩ := H
    replace H : (some (0, 0, t1075, t1076, t1077, t1078, t1079, t1080)) = some (r1, r2, r3, r4, r5, r6, r7, r8) := H
    have A35 := Aside0.mk A350
    clear A350
    simp only [Option.some.injEq, Prod.mk.injEq] at H
    obtain ⟨rfl, rfl, rfl, rfl, rfl, rfl, rfl, rfl⟩ := H
    go_enter Tryd.func38, Tryd.ntmps38
    go_wp2_with (first | ((with_reducible refine gate_dst (N := 1) rfl ?_); refine bxe 1 #[.int .i64 a0_0, .int .i64 a0_1, .int .i64 a0_2, .string a0_3, .bool a0_4, .int .i64 a0_5] 25 rfl rfl gr ?_; clear BX; intro gb1062 w36 GE1062 BX) | ((with_reducible refine gate_dst (N := 2) rfl ?_); refine bxe 2 #[.int .i64 0, .int .i64 0] 23 rfl rfl gr ?_; clear BX; intro gb1063 w37 GE1063 BX) | ((with_reducible refine gate_dst (N := 3) rfl ?_); refine bxe 3 #[.int .i64 0, .int .i64 0, .int .i64 0, .string (⟨#[]⟩ : ByteArray), .bool false, .int .i64 0] 25 rfl rfl gr ?_; clear BX; intro gb1064 w38 GE1064 BX) | ((with_reducible refine gate_callee (f := 60) rfl ?_); refine goesL_ (some 7) rfl rfl Tryd.func60 kr rfl #[.agg #[.int .i64 a0_0, .int .i64 a0_1, .int .i64 a0_2, .string a0_3, .bool a0_4, .int .i64 a0_5]] rfl ga ?_; (with_reducible refine (whittleref2_Of.calls k a0_0 a0_1 a0_2 a0_3 a0_4 a0_5 t1065 t1066 t1067 t1068 t1069 t1070 _ A2.out).mono ?_); rintro e w42 ⟨rfl, hb⟩; refine ⟨_, rfl, ?_⟩; replace BX := bx_call hb; clear hb) | ((with_reducible refine gate_callee (f := 57) rfl ?_); refine goesL_ (some 20) rfl rfl Tryd.func57 kr rfl #[.string t1068] rfl ga ?_; (with_reducible refine (whittleref1_Read.calls k t1068 t1071 t1072 false _ A16.out).mono ?_); rintro e w44 ⟨rfl, hb⟩; refine ⟨_, rfl, ?_⟩; replace BX := bx_call hb; clear hb) | ((with_reducible refine gate_dst (N := 4) rfl ?_); refine bxe 4 #[.int .i64 0, .int .i64 0] 23 rfl rfl gr ?_; clear BX; intro gb1074 w45 GE1074 BX) | ((with_reducible refine gate_callee (f := 26) rfl ?_); refine goesL_ (some 27) rfl rfl Tryd.func26 kr rfl #[.int .i64 2] rfl ga ?_; (with_reducible refine (whittleref2_Fault.calls 2 t1075 t1076 t1077 t1078 t1079 t1080 _ A35.out).mono ?_); rintro e w50 ⟨rfl, hb⟩; refine ⟨_, rfl, ?_⟩; replace BX := bx_call hb; clear hb))
    refine bodyPost_ret (results_cc rfl _ _ gb1063 gb1064 23 25 #[.int .i64 0, .int .i64 0] #[.int .i64 t1075, .int .i64 t1076, .int .i64 t1077, .string t1078, .bool t1079, .int .i64 t1080] (0, 0) (0, 0) _ _ rfl bx_get Tryd.underlying23 rfl kr rfl bx_get Tryd.underlying25 rfl kr) rfl ?_
    exact ⟨er2, bx_bl⟩
  ·rw [if_neg c15] at H
   have c15b0 : (t1065 == 2) = false := beq_eq_false_iff_ne.mpr c15
   have c15b1 : (t1065 != 2) = true := bne_iff_ne.mpr c15
   by_cases c54 : t1065 = 3
   ·rw [if_pos c54] at H
    have c54b0 : (t1065 == 3) = true := beq_iff_eq.mpr c54
    have c54b1 : (t1065 != 3) = false := bne_eq_false_iff_eq.mpr c54
    clear c54
    by_cases c55 : t1069 = true
    ·subst c55
     have H1 : (some (1, 1, 0, 0, 0, (⟨#[]⟩ : ByteArray), false, 0)) = some (r1, r2, r3, r4, r5, r6, r7, r8) := by rw [if_pos rfl] at H; exact H
     clear H
     have H := H1
     clear H1
     simp only [Option.some.injEq, Prod.mk.injEq] at H
     obtain ⟨rfl, rfl, rfl, rfl, rfl, rfl, rfl, rfl⟩ := H
     go_enter Tryd.func38, Tryd.ntmps38
     go_wp2_with (first | ((with_reducible refine gate_dst (N := 1) rfl ?_); refine bxe 1 #[.int .i64 a0_0, .int .i64 a0_1, .int .i64 a0_2, .string a0_3, .bool a0_4, .int .i64 a0_5] 25 rfl rfl gr ?_; clear BX; intro gb1062 w56 GE1062 BX) | ((with_reducible refine gate_dst (N := 2) rfl ?_); refine bxe 2 #[.int .i64 0, .int .i64 0] 23 rfl rfl gr ?_; clear BX; intro gb1063 w57 GE1063 BX) | ((with_reducible refine gate_dst (N := 3) rfl ?_); refine bxe 3 #[.int .i64 0, .int .i64 0, .int .i64 0, .string (⟨#[]⟩ : ByteArray), .bool false, .int .i64 0] 25 rfl rfl gr ?_; clear BX; intro gb1064 w58 GE1064 BX) | ((with_reducible refine gate_callee (f := 60) rfl ?_); refine goesL_ (some 7) rfl rfl Tryd.func60 kr rfl #[.agg #[.int .i64 a0_0, .int .i64 a0_1, .int .i64 a0_2, .string a0_3, .bool a0_4, .int .i64 a0_5]] rfl ga ?_; (with_reducible refine (whittleref2_Of.calls k a0_0 a0_1 a0_2 a0_3 a0_4 a0_5 t1065 t1066 t1067 t1068 true t1070 _ A2.out).mono ?_); rintro e w62 ⟨rfl, hb⟩; refine ⟨_, rfl, ?_⟩; replace BX := bx_call hb; clear hb))
     refine bodyPost_ret (results_cc rfl _ _ gb1063 gb1064 23 25 #[.int .i64 1, .int .i64 1] #[.int .i64 0, .int .i64 0, .int .i64 0, .string (⟨#[]⟩ : ByteArray), .bool false, .int .i64 0] (0, 0) (0, 0) _ _ rfl bx_get Tryd.underlying23 rfl kr rfl bx_get Tryd.underlying25 rfl kr) rfl ?_
     exact ⟨er2, bx_bl⟩
    ·replace c55 := Bool.eq_false_iff.mpr c55
     subst c55
     have H1 : (some (0, 1, 0, 0, 0, (⟨#[]⟩ : ByteArray), false, 0)) = some (r1, r2, r3, r4, r5, r6, r7, r8) := by rw [if_neg (show ¬ (false = true) by decide)] at H; exact H
     clear H
     have H := H1
     clear H1
     simp only [Option.some.injEq, Prod.mk.injEq] at H
     obtain ⟨rfl, rfl, rfl, rfl, rfl, rfl, rfl, rfl⟩ := H
     go_enter Tryd.func38, Tryd.ntmps38
     go_wp2_with (first | ((with_reducible refine gate_dst (N := 1) rfl ?_); refine bxe 1 #[.int .i64 a0_0, .int .i64 a0_1, .int .i64 a0_2, .string a0_3, .bool a0_4, .int .i64 a0_5] 25 rfl rfl gr ?_; clear BX; intro gb1062 w67 GE1062 BX) | ((with_reducible refine gate_dst (N := 2) rfl ?_); refine bxe 2 #[.int .i64 0, .int .i64 0] 23 rfl rfl gr ?_; clear BX; intro gb1063 w68 GE1063 BX) | ((with_reducible refine gate_dst (N := 3) rfl ?_); refine bxe 3 #[.int .i64 0, .int .i64 0, .int .i64 0, .string (⟨#[]⟩ : ByteArray), .bool false, .int .i64 0] 25 rfl rfl gr ?_; clear BX; intro gb1064 w69 GE1064 BX) | ((with_reducible refine gate_callee (f := 60) rfl ?_); refine goesL_ (some 7) rfl rfl Tryd.func60 kr rfl #[.agg #[.int .i64 a0_0, .int .i64 a0_1, .int .i64 a0_2, .string a0_3, .bool a0_4, .int .i64 a0_5]] rfl ga ?_; (with_reducible refine (whittleref2_Of.calls k a0_0 a0_1 a0_2 a0_3 a0_4 a0_5 t1065 t1066 t1067 t1068 false t1070 _ A2.out).mono ?_); rintro e w73 ⟨rfl, hb⟩; refine ⟨_, rfl, ?_⟩; replace BX := bx_call hb; clear hb))
     refine bodyPost_ret (results_cc rfl _ _ gb1063 gb1064 23 25 #[.int .i64 0, .int .i64 1] #[.int .i64 0, .int .i64 0, .int .i64 0, .string (⟨#[]⟩ : ByteArray), .bool false, .int .i64 0] (0, 0) (0, 0) _ _ rfl bx_get Tryd.underlying23 rfl kr rfl bx_get Tryd.underlying25 rfl kr) rfl ?_
     exact ⟨er2, bx_bl⟩
   ·rw [if_neg c54] at H
    have c54b0 : (t1065 == 3) = false := beq_eq_false_iff_ne.mpr c54
    have c54b1 : (t1065 != 3) = true := bne_iff_ne.mpr c54
    by_cases c78 : t1065 = 4
    ·rw [if_pos c78] at H
     have c78b0 : (t1065 == 4) = true := beq_iff_eq.mpr c78
     have c78b1 : (t1065 != 4) = false := bne_eq_false_iff_eq.mpr c78
     clear c78
     simp only [Option.some.injEq, Prod.mk.injEq] at H
     obtain ⟨rfl, rfl, rfl, rfl, rfl, rfl, rfl, rfl⟩ := H
     go_enter Tryd.func38, Tryd.ntmps38
     try go_wp2_with (first | ((with_reducible refine gate_dst (N := 1) rfl ?_); refine bxe 1 #[.int .i64 a0_0, .int .i64 a0_1, .int .i64 a0_2, .string a0_3, .bool a0_4, .int .i64 a0_5] 25 rfl rfl gr ?_; clear BX; intro gb1062 w79 GE1062 BX) | ((with_reducible refine gate_dst (N := 2) rfl ?_); refine bxe 2 #[.int .i64 0, .int .i64 0] 23 rfl rfl gr ?_; clear BX; intro gb1063 w80 GE1063 BX) | ((with_reducible refine gate_dst (N := 3) rfl ?_); refine bxe 3 #[.int .i64 0, .int .i64 0, .int .i64 0, .string (⟨#[]⟩ : ByteArray), .bool false, .int .i64 0] 25 rfl rfl gr ?_; clear BX; intro gb1064 w81 GE1064 BX) | ((with_reducible refine gate_callee (f := 60) rfl ?_); refine goesL_ (some 7) rfl rfl Tryd.func60 kr rfl #[.agg #[.int .i64 a0_0, .int .i64 a0_1, .int .i64 a0_2, .string a0_3, .bool a0_4, .int .i64 a0_5]] rfl ga ?_; (with_reducible refine (whittleref2_Of.calls k a0_0 a0_1 a0_2 a0_3 a0_4 a0_5 t1065 t1066 t1067 t1068 t1069 t1070 _ A2.out).mono ?_); rintro e w85 ⟨rfl, hb⟩; refine ⟨_, rfl, ?_⟩; replace BX := bx_call hb; clear hb))
     replace BX : Bx w ((((((w85.setCell ⟨gb1062, 0, none⟩ (.int .i64 t1065)).setCell ⟨gb1062, 1, none⟩ (.int .i64 t1066)).setCell ⟨gb1062, 2, none⟩ (.int .i64 t1067)).setCell ⟨gb1062, 3, none⟩ (.string t1068)).setCell ⟨gb1062, 4, none⟩ (.bool t1069)).setCell ⟨gb1062, 5, none⟩ (.int .i64 t1070)) _ := bxi
     generalize ((((((w85.setCell ⟨gb1062, 0, none⟩ (.int .i64 t1065)).setCell ⟨gb1062, 1, none⟩ (.int .i64 t1066)).setCell ⟨gb1062, 2, none⟩ (.int .i64 t1067)).setCell ⟨gb1062, 3, none⟩ (.string t1068)).setCell ⟨gb1062, 4, none⟩ (.bool t1069)).setCell ⟨gb1062, 5, none⟩ (.int .i64 t1070)) = w87 at BX ⊢
     refine startm [false, false, true] (n := 4) (ds := []) #[false, false, false, false] kr rfl rfl (fun BX1 => ?_)
     clear BX
     have BX := BX1
     clear BX1
     generalize w87.drew = w88 at BX ⊢
     refine pure_ (i := 0) (N := some 36) (v := ?_) (a' := ?_) #[true, false, false, false] rfl rfl kr (fun _ _ _ h => h) (Or.inl ⟨by rfl, ?_⟩) ?_ ?_
     rotate_left
     ·intro w'
      go_simp
      with_reducible rfl
     rotate_left
     ·simp only [Act.put, List.setIfInBounds_toArray, List.set_cons_zero, List.set_cons_succ, i64_w, i32_w]
      rfl
     refine take_ (i := 1) (N := some 37) (v := ?_) (a' := ?_) #[true, true, false, false] rfl rfl kr (fun _ _ _ h => h) (Or.inl ⟨by rfl, ?_⟩) bxs ?_ ?_
     rotate_left
     ·intro w' hS
      go_simp
      with_reducible rfl
     rotate_left
     ·simp only [Act.put, List.setIfInBounds_toArray, List.set_cons_zero, List.set_cons_succ, i64_w, i32_w]
      rfl
     refine one_ (i := 2) (N := none) #[true, true, true, false] rfl rfl kr (by decide) (fun K hK => ?_)
     refine skip_ (w1 := ?_) (by rfl) rfl ?_ ?_
     rotate_left
     ·go_simp
      rfl
     refine hK.out _ _ bxs (fun hHeld => ?_)
     clear hK K hHeld
     refine one_ (i := 3) (N := none) #[true, true, true, true] rfl rfl kr (by decide) (fun K hK => ?_)
     refine skip_ (w1 := ?_) (by rfl) rfl ?_ ?_
     rotate_left
     ·go_simp
      rfl
     refine hK.out _ _ bxs (fun hHeld => ?_)
     clear hK K hHeld
     refine done_ kr ?_
     try go_wp2
     refine bodyPost_ret (results_cc rfl _ _ gb1063 gb1064 23 25 #[.int .i64 0, .int .i64 0] #[.int .i64 t1065, .int .i64 t1066, .int .i64 t1067, .string t1068, .bool t1069, .int .i64 t1070] (0, 0) (0, 0) _ _ rfl bx_get Tryd.underlying23 rfl kr rfl bx_get Tryd.underlying25 rfl kr) rfl ?_
     exact ⟨er2, bx_bl⟩
    ·rw [if_neg c78] at H
     have c78b0 : (t1065 == 4) = false := beq_eq_false_iff_ne.mpr c78
     have c78b1 : (t1065 != 4) = true := bne_iff_ne.mpr c78
     simp only [Option.some.injEq, Prod.mk.injEq] at H
     obtain ⟨rfl, rfl, rfl, rfl, rfl, rfl, rfl, rfl⟩ := H
     go_enter Tryd.func38, Tryd.ntmps38
     go_wp2_with (first | ((with_reducible refine gate_dst (N := 1) rfl ?_); refine bxe 1 #[.int .i64 a0_0, .int .i64 a0_1, .int .i64 a0_2, .string a0_3, .bool a0_4, .int .i64 a0_5] 25 rfl rfl gr ?_; clear BX; intro gb1062 w97 GE1062 BX) | ((with_reducible refine gate_dst (N := 2) rfl ?_); refine bxe 2 #[.int .i64 0, .int .i64 0] 23 rfl rfl gr ?_; clear BX; intro gb1063 w98 GE1063 BX) | ((with_reducible refine gate_dst (N := 3) rfl ?_); refine bxe 3 #[.int .i64 0, .int .i64 0, .int .i64 0, .string (⟨#[]⟩ : ByteArray), .bool false, .int .i64 0] 25 rfl rfl gr ?_; clear BX; intro gb1064 w99 GE1064 BX) | ((with_reducible refine gate_callee (f := 60) rfl ?_); refine goesL_ (some 7) rfl rfl Tryd.func60 kr rfl #[.agg #[.int .i64 a0_0, .int .i64 a0_1, .int .i64 a0_2, .string a0_3, .bool a0_4, .int .i64 a0_5]] rfl ga ?_; (with_reducible refine (whittleref2_Of.calls k a0_0 a0_1 a0_2 a0_3 a0_4 a0_5 t1065 t1066 t1067 t1068 t1069 t1070 _ A2.out).mono ?_); rintro e w103 ⟨rfl, hb⟩; refine ⟨_, rfl, ?_⟩; replace BX := bx_call hb; clear hb))
     refine bodyPost_ret (results_cc rfl _ _ gb1063 gb1064 23 25 #[.int .i64 0, .int .i64 1] #[.int .i64 0, .int .i64 0, .int .i64 0, .string (⟨#[]⟩ : ByteArray), .bool false, .int .i64 0] (0, 0) (0, 0) _ _ rfl bx_get Tryd.underlying23 rfl kr rfl bx_get Tryd.underlying25 rfl kr) rfl ?_
     exact ⟨er2, bx_bl⟩
end
section
/-! ### whittleref2_AsText: function 40 -/
def whittleref2_AsText.f (k : Nat) (a0_0 : Int) (a0_1 : Int) (a0_2 : Int) (a0_3 : ByteArray) (a0_4 : Bool) (a0_5 : Int) : Option (ByteArray × Int × Int × Int × ByteArray × Bool × Int) := (whittleref2_Of.f k a0_0 a0_1 a0_2 a0_3 a0_4 a0_5).bind fun bt1083 => (if bt1083.1 = 1 then ((whittleref1_Text.f k bt1083.2.1 bt1083.2.2.1).bind fun t1089 => (some (t1089, 0, 0, 0, (⟨#[]⟩ : ByteArray), false, 0))) else (if bt1083.1 = 2 then (some (bt1083.2.2.2.1, 0, 0, 0, (⟨#[]⟩ : ByteArray), false, 0)) else (if bt1083.1 = 3 then ((whittleref2_truth.f bt1083.2.2.2.2.1).bind fun t1090 => (some (t1090, 0, 0, 0, (⟨#[]⟩ : ByteArray), false, 0))) else (if bt1083.1 = 4 then (some ((⟨#[]⟩ : ByteArray), bt1083.1, bt1083.2.1, bt1083.2.2.1, bt1083.2.2.2.1, bt1083.2.2.2.2.1, bt1083.2.2.2.2.2)) else (some ((⟨#[]⟩ : ByteArray), 0, 0, 0, (⟨#[]⟩ : ByteArray), false, 0))))))
theorem whittleref2_AsText.mono : ∀ a0 a1 a2 a3 a4 a5 k, LeO (whittleref2_AsText.f k a0 a1 a2 a3 a4 a5) (whittleref2_AsText.f (k + 1) a0 a1 a2 a3 a4 a5) := by
 intro a0 a1 a2 a3 a4 a5 k
 unfold whittleref2_AsText.f
 repeat' first
   | (with_reducible exact whittleref1_Text.mono _ _ _)
   | (with_reducible exact whittleref2_Of.mono _ _ _ _ _ _ _)
   | (with_reducible exact LeO.refl _)
   | (with_reducible exact LeO.none _)
   | (with_reducible refine LeO.ite ?_ ?_)
   | (with_reducible refine LeO.bind ?_ (fun _ => ?_))
   | exact whittleref1_Text.mono _ _ _
   | exact whittleref2_Of.mono _ _ _ _ _ _ _
   | exact LeO.none _
   | refine LeO.ite ?_ ?_
   | refine LeO.bind ?_ (fun _ => ?_)
set_option maxHeartbeats 8000000 in
set_option maxRecDepth 100000 in
theorem whittleref2_AsText.calls (k : Nat) (a0_0 : Int) (a0_1 : Int) (a0_2 : Int) (a0_3 : ByteArray) (a0_4 : Bool) (a0_5 : Int) (r1 : ByteArray) (r2 : Int) (r3 : Int) (r4 : Int) (r5 : ByteArray) (r6 : Bool) (r7 : Int) (w : World) (h : whittleref2_AsText.f k a0_0 a0_1 a0_2 a0_3 a0_4 a0_5 = some (r1, r2, r3, r4, r5, r6, r7)) :
  Calls Tryd.prog 40 #[.agg #[.int .i64 a0_0, .int .i64 a0_1, .int .i64 a0_2, .string a0_3, .bool a0_4, .int .i64 a0_5]] w fun e w' => e = .returned (.tuple #[.string r1, .agg #[.int .i64 r2, .int .i64 r3, .int .i64 r4, .string r5, .bool r6, .int .i64 r7]]) ∧ Below w.heap.size w w' := by
 have hu25 := Tryd.underlying25
 have hu23 := Tryd.underlying23
 have BX := Bx.start w
 have H : ((whittleref2_Of.f k a0_0 a0_1 a0_2 a0_3 a0_4 a0_5).bind fun bt1083 => (if bt1083.1 = 1 then ((whittleref1_Text.f k bt1083.2.1 bt1083.2.2.1).bind fun t1089 => (some (t1089, 0, 0, 0, (⟨#[]⟩ : ByteArray), false, 0))) else (if bt1083.1 = 2 then (some (bt1083.2.2.2.1, 0, 0, 0, (⟨#[]⟩ : ByteArray), false, 0)) else (if bt1083.1 = 3 then ((whittleref2_truth.f bt1083.2.2.2.2.1).bind fun t1090 => (some (t1090, 0, 0, 0, (⟨#[]⟩ : ByteArray), false, 0))) else (if bt1083.1 = 4 then (some ((⟨#[]⟩ : ByteArray), bt1083.1, bt1083.2.1, bt1083.2.2.1, bt1083.2.2.2.1, bt1083.2.2.2.2.1, bt1083.2.2.2.2.2)) else (some ((⟨#[]⟩ : ByteArray), 0, 0, 0, (⟨#[]⟩ : ByteArray), false, 0))))))) = some (r1, r2, r3, r4, r5, r6, r7) := h
 clear h
 replace H := Option.bind_eq_some_iff.mp H
 obtain ⟨⟨t1083, t1084, t1085, t1086, t1087, t1088⟩, A20, H⟩ := H
 replace H : (if t1083 = 1 then ((whittleref1_Text.f k t1084 t1085).bind fun t1089 => (some (t1089, 0, 0, 0, (⟨#[]⟩ : ByteArray), false, 0))) else (if t1083 = 2 then (some (t1086, 0, 0, 0, (⟨#[]⟩ : ByteArray), false, 0)) else (if t1083 = 3 then ((whittleref2_truth.f t1087).bind fun t1090 => (some (t1090, 0, 0, 0, (⟨#[]⟩ : ByteArray), false, 0))) else (if t1083 = 4 then (some ((⟨#[]⟩ : ByteArray), t1083, t1084, t1085, t1086, t1087, t1088)) else (some ((⟨#[]⟩ : ByteArray), 0, 0, 0, (⟨#[]⟩ : ByteArray), false, 0)))))) = some (r1, r2, r3, r4, r5, r6, r7) := H
 have A2 := Aside0.mk A20
 clear A20
 by_cases c3 : t1083 = 1
 ·rw [if_pos c3] at H
  have c3b0 : (t1083 == 1) = true := beq_iff_eq.mpr c3
  have c3b1 : (t1083 != 1) = false := bne_eq_false_iff_eq.mpr c3
  clear c3
  replace H := Option.bind_eq_some_iff.mp H
  obtain ⟨t1089, A40, H⟩ := H
  replace H : (some (t1089, 0, 0, 0, (⟨#[]⟩ : ByteArray), false, 0)) = some (r1, r2, r3, r4, r5, r6, r7) := H
  have A4 := Aside0.mk A40
  clear A40
  simp only [Option.some.injEq, Prod.mk.injEq] at H
  obtain ⟨rfl, rfl, rfl, rfl, rfl, rfl, rfl⟩ := H
  go_enter Tryd.func40, Tryd.ntmps40
  go_wp2_with (first | ((with_reducible refine gate_dst (N := 1) rfl ?_); refine bxe 1 #[.int .i64 a0_0, .int .i64 a0_1, .int .i64 a0_2, .string a0_3, .bool a0_4, .int .i64 a0_5] 25 rfl rfl gr ?_; clear BX; intro gb1081 w5 GE1081 BX) | ((with_reducible refine gate_dst (N := 3) rfl ?_); refine bxe 3 #[.int .i64 0, .int .i64 0, .int .i64 0, .string (⟨#[]⟩ : ByteArray), .bool false, .int .i64 0] 25 rfl rfl gr ?_; clear BX; intro gb1082 w6 GE1082 BX) | ((with_reducible refine gate_callee (f := 60) rfl ?_); refine goesL_ (some 5) rfl rfl Tryd.func60 kr rfl #[.agg #[.int .i64 a0_0, .int .i64 a0_1, .int .i64 a0_2, .string a0_3, .bool a0_4, .int .i64 a0_5]] rfl ga ?_; (with_reducible refine (whittleref2_Of.calls k a0_0 a0_1 a0_2 a0_3 a0_4 a0_5 t1083 t1084 t1085 t1086 t1087 t1088 _ A2.out).mono ?_); rintro e w9 ⟨rfl, hb⟩; refine ⟨_, rfl, ?_⟩; replace BX := bx_call hb; clear hb) | ((with_reducible refine gate_callee (f := 61) rfl ?_); refine goesL_ (some 12) rfl rfl Tryd.func61 kr rfl #[.agg #[.int .i64 t1084, .int .i64 t1085]] rfl ga ?_; (with_reducible refine (whittleref1_Text.calls k t1084 t1085 t1089 _ A4.out).mono ?_); rintro e w11 ⟨rfl, hb⟩; refine ⟨_, rfl, ?_⟩; replace BX := bx_call hb; clear hb))
  refine bodyPost_ret (results_tc rfl _ _ gb1082 25 #[.int .i64 0, .int .i64 0, .int .i64 0, .string (⟨#[]⟩ : ByteArray), .bool false, .int .i64 0] (0, 0) _ rfl bx_get Tryd.underlying25 rfl kr) rfl ?_
  exact ⟨er2, bx_bl⟩
 ·rw [if_neg c3] at H
  have c3b0 : (t1083 == 1) = false := beq_eq_false_iff_ne.mpr c3
  have c3b1 : (t1083 != 1) = true := bne_iff_ne.mpr c3
  by_cases c13 : t1083 = 2
  ·rw [if_pos c13] at H
   have c13b0 : (t1083 == 2) = true := beq_iff_eq.mpr c13
   have c13b1 : (t1083 != 2) = false := bne_eq_false_iff_eq.mpr c13
   clear c13
   simp only [Option.some.injEq, Prod.mk.injEq] at H
   obtain ⟨rfl, rfl, rfl, rfl, rfl, rfl, rfl⟩ := H
   go_enter Tryd.func40, Tryd.ntmps40
   go_wp2_with (first | ((with_reducible refine gate_dst (N := 1) rfl ?_); refine bxe 1 #[.int .i64 a0_0, .int .i64 a0_1, .int .i64 a0_2, .string a0_3, .bool a0_4, .int .i64 a0_5] 25 rfl rfl gr ?_; clear BX; intro gb1081 w14 GE1081 BX) | ((with_reducible refine gate_dst (N := 3) rfl ?_); refine bxe 3 #[.int .i64 0, .int .i64 0, .int .i64 0, .string (⟨#[]⟩ : ByteArray), .bool false, .int .i64 0] 25 rfl rfl gr ?_; clear BX; intro gb1082 w15 GE1082 BX) | ((with_reducible refine gate_callee (f := 60) rfl ?_); refine goesL_ (some 5) rfl rfl Tryd.func60 kr rfl #[.agg #[.int .i64 a0_0, .int .i64 a0_1, .int .i64 a0_2, .string a0_3, .bool a0_4, .int .i64 a0_5]] rfl ga ?_; (with_reducible refine (whittleref2_Of.calls k a0_0 a0_1 a0_2 a0_3 a0_4 a0_5 t1083 t1084 t1085 t1086 t1087 t1088 _ A2.out).mono ?_); rintro e w18 ⟨rfl, hb⟩; refine ⟨_, rfl, ?_⟩; replace BX := bx_call hb; clear hb))
   refine bodyPost_ret (results_tc rfl _ _ gb1082 25 #[.int .i64 0, .int .i64 0, .int .i64 0, .string (⟨#[]⟩ : ByteArray), .bool false, .int .i64 0] (0, 0) _ rfl bx_get Tryd.underlying25 rfl kr) rfl ?_
   exact ⟨er2, bx_bl⟩
  ·rw [if_neg c13] at H
   have c13b0 : (t1083 == 2) = false := beq_eq_false_iff_ne.mpr c13
   have c13b1 : (t1083 != 2) = true := bne_iff_ne.mpr c13
   by_cases c21 : t1083 = 3
   ·rw [if_pos c21] at H
    have c21b0 : (t1083 == 3) = true := beq_iff_eq.mpr c21
    have c21b1 : (t1083 != 3) = false := bne_eq_false_iff_eq.mpr c21
    clear c21
    replace H := Option.bind_eq_some_iff.mp H
    obtain ⟨t1090, A220, H⟩ := H
    replace H : (some (t1090, 0, 0, 0, (⟨#[]⟩ : ByteArray), false, 0)) = some (r1, r2, r3, r4, r5, r6, r7) := H
    have A22 := Aside0.mk A220
    clear A220
    simp only [Option.some.injEq, Prod.mk.injEq] at H
    obtain ⟨rfl, rfl, rfl, rfl, rfl, rfl, rfl⟩ := H
    go_enter Tryd.func40, Tryd.ntmps40
    go_wp2_with (first | ((with_reducible refine gate_dst (N := 1) rfl ?_); refine bxe 1 #[.int .i64 a0_0, .int .i64 a0_1, .int .i64 a0_2, .string a0_3, .bool a0_4, .int .i64 a0_5] 25 rfl rfl gr ?_; clear BX; intro gb1081 w23 GE1081 BX) | ((with_reducible refine gate_dst (N := 3) rfl ?_); refine bxe 3 #[.int .i64 0, .int .i64 0, .int .i64 0, .string (⟨#[]⟩ : ByteArray), .bool false, .int .i64 0] 25 rfl rfl gr ?_; clear BX; intro gb1082 w24 GE1082 BX) | ((with_reducible refine gate_callee (f := 60) rfl ?_); refine goesL_ (some 5) rfl rfl Tryd.func60 kr rfl #[.agg #[.int .i64 a0_0, .int .i64 a0_1, .int .i64 a0_2, .string a0_3, .bool a0_4, .int .i64 a0_5]] rfl ga ?_; (with_reducible refine (whittleref2_Of.calls k a0_0 a0_1 a0_2 a0_3 a0_4 a0_5 t1083 t1084 t1085 t1086 t1087 t1088 _ A2.out).mono ?_); rintro e w27 ⟨rfl, hb⟩; refine ⟨_, rfl, ?_⟩; replace BX := bx_call hb; clear hb) | ((with_reducible refine gate_callee (f := 62) rfl ?_); refine goesL_ (some 23) rfl rfl Tryd.func62 kr rfl #[.bool t1087] rfl ga ?_; (with_reducible refine (whittleref2_truth.calls t1087 t1090 _ A22.out).mono ?_); rintro e w' ⟨rfl, ⟨nd, rfl⟩⟩; refine ⟨_, rfl, ?_⟩))
    refine bodyPost_ret (results_tc rfl _ _ gb1082 25 #[.int .i64 0, .int .i64 0, .int .i64 0, .string (⟨#[]⟩ : ByteArray), .bool false, .int .i64 0] (0, 0) _ rfl bx_get Tryd.underlying25 rfl kr) rfl ?_
    exact ⟨er2, bx_bl⟩
   ·rw [if_neg c21] at H
    have c21b0 : (t1083 == 3) = false := beq_eq_false_iff_ne.mpr c21
    have c21b1 : (t1083 != 3) = true := bne_iff_ne.mpr c21
    by_cases c30 : t1083 = 4
    ·rw [if_pos c30] at H
     have c30b0 : (t1083 == 4) = true := beq_iff_eq.mpr c30
     have c30b1 : (t1083 != 4) = false := bne_eq_false_iff_eq.mpr c30
     clear c30
     simp only [Option.some.injEq, Prod.mk.injEq] at H
     obtain ⟨rfl, rfl, rfl, rfl, rfl, rfl, rfl⟩ := H
     go_enter Tryd.func40, Tryd.ntmps40
     try go_wp2_with (first | ((with_reducible refine gate_dst (N := 1) rfl ?_); refine bxe 1 #[.int .i64 a0_0, .int .i64 a0_1, .int .i64 a0_2, .string a0_3, .bool a0_4, .int .i64 a0_5] 25 rfl rfl gr ?_; clear BX; intro gb1081 w31 GE1081 BX) | ((with_reducible refine gate_dst (N := 3) rfl ?_); refine bxe 3 #[.int .i64 0, .int .i64 0, .int .i64 0, .string (⟨#[]⟩ : ByteArray), .bool false, .int .i64 0] 25 rfl rfl gr ?_; clear BX; intro gb1082 w32 GE1082 BX) | ((with_reducible refine gate_callee (f := 60) rfl ?_); refine goesL_ (some 5) rfl rfl Tryd.func60 kr rfl #[.agg #[.int .i64 a0_0, .int .i64 a0_1, .int .i64 a0_2, .string a0_3, .bool a0_4, .int .i64 a0_5]] rfl ga ?_; (with_reducible refine (whittleref2_Of.calls k a0_0 a0_1 a0_2 a0_3 a0_4 a0_5 t1083 t1084 t1085 t1086 t1087 t1088 _ A2.out).mono ?_); rintro e w35 ⟨rfl, hb⟩; refine ⟨_, rfl, ?_⟩; replace BX := bx_call hb; clear hb))
     replace BX : Bx w ((((((w35.setCell ⟨gb1081, 0, none⟩ (.int .i64 t1083)).setCell ⟨gb1081, 1, none⟩ (.int .i64 t1084)).setCell ⟨gb1081, 2, none⟩ (.int .i64 t1085)).setCell ⟨gb1081, 3, none⟩ (.string t1086)).setCell ⟨gb1081, 4, none⟩ (.bool t1087)).setCell ⟨gb1081, 5, none⟩ (.int .i64 t1088)) _ := bxi
     generalize ((((((w35.setCell ⟨gb1081, 0, none⟩ (.int .i64 t1083)).setCell ⟨gb1081, 1, none⟩ (.int .i64 t1084)).setCell ⟨gb1081, 2, none⟩ (.int .i64 t1085)).setCell ⟨gb1081, 3, none⟩ (.string t1086)).setCell ⟨gb1081, 4, none⟩ (.bool t1087)).setCell ⟨gb1081, 5, none⟩ (.int .i64 t1088)) = w37 at BX ⊢
     refine startm [false, true] (n := 3) (ds := []) #[false, false, false] kr rfl rfl (fun BX1 => ?_)
     clear BX
     have BX := BX1
     clear BX1
     generalize w37.drew = w38 at BX ⊢
     refine pure_ (i := 1) (N := some 2) (v := ?_) (a' := ?_) #[false, true, false] rfl rfl kr (fun _ _ _ h => h) (Or.inl ⟨by rfl, ?_⟩) ?_ ?_
     rotate_left
     ·intro w'
      go_simp
      with_reducible rfl
     rotate_left
     ·simp only [Act.put, List.setIfInBounds_toArray, List.set_cons_zero, List.set_cons_succ, i64_w, i32_w]
      rfl
     refine take_ (i := 0) (N := some 27) (v := ?_) (a' := ?_) #[true, true, false] rfl rfl kr (fun _ _ _ h => h) (Or.inl ⟨by rfl, ?_⟩) bxs ?_ ?_
     rotate_left
     ·intro w' hS
      go_simp
      with_reducible rfl
     rotate_left
     ·simp only [Act.put, List.setIfInBounds_toArray, List.set_cons_zero, List.set_cons_succ, i64_w, i32_w]
      rfl
     refine one_ (i := 2) (N := none) #[true, true, true] rfl rfl kr (by decide) (fun K hK => ?_)
     refine skip_ (w1 := ?_) (by rfl) rfl ?_ ?_
     rotate_left
     ·go_simp
      rfl
     refine hK.out _ _ bxs (fun hHeld => ?_)
     clear hK K hHeld
     refine done_ kr ?_
     try go_wp2
     refine bodyPost_ret (results_tc rfl _ _ gb1082 25 #[.int .i64 t1083, .int .i64 t1084, .int .i64 t1085, .string t1086, .bool t1087, .int .i64 t1088] (0, 0) _ rfl bx_get Tryd.underlying25 rfl kr) rfl ?_
     exact ⟨er2, bx_bl⟩
    ·rw [if_neg c30] at H
     have c30b0 : (t1083 == 4) = false := beq_eq_false_iff_ne.mpr c30
     have c30b1 : (t1083 != 4) = true := bne_iff_ne.mpr c30
     simp only [Option.some.injEq, Prod.mk.injEq] at H
     obtain ⟨rfl, rfl, rfl, rfl, rfl, rfl, rfl⟩ := H
     go_enter Tryd.func40, Tryd.ntmps40
     go_wp2_with (first | ((with_reducible refine gate_dst (N := 1) rfl ?_); refine bxe 1 #[.int .i64 a0_0, .int .i64 a0_1, .int .i64 a0_2, .string a0_3, .bool a0_4, .int .i64 a0_5] 25 rfl rfl gr ?_; clear BX; intro gb1081 w45 GE1081 BX) | ((with_reducible refine gate_dst (N := 3) rfl ?_); refine bxe 3 #[.int .i64 0, .int .i64 0, .int .i64 0, .string (⟨#[]⟩ : ByteArray), .bool false, .int .i64 0] 25 rfl rfl gr ?_; clear BX; intro gb1082 w46 GE1082 BX) | ((with_reducible refine gate_callee (f := 60) rfl ?_); refine goesL_ (some 5) rfl rfl Tryd.func60 kr rfl #[.agg #[.int .i64 a0_0, .int .i64 a0_1, .int .i64 a0_2, .string a0_3, .bool a0_4, .int .i64 a0_5]] rfl ga ?_; (with_reducible refine (whittleref2_Of.calls k a0_0 a0_1 a0_2 a0_3 a0_4 a0_5 t1083 t1084 t1085 t1086 t1087 t1088 _ A2.out).mono ?_); rintro e w49 ⟨rfl, hb⟩; refine ⟨_, rfl, ?_⟩; replace BX := bx_call hb; clear hb))
     refine bodyPost_ret (results_tc rfl _ _ gb1082 25 #[.int .i64 0, .int .i64 0, .int .i64 0, .string (⟨#[]⟩ : ByteArray), .bool false, .int .i64 0] (0, 0) _ rfl bx_get Tryd.underlying25 rfl kr) rfl ?_
     exact ⟨er2, bx_bl⟩
end
section
/-! ### whittleref2_AsTruth: function 42 -/
def whittleref2_AsTruth.f (k : Nat) (a0_0 : Int) (a0_1 : Int) (a0_2 : Int) (a0_3 : ByteArray) (a0_4 : Bool) (a0_5 : Int) : Option (Bool × Int × Int × Int × ByteArray × Bool × Int) := (whittleref2_Of.f k a0_0 a0_1 a0_2 a0_3 a0_4 a0_5).bind fun bt1128 => (if bt1128.1 = 1 then (some ((bt1128.2.1 != 0), 0, 0, 0, (⟨#[]⟩ : ByteArray), false, 0)) else (if bt1128.1 = 2 then (if bt1128.2.2.2.1.toList = ([84, 82, 85, 69] : List UInt8) then (some ((bt1128.2.2.2.1.toList == ([84, 82, 85, 69] : List UInt8)), 0, 0, 0, (⟨#[]⟩ : ByteArray), false, 0)) else (if bt1128.2.2.2.1.toList = ([70, 65, 76, 83, 69] : List UInt8) then (some ((bt1128.2.2.2.1.toList == ([84, 82, 85, 69] : List UInt8)), 0, 0, 0, (⟨#[]⟩ : ByteArray), false, 0)) else ((whittleref2_Fault.f 2).bind fun bt1134 => (some (false, bt1134.1, bt1134.2.1, bt1134.2.2.1, bt1134.2.2.2.1, bt1134.2.2.2.2.1, bt1134.2.2.2.2.2))))) else (if bt1128.1 = 3 then (some (bt1128.2.2.2.2.1, 0, 0, 0, (⟨#[]⟩ : ByteArray), false, 0)) else (if bt1128.1 = 4 then (some (false, bt1128.1, bt1128.2.1, bt1128.2.2.1, bt1128.2.2.2.1, bt1128.2.2.2.2.1, bt1128.2.2.2.2.2)) else (some (false, 0, 0, 0, (⟨#[]⟩ : ByteArray), false, 0))))))
theorem whittleref2_AsTruth.mono : ∀ a0 a1 a2 a3 a4 a5 k, LeO (whittleref2_AsTruth.f k a0 a1 a2 a3 a4 a5) (whittleref2_AsTruth.f (k + 1) a0 a1 a2 a3 a4 a5) := by
 intro a0 a1 a2 a3 a4 a5 k
 unfold whittleref2_AsTruth.f
 repeat' first
   | (with_reducible exact whittleref2_Of.mono _ _ _ _ _ _ _)
   | (with_reducible exact LeO.refl _)
   | (with_reducible exact LeO.none _)
   | (with_reducible refine LeO.ite ?_ ?_)
   | (with_reducible refine LeO.bind ?_ (fun _ => ?_))
   | exact whittleref2_Of.mono _ _ _ _ _ _ _
   | exact LeO.none _
   | refine LeO.ite ?_ ?_
   | refine LeO.bind ?_ (fun _ => ?_)
set_option maxHeartbeats 8000000 in
set_option maxRecDepth 100000 in
theorem whittleref2_AsTruth.calls (k : Nat) (a0_0 : Int) (a0_1 : Int) (a0_2 : Int) (a0_3 : ByteArray) (a0_4 : Bool) (a0_5 : Int) (r1 : Bool) (r2 : Int) (r3 : Int) (r4 : Int) (r5 : ByteArray) (r6 : Bool) (r7 : Int) (w : World) (h : whittleref2_AsTruth.f k a0_0 a0_1 a0_2 a0_3 a0_4 a0_5 = some (r1, r2, r3, r4, r5, r6, r7)) :
  Calls Tryd.prog 42 #[.agg #[.int .i64 a0_0, .int .i64 a0_1, .int .i64 a0_2, .string a0_3, .bool a0_4, .int .i64 a0_5]] w fun e w' => e = .returned (.tuple #[.bool r1, .agg #[.int .i64 r2, .int .i64 r3, .int .i64 r4, .string r5, .bool r6, .int .i64 r7]]) ∧ Below w.heap.size w w' := by
 have hu25 := Tryd.underlying25
 have BX := Bx.start w
 have H : ((whittleref2_Of.f k a0_0 a0_1 a0_2 a0_3 a0_4 a0_5).bind fun bt1128 => (if bt1128.1 = 1 then (some ((bt1128.2.1 != 0), 0, 0, 0, (⟨#[]⟩ : ByteArray), false, 0)) else (if bt1128.1 = 2 then (if bt1128.2.2.2.1.toList = ([84, 82, 85, 69] : List UInt8) then (some ((bt1128.2.2.2.1.toList == ([84, 82, 85, 69] : List UInt8)), 0, 0, 0, (⟨#[]⟩ : ByteArray), false, 0)) else (if bt1128.2.2.2.1.toList = ([70, 65, 76, 83, 69] : List UInt8) then (some ((bt1128.2.2.2.1.toList == ([84, 82, 85, 69] : List UInt8)), 0, 0, 0, (⟨#[]⟩ : ByteArray), false, 0)) else ((whittleref2_Fault.f 2).bind fun bt1134 => (some (false, bt1134.1, bt1134.2.1, bt1134.2.2.1, bt1134.2.2.2.1, bt1134.2.2.2.2.1, bt1134.2.2.2.2.2))))) else (if bt1128.1 = 3 then (some (bt1128.2.2.2.2.1, 0, 0, 0, (⟨#[]⟩ : ByteArray), false, 0)) else (if bt1128.1 = 4 then (some (false, bt1128.1, bt1128.2.1, bt1128.2.2.1, bt1128.2.2.2.1, bt1128.2.2.2.2.1, bt1128.2.2.2.2.2)) else (some (false, 0, 0, 0, (⟨#[]⟩ : ByteArray), false, 0))))))) = some (r1, r2, r3, r4, r5, r6, r7) := h
 clear h
 replace H := Option.bind_eq_some_iff.mp H
 obtain ⟨⟨t1128, t1129, t1130, t1131, t1132, t1133⟩, A20, H⟩ := H
 replace H : (if t1128 = 1 then (some ((t1129 != 0), 0, 0, 0, (⟨#[]⟩ : ByteArray), false, 0)) else (if t1128 = 2 then (if t1131.toList = ([84, 82, 85, 69] : List UInt8) then (some ((t1131.toList == ([84, 82, 85, 69] : List UInt8)), 0, 0, 0, (⟨#[]⟩ : ByteArray), false, 0)) else (if t1131.toList = ([70, 65, 76, 83, 69] : List UInt8) then (some ((t1131.toList == ([84, 82, 85, 69] : List UInt8)), 0, 0, 0, (⟨#[]⟩ : ByteArray), false, 0)) else ((whittleref2_Fault.f 2).bind fun bt1134 => (some (false, bt1134.1, bt1134.2.1, bt1134.2.2.1, bt1134.2.2.2.1, bt1134.2.2.2.2.1, bt1134.2.2.2.2.2))))) else (if t1128 = 3 then (some (t1132, 0, 0, 0, (⟨#[]⟩ : ByteArray), false, 0)) else (if t1128 = 4 then (some (false, t1128, t1129, t1130, t1131, t1132, t1133)) else (some (false, 0, 0, 0, (⟨#[]⟩ : ByteArray), false, 0)))))) = some (r1, r2, r3, r4, r5, r6, r7) := H
 have A2 := Aside0.mk A20
 clear A20
 by_cases c3 : t1128 = 1
 ·rw [if_pos c3] at H
  have c3b0 : (t1128 == 1) = true := beq_iff_eq.mpr c3
  have c3b1 : (t1128 != 1) = false := bne_eq_false_iff_eq.mpr c3
  clear c3
  simp only [Option.some.injEq, Prod.mk.injEq] at H
  obtain ⟨rfl, rfl, rfl, rfl, rfl, rfl, rfl⟩ := H
  go_enter Tryd.func42, Tryd.ntmps42
  go_wp2_with (first | ((with_reducible refine gate_dst (N := 1) rfl ?_); refine bxe 1 #[.int .i64 a0_0, .int .i64 a0_1, .int .i64 a0_2, .string a0_3, .bool a0_4, .int .i64 a0_5] 25 rfl rfl gr ?_; clear BX; intro gb1126 w4 GE1126 BX) | ((with_reducible refine gate_dst (N := 3) rfl ?_); refine bxe 3 #[.int .i64 0, .int .i64 0, .int .i64 0, .string (⟨#[]⟩ : ByteArray), .bool false, .int .i64 0] 25 rfl rfl gr ?_; clear BX; intro gb1127 w5 GE1127 BX) | ((with_reducible refine gate_callee (f := 60) rfl ?_); refine goesL_ (some 5) rfl rfl Tryd.func60 kr rfl #[.agg #[.int .i64 a0_0, .int .i64 a0_1, .int .i64 a0_2, .string a0_3, .bool a0_4, .int .i64 a0_5]] rfl ga ?_; (with_reducible refine (whittleref2_Of.calls k a0_0 a0_1 a0_2 a0_3 a0_4 a0_5 t1128 t1129 t1130 t1131 t1132 t1133 _ A2.out).mono ?_); rintro e w8 ⟨rfl, hb⟩; refine ⟨_, rfl, ?_⟩; replace BX := bx_call hb; clear hb))
  refine bodyPost_ret (results_tc rfl _ _ gb1127 25 #[.int .i64 0, .int .i64 0, .int .i64 0, .string (⟨#[]⟩ : ByteArray), .bool false, .int .i64 0] (0, 0) _ rfl bx_get Tryd.underlying25 rfl kr) rfl ?_
  exact ⟨er2, bx_bl⟩
 ·rw [if_neg c3] at H
  have c3b0 : (t1128 == 1) = false := beq_eq_false_iff_ne.mpr c3
  have c3b1 : (t1128 != 1) = true := bne_iff_ne.mpr c3
  by_cases c11 : t1128 = 2
  ·rw [if_pos c11] at H
   have c11b0 : (t1128 == 2) = true := beq_iff_eq.mpr c11
   have c11b1 : (t1128 != 2) = false := bne_eq_false_iff_eq.mpr c11
   clear c11
   by_cases c12 : t1131.toList = ([84, 82, 85, 69] : List UInt8)
   ·rw [if_pos c12] at H
    have c12b0 : (t1131.toList == ([84, 82, 85, 69] : List UInt8)) = true := beq_iff_eq.mpr c12
    have c12b1 : (t1131.toList != ([84, 82, 85, 69] : List UInt8)) = false := bne_eq_false_iff_eq.mpr c12
    clear c12
    simp only [Option.some.injEq, Prod.mk.injEq] at H
    obtain ⟨rfl, rfl, rfl, rfl, rfl, rfl, rfl⟩ := H
    go_enter Tryd.func42, Tryd.ntmps42
    go_wp2_with (first | ((with_reducible refine gate_dst (N := 1) rfl ?_); refine bxe 1 #[.int .i64 a0_0, .int .i64 a0_1, .int .i64 a0_2, .string a0_3, .bool a0_4, .int .i64 a0_5] 25 rfl rfl gr ?_; clear BX; intro gb1126 w13 GE1126 BX) | ((with_reducible refine gate_dst (N := 3) rfl ?_); refine bxe 3 #[.int .i64 0, .int .i64 0, .int .i64 0, .string (⟨#[]⟩ : ByteArray), .bool false, .int .i64 0] 25 rfl rfl gr ?_; clear BX; intro gb1127 w14 GE1127 BX) | ((with_reducible refine gate_callee (f := 60) rfl ?_); refine goesL_ (some 5) rfl rfl Tryd.func60 kr rfl #[.agg #[.int .i64 a0_0, .int .i64 a0_1, .int .i64 a0_2, .string a0_3, .bool a0_4, .int .i64 a0_5]] rfl ga ?_; (with_reducible refine (whittleref2_Of.calls k a0_0 a0_1 a0_2 a0_3 a0_4 a0_5 t1128 t1129 t1130 t1131 t1132 t1133 _ A2.out).mono ?_); rintro e w17 ⟨rfl, hb⟩; refine ⟨_, rfl, ?_⟩; replace BX := bx_call hb; clear hb))
    refine bodyPost_ret (results_tc rfl _ _ gb1127 25 #[.int .i64 0, .int .i64 0, .int .i64 0, .string (⟨#[]⟩ : ByteArray), .bool false, .int .i64 0] (0, 0) _ rfl bx_get Tryd.underlying25 rfl kr) rfl ?_
    exact ⟨er2, bx_bl⟩
   ·rw [if_neg c12] at H
    have c12b0 : (t1131.toList == ([84, 82, 85, 69] : List UInt8)) = false := beq_eq_false_iff_ne.mpr c12
    have c12b1 : (t1131.toList != ([84, 82, 85, 69] : List UInt8)) = true := bne_iff_ne.mpr c12
    by_cases c20 : t1131.toList = ([70, 65, 76, 83, 69] : List UInt8)
    ·rw [if_pos c20] at H
     have c20b0 : (t1131.toList == ([70, 65, 76, 83, 69] : List UInt8)) = true := beq_iff_eq.mpr c20
     have c20b1 : (t1131.toList != ([70, 65, 76, 83, 69] : List UInt8)) = false := bne_eq_false_iff_eq.mpr c20
     clear c20
     simp only [Option.some.injEq, Prod.mk.injEq] at H
     obtain ⟨rfl, rfl, rfl, rfl, rfl, rfl, rfl⟩ := H
     go_enter Tryd.func42, Tryd.ntmps42
     go_wp2_with (first | ((with_reducible refine gate_dst (N := 1) rfl ?_); refine bxe 1 #[.int .i64 a0_0, .int .i64 a0_1, .int .i64 a0_2, .string a0_3, .bool a0_4, .int .i64 a0_5] 25 rfl rfl gr ?_; clear BX; intro gb1126 w21 GE1126 BX) | ((with_reducible refine gate_dst (N := 3) rfl ?_); refine bxe 3 #[.int .i64 0, .int .i64 0, .int .i64 0, .string (⟨#[]⟩ : ByteArray), .bool false, .int .i64 0] 25 rfl rfl gr ?_; clear BX; intro gb1127 w22 GE1127 BX) | ((with_reducible refine gate_callee (f := 60) rfl ?_); refine goesL_ (some 5) rfl rfl Tryd.func60 kr rfl #[.agg #[.int .i64 a0_0, .int .i64 a0_1, .int .i64 a0_2, .string a0_3, .bool a0_4, .int .i64 a0_5]] rfl ga ?_; (with_reducible refine (whittleref2_Of.calls k a0_0 a0_1 a0_2 a0_3 a0_4 a0_5 t1128 t1129 t1130 t1131 t1132 t1133 _ A2.out).mono ?_); rintro e w25 ⟨rfl, hb⟩; refine ⟨_, rfl, ?_⟩; replace BX := bx_call hb; clear hb))
     refine bodyPost_ret (results_tc rfl _ _ gb1127 25 #[.int .i64 0, .int .i64 0, .int .i64 0, .string (⟨#[]⟩ : ByteArray), .bool false, .int .i64 0] (0, 0) _ rfl bx_get Tryd.underlying25 rfl kr) rfl ?_
     exact ⟨er2, bx_bl⟩
    ·rw [if_neg c20] at H
     have c20b0 : (t1131.toList == ([70, 65, 76, 83, 69] : List UInt8)) = false := beq_eq_false_iff_ne.mpr c20
     have c20b1 : (t1131.toList != ([70, 65, 76, 83, 69] : List UInt8)) = true := bne_iff_ne.mpr c20
     replace H := Option.bind_eq_some_iff.mp H
     obtain ⟨⟨t1134, t1135, t1136, t1137, t1138, t1139⟩, A280, H⟩ := H
     replace H : (some (false, t1134, t1135, t1136, t1137, t1138, t1139)) = some (r1, r2, r3, r4, r5, r6, r7) := H
     have A28 := Aside0.mk A280
     clear A280
     simp only [Option.some.injEq, Prod.mk.injEq] at H
     obtain ⟨rfl, rfl, rfl, rfl, rfl, rfl, rfl⟩ := H
     go_enter Tryd.func42, Tryd.ntmps42
     go_wp2_with (first | ((with_reducible refine gate_dst (N := 1) rfl ?_); refine bxe 1 #[.int .i64 a0_0, .int .i64 a0_1, .int .i64 a0_2, .string a0_3, .bool a0_4, .int .i64 a0_5] 25 rfl rfl gr ?_; clear BX; intro gb1126 w29 GE1126 BX) | ((with_reducible refine gate_dst (N := 3) rfl ?_); refine bxe 3 #[.int .i64 0, .int .i64 0, .int .i64 0, .string (⟨#[]⟩ : ByteArray), .bool false, .int .i64 0] 25 rfl rfl gr ?_; clear BX; intro gb1127 w30 GE1127 BX) | ((with_reducible refine gate_callee (f := 60) rfl ?_); refine goesL_ (some 5) rfl rfl Tryd.func60 kr rfl #[.agg #[.int .i64 a0_0, .int .i64 a0_1, .int .i64 a0_2, .string a0_3, .bool a0_4, .int .i64 a0_5]] rfl ga ?_; (with_reducible refine (whittleref2_Of.calls k a0_0 a0_1 a0_2 a0_3 a0_4 a0_5 t1128 t1129 t1130 t1131 t1132 t1133 _ A2.out).mono ?_); rintro e w33 ⟨rfl, hb⟩; refine ⟨_, rfl, ?_⟩; replace BX := bx_call hb; clear hb) | ((with_reducible refine gate_callee (f := 26) rfl ?_); refine goesL_ (some 25) rfl rfl Tryd.func26 kr rfl #[.int .i64 2] rfl ga ?_; (with_reducible refine (whittleref2_Fault.calls 2 t1134 t1135 t1136 t1137 t1138 t1139 _ A28.out).mono ?_); rintro e w35 ⟨rfl, hb⟩; refine ⟨_, rfl, ?_⟩; replace BX := bx_call hb; clear hb))
     refine bodyPost_ret (results_tc rfl _ _ gb1127 25 #[.int .i64 t1134, .int .i64 t1135, .int .i64 t1136, .string t1137, .bool t1138, .int .i64 t1139] (0, 0) _ rfl bx_get Tryd.underlying25 rfl kr) rfl ?_
     exact ⟨er2, bx_bl⟩
  ·rw [if_neg c11] at H
   have c11b0 : (t1128 == 2) = false := beq_eq_false_iff_ne.mpr c11
   have c11b1 : (t1128 != 2) = true := bne_iff_ne.mpr c11
   by_cases c37 : t1128 = 3
   ·rw [if_pos c37] at H
    have c37b0 : (t1128 == 3) = true := beq_iff_eq.mpr c37
    have c37b1 : (t1128 != 3) = false := bne_eq_false_iff_eq.mpr c37
    clear c37
    simp only [Option.some.injEq, Prod.mk.injEq] at H
    obtain ⟨rfl, rfl, rfl, rfl, rfl, rfl, rfl⟩ := H
    go_enter Tryd.func42, Tryd.ntmps42
    go_wp2_with (first | ((with_reducible refine gate_dst (N := 1) rfl ?_); refine bxe 1 #[.int .i64 a0_0, .int .i64 a0_1, .int .i64 a0_2, .string a0_3, .bool a0_4, .int .i64 a0_5] 25 rfl rfl gr ?_; clear BX; intro gb1126 w38 GE1126 BX) | ((with_reducible refine gate_dst (N := 3) rfl ?_); refine bxe 3 #[.int .i64 0, .int .i64 0, .int .i64 0, .string (⟨#[]⟩ : ByteArray), .bool false, .int .i64 0] 25 rfl rfl gr ?_; clear BX; intro gb1127 w39 GE1127 BX) | ((with_reducible refine gate_callee (f := 60) rfl ?_); refine goesL_ (some 5) rfl rfl Tryd.func60 kr rfl #[.agg #[.int .i64 a0_0, .int .i64 a0_1, .int .i64 a0_2, .string a0_3, .bool a0_4, .int .i64 a0_5]] rfl ga ?_; (with_reducible refine (whittleref2_Of.calls k a0_0 a0_1 a0_2 a0_3 a0_4 a0_5 t1128 t1129 t1130 t1131 t1132 t1133 _ A2.out).mono ?_); rintro e w42 ⟨rfl, hb⟩; refine ⟨_, rfl, ?_⟩; replace BX := bx_call hb; clear hb))
    refine bodyPost_ret (results_tc rfl _ _ gb1127 25 #[.int .i64 0, .int .i64 0, .int .i64 0, .string (⟨#[]⟩ : ByteArray), .bool false, .int .i64 0] (0, 0) _ rfl bx_get Tryd.underlying25 rfl kr) rfl ?_
    exact ⟨er2, bx_bl⟩
   ·rw [if_neg c37] at H
    have c37b0 : (t1128 == 3) = false := beq_eq_false_iff_ne.mpr c37
    have c37b1 : (t1128 != 3) = true := bne_iff_ne.mpr c37
    by_cases c45 : t1128 = 4
    ·rw [if_pos c45] at H
     have c45b0 : (t1128 == 4) = true := beq_iff_eq.mpr c45
     have c45b1 : (t1128 != 4) = false := bne_eq_false_iff_eq.mpr c45
     clear c45
     simp only [Option.some.injEq, Prod.mk.injEq] at H
     obtain ⟨rfl, rfl, rfl, rfl, rfl, rfl, rfl⟩ := H
     go_enter Tryd.func42, Tryd.ntmps42
     try go_wp2_with (first | ((with_reducible refine gate_dst (N := 1) rfl ?_); refine bxe 1 #[.int .i64 a0_0, .int .i64 a0_1, .int .i64 a0_2, .string a0_3, .bool a0_4, .int .i64 a0_5] 25 rfl rfl gr ?_; clear BX; intro gb1126 w46 GE1126 BX) | ((with_reducible refine gate_dst (N := 3) rfl ?_); refine bxe 3 #[.int .i64 0, .int .i64 0, .int .i64 0, .string (⟨#[]⟩ : ByteArray), .bool false, .int .i64 0] 25 rfl rfl gr ?_; clear BX; intro gb1127 w47 GE1127 BX) | ((with_reducible refine gate_callee (f := 60) rfl ?_); refine goesL_ (some 5) rfl rfl Tryd.func60 kr rfl #[.agg #[.int .i64 a0_0, .int .i64 a0_1, .int .i64 a0_2, .string a0_3, .bool a0_4, .int .i64 a0_5]] rfl ga ?_; (with_reducible refine (whittleref2_Of.calls k a0_0 a0_1 a0_2 a0_3 a0_4 a0_5 t1128 t1129 t1130 t1131 t1132 t1133 _ A2.out).mono ?_); rintro e w50 ⟨rfl, hb⟩; refine ⟨_, rfl, ?_⟩; replace BX := bx_call hb; clear hb))
     replace BX : Bx w ((((((w50.setCell ⟨gb1126, 0, none⟩ (.int .i64 t1128)).setCell ⟨gb1126, 1, none⟩ (.int .i64 t1129)).setCell ⟨gb1126, 2, none⟩ (.int .i64 t1130)).setCell ⟨gb1126, 3, none⟩ (.string t1131)).setCell ⟨gb1126, 4, none⟩ (.bool t1132)).setCell ⟨gb1126, 5, none⟩ (.int .i64 t1133)) _ := bxi
     generalize ((((((w50.setCell ⟨gb1126, 0, none⟩ (.int .i64 t1128)).setCell ⟨gb1126, 1, none⟩ (.int .i64 t1129)).setCell ⟨gb1126, 2, none⟩ (.int .i64 t1130)).setCell ⟨gb1126, 3, none⟩ (.string t1131)).setCell ⟨gb1126, 4, none⟩ (.bool t1132)).setCell ⟨gb1126, 5, none⟩ (.int .i64 t1133)) = w52 at BX ⊢
     refine startm [false, true] (n := 3) (ds := []) #[false, false, false] kr rfl rfl (fun BX1 => ?_)
     clear BX
     have BX := BX1
     clear BX1
     generalize w52.drew = w53 at BX ⊢
     refine pure_ (i := 1) (N := some 2) (v := ?_) (a' := ?_) #[false, true, false] rfl rfl kr (fun _ _ _ h => h) (Or.inl ⟨by rfl, ?_⟩) ?_ ?_
     rotate_left
     ·intro w'
      go_simp
      with_reducible rfl
     rotate_left
     ·simp only [Act.put, List.setIfInBounds_toArray, List.set_cons_zero, List.set_cons_succ, i64_w, i32_w]
      rfl
     refine take_ (i := 0) (N := some 37) (v := ?_) (a' := ?_) #[true, true, false] rfl rfl kr (fun _ _ _ h => h) (Or.inl ⟨by rfl, ?_⟩) bxs ?_ ?_
     rotate_left
     ·intro w' hS
      go_simp
      with_reducible rfl
     rotate_left
     ·simp only [Act.put, List.setIfInBounds_toArray, List.set_cons_zero, List.set_cons_succ, i64_w, i32_w]
      rfl
     refine one_ (i := 2) (N := none) #[true, true, true] rfl rfl kr (by decide) (fun K hK => ?_)
     refine skip_ (w1 := ?_) (by rfl) rfl ?_ ?_
     rotate_left
     ·go_simp
      rfl
     refine hK.out _ _ bxs (fun hHeld => ?_)
     clear hK K hHeld
     refine done_ kr ?_
     try go_wp2
     refine bodyPost_ret (results_tc rfl _ _ gb1127 25 #[.int .i64 t1128, .int .i64 t1129, .int .i64 t1130, .string t1131, .bool t1132, .int .i64 t1133] (0, 0) _ rfl bx_get Tryd.underlying25 rfl kr) rfl ?_
     exact ⟨er2, bx_bl⟩
    ·rw [if_neg c45] at H
     have c45b0 : (t1128 == 4) = false := beq_eq_false_iff_ne.mpr c45
     have c45b1 : (t1128 != 4) = true := bne_iff_ne.mpr c45
     simp only [Option.some.injEq, Prod.mk.injEq] at H
     obtain ⟨rfl, rfl, rfl, rfl, rfl, rfl, rfl⟩ := H
     go_enter Tryd.func42, Tryd.ntmps42
     go_wp2_with (first | ((with_reducible refine gate_dst (N := 1) rfl ?_); refine bxe 1 #[.int .i64 a0_0, .int .i64 a0_1, .int .i64 a0_2, .string a0_3, .bool a0_4, .int .i64 a0_5] 25 rfl rfl gr ?_; clear BX; intro gb1126 w60 GE1126 BX) | ((with_reducible refine gate_dst (N := 3) rfl ?_); refine bxe 3 #[.int .i64 0, .int .i64 0, .int .i64 0, .string (⟨#[]⟩ : ByteArray), .bool false, .int .i64 0] 25 rfl rfl gr ?_; clear BX; intro gb1127 w61 GE1127 BX) | ((with_reducible refine gate_callee (f := 60) rfl ?_); refine goesL_ (some 5) rfl rfl Tryd.func60 kr rfl #[.agg #[.int .i64 a0_0, .int .i64 a0_1, .int .i64 a0_2, .string a0_3, .bool a0_4, .int .i64 a0_5]] rfl ga ?_; (with_reducible refine (whittleref2_Of.calls k a0_0 a0_1 a0_2 a0_3 a0_4 a0_5 t1128 t1129 t1130 t1131 t1132 t1133 _ A2.out).mono ?_); rintro e w64 ⟨rfl, hb⟩; refine ⟨_, rfl, ?_⟩; replace BX := bx_call hb; clear hb))
     refine bodyPost_ret (results_tc rfl _ _ gb1127 25 #[.int .i64 0, .int .i64 0, .int .i64 0, .string (⟨#[]⟩ : ByteArray), .bool false, .int .i64 0] (0, 0) _ rfl bx_get Tryd.underlying25 rfl kr) rfl ?_
     exact ⟨er2, bx_bl⟩
end
section
/-! ### whittleref2_fitting: function 78 -/
def whittleref2_fitting.f (k : Nat) (a0_0 : Int) (a0_1 : Int) (a1 : Bool) : Option (Int × Int × Int × ByteArray × Bool × Int) := if a1 = true then ((whittleref2_Number.f k a0_0 a0_1).bind fun bt1257 => (some (bt1257.1, bt1257.2.1, bt1257.2.2.1, bt1257.2.2.2.1, bt1257.2.2.2.2.1, bt1257.2.2.2.2.2))) else ((whittleref2_Fault.f 4).bind fun bt1263 => (some (bt1263.1, bt1263.2.1, bt1263.2.2.1, bt1263.2.2.2.1, bt1263.2.2.2.2.1, bt1263.2.2.2.2.2)))
theorem whittleref2_fitting.mono : ∀ a0 a1 a2 k, LeO (whittleref2_fitting.f k a0 a1 a2) (whittleref2_fitting.f (k + 1) a0 a1 a2) := by
 intro a0 a1 a2 k
 unfold whittleref2_fitting.f
 repeat' first
   | (with_reducible exact whittleref2_Number.mono _ _ _)
   | (with_reducible exact LeO.refl _)
   | (with_reducible exact LeO.none _)
   | (with_reducible refine LeO.ite ?_ ?_)
   | (with_reducible refine LeO.bind ?_ (fun _ => ?_))
   | exact whittleref2_Number.mono _ _ _
   | exact LeO.none _
   | refine LeO.ite ?_ ?_
   | refine LeO.bind ?_ (fun _ => ?_)
set_option maxHeartbeats 8000000 in
set_option maxRecDepth 100000 in
theorem whittleref2_fitting.calls (k : Nat) (a0_0 : Int) (a0_1 : Int) (a1 : Bool) (r1 : Int) (r2 : Int) (r3 : Int) (r4 : ByteArray) (r5 : Bool) (r6 : Int) (w : World) (h : whittleref2_fitting.f k a0_0 a0_1 a1 = some (r1, r2, r3, r4, r5, r6)) :
  Calls Tryd.prog 78 #[.agg #[.int .i64 a0_0, .int .i64 a0_1], .bool a1] w fun e w' => e = .returned (.agg #[.int .i64 r1, .int .i64 r2, .int .i64 r3, .string r4, .bool r5, .int .i64 r6]) ∧ Below w.heap.size w w' := by
 have hu23 := Tryd.underlying23
 have hu25 := Tryd.underlying25
 have BX := Bx.start w
 have H : (if a1 = true then ((whittleref2_Number.f k a0_0 a0_1).bind fun bt1257 => (some (bt1257.1, bt1257.2.1, bt1257.2.2.1, bt1257.2.2.2.1, bt1257.2.2.2.2.1, bt1257.2.2.2.2.2))) else ((whittleref2_Fault.f 4).bind fun bt1263 => (some (bt1263.1, bt1263.2.1, bt1263.2.2.1, bt1263.2.2.2.1, bt1263.2.2.2.2.1, bt1263.2.2.2.2.2)))) = some (r1, r2, r3, r4, r5, r6) := h
 clear h
 by_cases c3 : a1 = true
 ·subst c3
  have H1 : ((whittleref2_Number.f k a0_0 a0_1).bind fun bt1257 => (some (bt1257.1, bt1257.2.1, bt1257.2.2.1, bt1257.2.2.2.1, bt1257.2.2.2.2.1, bt1257.2.2.2.2.2))) = some (r1, r2, r3, r4, r5, r6) := by rw [if_pos rfl] at H; exact H
  clear H
  have H := H1
  clear H1
  replace H := Option.bind_eq_some_iff.mp H
  obtain ⟨⟨t1257, t1258, t1259, t1260, t1261, t1262⟩, A40, H⟩ := H
  replace H : (some (t1257, t1258, t1259, t1260, t1261, t1262)) = some (r1, r2, r3, r4, r5, r6) := H
  have A4 := Aside0.mk A40
  clear A40
  simp only [Option.some.injEq, Prod.mk.injEq] at H
  obtain ⟨rfl, rfl, rfl, rfl, rfl, rfl⟩ := H
  go_enter Tryd.func78, Tryd.ntmps78
  go_wp2_with (first | ((with_reducible refine gate_dst (N := 2) rfl ?_); refine bxe 2 #[.int .i64 a0_0, .int .i64 a0_1] 23 rfl rfl gr ?_; clear BX; intro gb1255 w5 GE1255 BX) | ((with_reducible refine gate_dst (N := 4) rfl ?_); refine bxe 4 #[.int .i64 0, .int .i64 0, .int .i64 0, .string (⟨#[]⟩ : ByteArray), .bool false, .int .i64 0] 25 rfl rfl gr ?_; clear BX; intro gb1256 w6 GE1256 BX) | ((with_reducible refine gate_callee (f := 20) rfl ?_); refine goesL_ (some 9) rfl rfl Tryd.func20 kr rfl #[.agg #[.int .i64 a0_0, .int .i64 a0_1]] rfl ga ?_; (with_reducible refine (whittleref2_Number.calls k a0_0 a0_1 t1257 t1258 t1259 t1260 t1261 t1262 _ A4.out).mono ?_); rintro e w9 ⟨rfl, hb⟩; refine ⟨_, rfl, ?_⟩; replace BX := bx_call hb; clear hb))
  refine bodyPost_ret (results_cell_row rfl _ _ gb1256 25 #[.int .i64 t1257, .int .i64 t1258, .int .i64 t1259, .string t1260, .bool t1261, .int .i64 t1262] (0, 0) _ rfl bx_get Tryd.underlying25 rfl kr) rfl ?_
  exact ⟨er2, bx_bl⟩
 ·replace c3 := Bool.eq_false_iff.mpr c3
  subst c3
  have H1 : ((whittleref2_Fault.f 4).bind fun bt1263 => (some (bt1263.1, bt1263.2.1, bt1263.2.2.1, bt1263.2.2.2.1, bt1263.2.2.2.2.1, bt1263.2.2.2.2.2))) = some (r1, r2, r3, r4, r5, r6) := by rw [if_neg (show ¬ (false = true) by decide)] at H; exact H
  clear H
  have H := H1
  clear H1
  replace H := Option.bind_eq_some_iff.mp H
  obtain ⟨⟨t1263, t1264, t1265, t1266, t1267, t1268⟩, A110, H⟩ := H
  replace H : (some (t1263, t1264, t1265, t1266, t1267, t1268)) = some (r1, r2, r3, r4, r5, r6) := H
  have A11 := Aside0.mk A110
  clear A110
  simp only [Option.some.injEq, Prod.mk.injEq] at H
  obtain ⟨rfl, rfl, rfl, rfl, rfl, rfl⟩ := H
  go_enter Tryd.func78, Tryd.ntmps78
  go_wp2_with (first | ((with_reducible refine gate_dst (N := 2) rfl ?_); refine bxe 2 #[.int .i64 a0_0, .int .i64 a0_1] 23 rfl rfl gr ?_; clear BX; intro gb1255 w12 GE1255 BX) | ((with_reducible refine gate_dst (N := 4) rfl ?_); refine bxe 4 #[.int .i64 0, .int .i64 0, .int .i64 0, .string (⟨#[]⟩ : ByteArray), .bool false, .int .i64 0] 25 rfl rfl gr ?_; clear BX; intro gb1256 w13 GE1256 BX) | ((with_reducible refine gate_callee (f := 26) rfl ?_); refine goesL_ (some 7) rfl rfl Tryd.func26 kr rfl #[.int .i64 4] rfl ga ?_; (with_reducible refine (whittleref2_Fault.calls 4 t1263 t1264 t1265 t1266 t1267 t1268 _ A11.out).mono ?_); rintro e w14 ⟨rfl, hb⟩; refine ⟨_, rfl, ?_⟩; replace BX := bx_call hb; clear hb))
  refine bodyPost_ret (results_cell_row rfl _ _ gb1256 25 #[.int .i64 t1263, .int .i64 t1264, .int .i64 t1265, .string t1266, .bool t1267, .int .i64 t1268] (0, 0) _ rfl bx_get Tryd.underlying25 rfl kr) rfl ?_
  exact ⟨er2, bx_bl⟩
end
section
/-! ### whittleref2_Un: function 44 -/
mutual
def whittleref2_Un.j0 : Nat → Int → Bool → Int → Int → Int → ByteArray → Bool → Int → Option (Int × Int × Int × ByteArray × Bool × Int)
 | 0, _, _, _, _, _, _, _, _ => none
 | k + 1, x0, x20, x1270000, x1270001, x1270002, x1270003, x1270004, x1270005 => if x20 = true then ((whittleref2_Fault.f 2).bind fun bt1277 => (some (bt1277.1, bt1277.2.1, bt1277.2.2.1, bt1277.2.2.2.1, bt1277.2.2.2.2.1, bt1277.2.2.2.2.2))) else (if x1270000 = 4 then (whittleref2_Un.j1 k x0 true x1270000 x1270001 x1270002 x1270003 x1270004 x1270005) else (whittleref2_Un.j1 k x0 (x0 == 2) x1270000 x1270001 x1270002 x1270003 x1270004 x1270005))
def whittleref2_Un.j1 : Nat → Int → Bool → Int → Int → Int → ByteArray → Bool → Int → Option (Int × Int × Int × ByteArray × Bool × Int)
 | 0, _, _, _, _, _, _, _, _ => none
 | k + 1, x0, x28, x1270000, x1270001, x1270002, x1270003, x1270004, x1270005 => if x28 = true then (some (x1270000, x1270001, x1270002, x1270003, x1270004, x1270005)) else ((whittleref2_AsNumber.f k x1270000 x1270001 x1270002 x1270003 x1270004 x1270005).bind fun bt1283 => (if bt1283.2.2.1 = 4 then (some (bt1283.2.2.1, bt1283.2.2.2.1, bt1283.2.2.2.2.1, bt1283.2.2.2.2.2.1, bt1283.2.2.2.2.2.2.1, bt1283.2.2.2.2.2.2.2)) else (if x0 = 1 then ((whittleref1_Neg.f k bt1283.1 bt1283.2.1).bind fun bt1293 => ((whittleref2_Number.f k bt1293.1 bt1293.2).bind fun bt1295 => (some (bt1295.1, bt1295.2.1, bt1295.2.2.1, bt1295.2.2.2.1, bt1295.2.2.2.2.1, bt1295.2.2.2.2.2)))) else ((whittleref1_Div.f k bt1283.1 bt1283.2.1 100 1).bind fun bt1301 => ((whittleref2_fitting.f k bt1301.1 bt1301.2.1 bt1301.2.2).bind fun bt1305 => (some (bt1305.1, bt1305.2.1, bt1305.2.2.1, bt1305.2.2.2.1, bt1305.2.2.2.2.1, bt1305.2.2.2.2.2)))))))
end
def whittleref2_Un.f (k : Nat) (a0 : Int) (a1_0 : Int) (a1_1 : Int) (a1_2 : Int) (a1_3 : ByteArray) (a1_4 : Bool) (a1_5 : Int) : Option (Int × Int × Int × ByteArray × Bool × Int) := (whittleref2_Of.f k a1_0 a1_1 a1_2 a1_3 a1_4 a1_5).bind fun bt1271 => (if a0 = 1 then (whittleref2_Un.j0 k a0 false bt1271.1 bt1271.2.1 bt1271.2.2.1 bt1271.2.2.2.1 bt1271.2.2.2.2.1 bt1271.2.2.2.2.2) else (if a0 = 2 then (whittleref2_Un.j0 k a0 false bt1271.1 bt1271.2.1 bt1271.2.2.1 bt1271.2.2.2.1 bt1271.2.2.2.2.1 bt1271.2.2.2.2.2) else (whittleref2_Un.j0 k a0 (a0 != 3) bt1271.1 bt1271.2.1 bt1271.2.2.1 bt1271.2.2.2.1 bt1271.2.2.2.2.1 bt1271.2.2.2.2.2)))
theorem whittleref2_Un.mono_l : ∀ k, (∀ y0 y1 y2 y3 y4 y5 y6 y7, LeO (whittleref2_Un.j0 k y0 y1 y2 y3 y4 y5 y6 y7) (whittleref2_Un.j0 (k + 1) y0 y1 y2 y3 y4 y5 y6 y7)) ∧ (∀ y0 y1 y2 y3 y4 y5 y6 y7, LeO (whittleref2_Un.j1 k y0 y1 y2 y3 y4 y5 y6 y7) (whittleref2_Un.j1 (k + 1) y0 y1 y2 y3 y4 y5 y6 y7))
 | 0 => ⟨fun _ _ _ _ _ _ _ _ r h => by simp [whittleref2_Un.j0] at h, fun _ _ _ _ _ _ _ _ r h => by simp [whittleref2_Un.j1] at h⟩
 | k + 1 => by
  obtain ⟨ih0, ih1⟩ := whittleref2_Un.mono_l k
  refine ⟨?_, ?_⟩
  ·intro y0 y1 y2 y3 y4 y5 y6 y7
   unfold whittleref2_Un.j0
   repeat' first
   | (with_reducible exact ih0 _ _ _ _ _ _ _ _)
   | (with_reducible exact ih1 _ _ _ _ _ _ _ _)
   | (with_reducible exact whittleref1_Div.mono _ _ _ _ _)
   | (with_reducible exact whittleref1_Neg.mono _ _ _)
   | (with_reducible exact whittleref2_AsNumber.mono _ _ _ _ _ _ _)
   | (with_reducible exact whittleref2_Number.mono _ _ _)
   | (with_reducible exact whittleref2_Of.mono _ _ _ _ _ _ _)
   | (with_reducible exact whittleref2_fitting.mono _ _ _ _)
   | (with_reducible exact LeO.refl _)
   | (with_reducible exact LeO.none _)
   | (with_reducible refine LeO.ite ?_ ?_)
   | (with_reducible refine LeO.bind ?_ (fun _ => ?_))
   | exact ih0 _ _ _ _ _ _ _ _
   | exact ih1 _ _ _ _ _ _ _ _
   | exact whittleref1_Div.mono _ _ _ _ _
   | exact whittleref1_Neg.mono _ _ _
   | exact whittleref2_AsNumber.mono _ _ _ _ _ _ _
   | exact whittleref2_Number.mono _ _ _
   | exact whittleref2_Of.mono _ _ _ _ _ _ _
   | exact whittleref2_fitting.mono _ _ _ _
   | exact LeO.none _
   | refine LeO.ite ?_ ?_
   | refine LeO.bind ?_ (fun _ => ?_)
  ·intro y0 y1 y2 y3 y4 y5 y6 y7
   unfold whittleref2_Un.j1
   repeat' first
   | (with_reducible exact ih0 _ _ _ _ _ _ _ _)
   | (with_reducible exact ih1 _ _ _ _ _ _ _ _)
   | (with_reducible exact whittleref1_Div.mono _ _ _ _ _)
   | (with_reducible exact whittleref1_Neg.mono _ _ _)
   | (with_reducible exact whittleref2_AsNumber.mono _ _ _ _ _ _ _)
   | (with_reducible exact whittleref2_Number.mono _ _ _)
   | (with_reducible exact whittleref2_Of.mono _ _ _ _ _ _ _)
   | (with_reducible exact whittleref2_fitting.mono _ _ _ _)
   | (with_reducible exact LeO.refl _)
   | (with_reducible exact LeO.none _)
   | (with_reducible refine LeO.ite ?_ ?_)
   | (with_reducible refine LeO.bind ?_ (fun _ => ?_))
   | exact ih0 _ _ _ _ _ _ _ _
   | exact ih1 _ _ _ _ _ _ _ _
   | exact whittleref1_Div.mono _ _ _ _ _
   | exact whittleref1_Neg.mono _ _ _
   | exact whittleref2_AsNumber.mono _ _ _ _ _ _ _
   | exact whittleref2_Number.mono _ _ _
   | exact whittleref2_Of.mono _ _ _ _ _ _ _
   | exact whittleref2_fitting.mono _ _ _ _
   | exact LeO.none _
   | refine LeO.ite ?_ ?_
   | refine LeO.bind ?_ (fun _ => ?_)
theorem whittleref2_Un.mono : ∀ a0 a1 a2 a3 a4 a5 a6 k, LeO (whittleref2_Un.f k a0 a1 a2 a3 a4 a5 a6) (whittleref2_Un.f (k + 1) a0 a1 a2 a3 a4 a5 a6) := by
 intro a0 a1 a2 a3 a4 a5 a6 k
 obtain ⟨ih0, ih1⟩ := whittleref2_Un.mono_l k
 unfold whittleref2_Un.f
 repeat' first
   | (with_reducible exact ih0 _ _ _ _ _ _ _ _)
   | (with_reducible exact ih1 _ _ _ _ _ _ _ _)
   | (with_reducible exact whittleref1_Div.mono _ _ _ _ _)
   | (with_reducible exact whittleref1_Neg.mono _ _ _)
   | (with_reducible exact whittleref2_AsNumber.mono _ _ _ _ _ _ _)
   | (with_reducible exact whittleref2_Number.mono _ _ _)
   | (with_reducible exact whittleref2_Of.mono _ _ _ _ _ _ _)
   | (with_reducible exact whittleref2_fitting.mono _ _ _ _)
   | (with_reducible exact LeO.refl _)
   | (with_reducible exact LeO.none _)
   | (with_reducible refine LeO.ite ?_ ?_)
   | (with_reducible refine LeO.bind ?_ (fun _ => ?_))
   | exact ih0 _ _ _ _ _ _ _ _
   | exact ih1 _ _ _ _ _ _ _ _
   | exact whittleref1_Div.mono _ _ _ _ _
   | exact whittleref1_Neg.mono _ _ _
   | exact whittleref2_AsNumber.mono _ _ _ _ _ _ _
   | exact whittleref2_Number.mono _ _ _
   | exact whittleref2_Of.mono _ _ _ _ _ _ _
   | exact whittleref2_fitting.mono _ _ _ _
   | exact LeO.none _
   | refine LeO.ite ?_ ?_
   | refine LeO.bind ?_ (fun _ => ?_)
set_option maxHeartbeats 8000000 in
set_option maxRecDepth 100000 in
theorem whittleref2_Un.calls (k : Nat) (a0 : Int) (a1_0 : Int) (a1_1 : Int) (a1_2 : Int) (a1_3 : ByteArray) (a1_4 : Bool) (a1_5 : Int) (r1 : Int) (r2 : Int) (r3 : Int) (r4 : ByteArray) (r5 : Bool) (r6 : Int) (w : World) (h : whittleref2_Un.f k a0 a1_0 a1_1 a1_2 a1_3 a1_4 a1_5 = some (r1, r2, r3, r4, r5, r6)) :
  Calls Tryd.prog 44 #[.int .i64 a0, .agg #[.int .i64 a1_0, .int .i64 a1_1, .int .i64 a1_2, .string a1_3, .bool a1_4, .int .i64 a1_5]] w fun e w' => e = .returned (.agg #[.int .i64 r1, .int .i64 r2, .int .i64 r3, .string r4, .bool r5, .int .i64 r6]) ∧ Below w.heap.size w w' := by
 have hu25 := Tryd.underlying25
 have hu23 := Tryd.underlying23
 have BX := Bx.start w
 have H : ((whittleref2_Of.f k a1_0 a1_1 a1_2 a1_3 a1_4 a1_5).bind fun bt1271 => (if a0 = 1 then (whittleref2_Un.j0 k a0 false bt1271.1 bt1271.2.1 bt1271.2.2.1 bt1271.2.2.2.1 bt1271.2.2.2.2.1 bt1271.2.2.2.2.2) else (if a0 = 2 then (whittleref2_Un.j0 k a0 false bt1271.1 bt1271.2.1 bt1271.2.2.1 bt1271.2.2.2.1 bt1271.2.2.2.2.1 bt1271.2.2.2.2.2) else (whittleref2_Un.j0 k a0 (a0 != 3) bt1271.1 bt1271.2.1 bt1271.2.2.1 bt1271.2.2.2.1 bt1271.2.2.2.2.1 bt1271.2.2.2.2.2)))) = some (r1, r2, r3, r4, r5, r6) := h
 clear h
 replace H := Option.bind_eq_some_iff.mp H
 obtain ⟨⟨t1271, t1272, t1273, t1274, t1275, t1276⟩, A30, H⟩ := H
 replace H : (if a0 = 1 then (whittleref2_Un.j0 k a0 false t1271 t1272 t1273 t1274 t1275 t1276) else (if a0 = 2 then (whittleref2_Un.j0 k a0 false t1271 t1272 t1273 t1274 t1275 t1276) else (whittleref2_Un.j0 k a0 (a0 != 3) t1271 t1272 t1273 t1274 t1275 t1276))) = some (r1, r2, r3, r4, r5, r6) := H
 have A3 := Aside0.mk A30
 clear A30
 have HC4 := Aside0.mk H
 clear H
 go_enter Tryd.func44, Tryd.ntmps44
 go_upto_region 2 with (first | ((with_reducible refine gate_dst (N := 3) rfl ?_); refine bxe 3 #[.int .i64 a1_0, .int .i64 a1_1, .int .i64 a1_2, .string a1_3, .bool a1_4, .int .i64 a1_5] 25 rfl rfl gr ?_; clear BX; intro gb1269 w5 GE1269 BX) | ((with_reducible refine gate_dst (N := 4) rfl ?_); refine bxe 4 #[.int .i64 0, .int .i64 0, .int .i64 0, .string (⟨#[]⟩ : ByteArray), .bool false, .int .i64 0] 25 rfl rfl gr ?_; clear BX; intro gb1270 w6 GE1270 BX) | ((with_reducible refine gate_callee (f := 60) rfl ?_); refine goesL_ (some 10) rfl rfl Tryd.func60 kr rfl #[.agg #[.int .i64 a1_0, .int .i64 a1_1, .int .i64 a1_2, .string a1_3, .bool a1_4, .int .i64 a1_5]] rfl ga ?_; (with_reducible refine (whittleref2_Of.calls k a1_0 a1_1 a1_2 a1_3 a1_4 a1_5 t1271 t1272 t1273 t1274 t1275 t1276 _ A3.out).mono ?_); rintro e w9 ⟨rfl, hb⟩; refine ⟨_, rfl, ?_⟩; replace BX := bx_call hb; clear hb))
 (try simp only [Act.put, List.setIfInBounds_toArray, List.set_cons_zero, List.set_cons_succ])
 go_cut [20] (fun v20 wc => ∃ (kq : Nat) (x20_3 : Bool), v20 = .bool x20_3 ∧ Aside0 (whittleref2_Un.j0 kq a0 x20_3 t1271 t1272 t1273 t1274 t1275 t1276 = some (r1, r2, r3, r4, r5, r6)) ∧ Aside0 (kq ≤ k) ∧ Bx w wc [(gb1270, 25, #[.int .i64 0, .int .i64 0, .int .i64 0, .string (⟨#[]⟩ : ByteArray), .bool false, .int .i64 0]), (gb1269, 25, #[.int .i64 t1271, .int .i64 t1272, .int .i64 t1273, .string t1274, .bool t1275, .int .i64 t1276])])
 case first =>
  have H := HC4.out
  clear HC4
  by_cases c11 : a0 = 1
  ·rw [if_pos c11] at H
   have c11b0 : (a0 == 1) = true := beq_iff_eq.mpr c11
   have c11b1 : (a0 != 1) = false := bne_eq_false_iff_eq.mpr c11
   clear c11
   (first | rw [c11b0] | (simp only [i64_w, i32_w]; rw [c11b0]) | skip)
   have H' := Aside0.mk H
   clear H
   go_wp2
   go_meet
   case rel => exact ⟨_, (false), er, H', ⟨by first | omega | exact Nat.le_refl _⟩, bxs⟩
  ·rw [if_neg c11] at H
   have c11b0 : (a0 == 1) = false := beq_eq_false_iff_ne.mpr c11
   have c11b1 : (a0 != 1) = true := bne_iff_ne.mpr c11
   (first | rw [c11b0] | (simp only [i64_w, i32_w]; rw [c11b0]) | skip)
   by_cases c12 : a0 = 2
   ·rw [if_pos c12] at H
    have c12b0 : (a0 == 2) = true := beq_iff_eq.mpr c12
    have c12b1 : (a0 != 2) = false := bne_eq_false_iff_eq.mpr c12
    clear c12
    have H' := Aside0.mk H
    clear H
    go_wp2
    go_meet
    case rel => exact ⟨_, (false), er, H', ⟨by first | omega | exact Nat.le_refl _⟩, bxs⟩
   ·rw [if_neg c12] at H
    have c12b0 : (a0 == 2) = false := beq_eq_false_iff_ne.mpr c12
    have c12b1 : (a0 != 2) = true := bne_iff_ne.mpr c12
    have H' := Aside0.mk H
    clear H
    go_wp2
    go_meet
    case rel => exact ⟨_, ((a0 != 3)), er, H', ⟨by first | omega | exact Nat.le_refl _⟩, bxs⟩
 case rest =>
  clear HC4
  try clear c1
  try clear p2
  try clear c4
  try clear c6
  try clear c7
  try clear c11
  try clear c11b0
  try clear c11b1
  try clear c12
  try clear c12b0
  try clear c12b1
  obtain ⟨kq, x20_3, rfl, HA, HJ3, BX⟩ := hcut
  cases kq with
  | zero => exact absurd HA.out (by simp [whittleref2_Un.j0])
  | succ kj3 =>
   have H := HA.out
   clear HA
   simp only [whittleref2_Un.j0] at H
   by_cases c13 : x20_3 = true
   ·subst c13
    have H1 : ((whittleref2_Fault.f 2).bind fun bt1277 => (some (bt1277.1, bt1277.2.1, bt1277.2.2.1, bt1277.2.2.2.1, bt1277.2.2.2.2.1, bt1277.2.2.2.2.2))) = some (r1, r2, r3, r4, r5, r6) := by rw [if_pos rfl] at H; exact H
    clear H
    have H := H1
    clear H1
    replace H := Option.bind_eq_some_iff.mp H
    obtain ⟨⟨t1277, t1278, t1279, t1280, t1281, t1282⟩, A140, H⟩ := H
    replace H : (some (t1277, t1278, t1279, t1280, t1281, t1282)) = some (r1, r2, r3, r4, r5, r6) := H
    have A14 := Aside0.mk A140
    clear A140
    simp only [Option.some.injEq, Prod.mk.injEq] at H
    obtain ⟨rfl, rfl, rfl, rfl, rfl, rfl⟩ := H
    go_wp2_with (first | ((with_reducible refine gate_callee (f := 26) rfl ?_); refine goesL_ (some 21) rfl rfl Tryd.func26 kr rfl #[.int .i64 2] rfl ga ?_; (with_reducible refine (whittleref2_Fault.calls 2 t1277 t1278 t1279 t1280 t1281 t1282 _ A14.out).mono ?_); rintro e w15 ⟨rfl, hb⟩; refine ⟨_, rfl, ?_⟩; replace BX := bx_call hb; clear hb))
    refine bodyPost_ret (results_cell_row rfl _ _ gb1270 25 #[.int .i64 t1277, .int .i64 t1278, .int .i64 t1279, .string t1280, .bool t1281, .int .i64 t1282] (0, 0) _ rfl bx_get Tryd.underlying25 rfl kr) rfl ?_
    exact ⟨er2, bx_bl⟩
   ·replace c13 := Bool.eq_false_iff.mpr c13
    subst c13
    have H1 : (if t1271 = 4 then (whittleref2_Un.j1 kj3 a0 true t1271 t1272 t1273 t1274 t1275 t1276) else (whittleref2_Un.j1 kj3 a0 (a0 == 2) t1271 t1272 t1273 t1274 t1275 t1276)) = some (r1, r2, r3, r4, r5, r6) := by rw [if_neg (show ¬ (false = true) by decide)] at H; exact H
    clear H
    have H := H1
    clear H1
    have HC18 := Aside0.mk H
    clear H
    go_upto_region 4 with (fail)
    go_cut [28] (fun v28 wc => ∃ (kq : Nat) (x28_17 : Bool), v28 = .bool x28_17 ∧ Aside0 (whittleref2_Un.j1 kq a0 x28_17 t1271 t1272 t1273 t1274 t1275 t1276 = some (r1, r2, r3, r4, r5, r6)) ∧ Aside0 (kq ≤ kj3) ∧ Bx w wc [(gb1270, 25, #[.int .i64 0, .int .i64 0, .int .i64 0, .string (⟨#[]⟩ : ByteArray), .bool false, .int .i64 0]), (gb1269, 25, #[.int .i64 t1271, .int .i64 t1272, .int .i64 t1273, .string t1274, .bool t1275, .int .i64 t1276])])
    case first =>
     have H := HC18.out
     clear HC18
     by_cases c19 : t1271 = 4
     ·rw [if_pos c19] at H
      have c19b0 : (t1271 == 4) = true := beq_iff_eq.mpr c19
      have c19b1 : (t1271 != 4) = false := bne_eq_false_iff_eq.mpr c19
      clear c19
      (first | rw [c19b0] | (simp only [i64_w, i32_w]; rw [c19b0]) | skip)
      have H' := Aside0.mk H
      clear H
      go_wp2
      go_meet
      case rel => exact ⟨_, (true), er, H', ⟨by have := HJ3.out; first | omega | exact Nat.le_refl _⟩, bxs⟩
     ·rw [if_neg c19] at H
      have c19b0 : (t1271 == 4) = false := beq_eq_false_iff_ne.mpr c19
      have c19b1 : (t1271 != 4) = true := bne_iff_ne.mpr c19
      (first | rw [c19b0] | (simp only [i64_w, i32_w]; rw [c19b0]) | skip)
      have H' := Aside0.mk H
      clear H
      go_wp2
      go_meet
      case rel => exact ⟨_, ((a0 == 2)), er, H', ⟨by have := HJ3.out; first | omega | exact Nat.le_refl _⟩, bxs⟩
    case rest =>
     clear HC18
     try clear c1
     try clear c2
     try clear p2
     try clear c4
     try clear c6
     try clear c7
     try clear c11
     try clear c11b0
     try clear c11b1
     try clear c12
     try clear c12b0
     try clear c12b1
     try clear c13
     try clear c16
     try clear c19
     try clear c19b0
     try clear c19b1
     try clear c20
     try clear c22
     try clear p2
     obtain ⟨kq, x28_17, rfl, HA, HJ17, BX⟩ := hcut
     cases kq with
     | zero => exact absurd HA.out (by simp [whittleref2_Un.j1])
     | succ kj17 =>
      have H := HA.out
      clear HA
      simp only [whittleref2_Un.j1] at H
      by_cases c24 : x28_17 = true
      ·subst c24
       have H1 : (some (t1271, t1272, t1273, t1274, t1275, t1276)) = some (r1, r2, r3, r4, r5, r6) := by rw [if_pos rfl] at H; exact H
       clear H
       have H := H1
       clear H1
       simp only [Option.some.injEq, Prod.mk.injEq] at H
       obtain ⟨rfl, rfl, rfl, rfl, rfl, rfl⟩ := H
       go_wp2
       refine bodyPost_ret (results_cell_row rfl _ _ gb1270 25 #[.int .i64 t1271, .int .i64 t1272, .int .i64 t1273, .string t1274, .bool t1275, .int .i64 t1276] (0, 0) _ rfl bx_get Tryd.underlying25 rfl kr) rfl ?_
       exact ⟨er2, bx_bl⟩
      ·replace c24 := Bool.eq_false_iff.mpr c24
       subst c24
       have H1 : ((whittleref2_AsNumber.f kj17 t1271 t1272 t1273 t1274 t1275 t1276).bind fun bt1283 => (if bt1283.2.2.1 = 4 then (some (bt1283.2.2.1, bt1283.2.2.2.1, bt1283.2.2.2.2.1, bt1283.2.2.2.2.2.1, bt1283.2.2.2.2.2.2.1, bt1283.2.2.2.2.2.2.2)) else (if a0 = 1 then ((whittleref1_Neg.f kj17 bt1283.1 bt1283.2.1).bind fun bt1293 => ((whittleref2_Number.f kj17 bt1293.1 bt1293.2).bind fun bt1295 => (some (bt1295.1, bt1295.2.1, bt1295.2.2.1, bt1295.2.2.2.1, bt1295.2.2.2.2.1, bt1295.2.2.2.2.2)))) else ((whittleref1_Div.f kj17 bt1283.1 bt1283.2.1 100 1).bind fun bt1301 => ((whittleref2_fitting.f kj17 bt1301.1 bt1301.2.1 bt1301.2.2).bind fun bt1305 => (some (bt1305.1, bt1305.2.1, bt1305.2.2.1, bt1305.2.2.2.1, bt1305.2.2.2.2.1, bt1305.2.2.2.2.2))))))) = some (r1, r2, r3, r4, r5, r6) := by rw [if_neg (show ¬ (false = true) by decide)] at H; exact H
       clear H
       have H := H1
       clear H1
       replace H := Option.bind_eq_some_iff.mp H
       obtain ⟨⟨t1283, t1284, t1285, t1286, t1287, t1288, t1289, t1290⟩, A280, H⟩ := H
       replace H : (if t1285 = 4 then (some (t1285, t1286, t1287, t1288, t1289, t1290)) else (if a0 = 1 then ((whittleref1_Neg.f kj17 t1283 t1284).bind fun bt1293 => ((whittleref2_Number.f kj17 bt1293.1 bt1293.2).bind fun bt1295 => (some (bt1295.1, bt1295.2.1, bt1295.2.2.1, bt1295.2.2.2.1, bt1295.2.2.2.2.1, bt1295.2.2.2.2.2)))) else ((whittleref1_Div.f kj17 t1283 t1284 100 1).bind fun bt1301 => ((whittleref2_fitting.f kj17 bt1301.1 bt1301.2.1 bt1301.2.2).bind fun bt1305 => (some (bt1305.1, bt1305.2.1, bt1305.2.2.1, bt1305.2.2.2.1, bt1305.2.2.2.2.1, bt1305.2.2.2.2.2)))))) = some (r1, r2, r3, r4, r5, r6) := H
       have A28 := Aside0.mk A280
       clear A280
       by_cases c29 : t1285 = 4
       ·rw [if_pos c29] at H
        have c29b0 : (t1285 == 4) = true := beq_iff_eq.mpr c29
        have c29b1 : (t1285 != 4) = false := bne_eq_false_iff_eq.mpr c29
        clear c29
        simp only [Option.some.injEq, Prod.mk.injEq] at H
        obtain ⟨rfl, rfl, rfl, rfl, rfl, rfl⟩ := H
        go_wp2_with (first | ((with_reducible refine gate_callee (f := 38) rfl ?_); refine goesL_ (some 32) rfl rfl Tryd.func38 kr rfl #[.agg #[.int .i64 t1271, .int .i64 t1272, .int .i64 t1273, .string t1274, .bool t1275, .int .i64 t1276]] rfl ga ?_; (with_reducible refine (whittleref2_AsNumber.calls kj17 t1271 t1272 t1273 t1274 t1275 t1276 t1283 t1284 t1285 t1286 t1287 t1288 t1289 t1290 _ A28.out).mono ?_); rintro e w32 ⟨rfl, hb⟩; refine ⟨_, rfl, ?_⟩; replace BX := bx_call hb; clear hb) | ((with_reducible refine gate_dst (N := 5) rfl ?_); refine bxe 5 #[.int .i64 0, .int .i64 0] 23 rfl rfl gr ?_; clear BX; intro gb1291 w33 GE1291 BX) | ((with_reducible refine gate_dst (N := 6) rfl ?_); refine bxe 6 #[.int .i64 0, .int .i64 0, .int .i64 0, .string (⟨#[]⟩ : ByteArray), .bool false, .int .i64 0] 25 rfl rfl gr ?_; clear BX; intro gb1292 w34 GE1292 BX))
        refine bodyPost_ret (results_cell_row rfl _ _ gb1270 25 #[.int .i64 t1285, .int .i64 t1286, .int .i64 t1287, .string t1288, .bool t1289, .int .i64 t1290] (0, 0) _ rfl bx_get Tryd.underlying25 rfl kr) rfl ?_
        exact ⟨er2, bx_bl⟩
       ·rw [if_neg c29] at H
        have c29b0 : (t1285 == 4) = false := beq_eq_false_iff_ne.mpr c29
        have c29b1 : (t1285 != 4) = true := bne_iff_ne.mpr c29
        by_cases c43 : a0 = 1
        ·rw [if_pos c43] at H
         have c43b0 : (a0 == 1) = true := beq_iff_eq.mpr c43
         have c43b1 : (a0 != 1) = false := bne_eq_false_iff_eq.mpr c43
         clear c43
         replace H := Option.bind_eq_some_iff.mp H
         obtain ⟨⟨t1293, t1294⟩, A440, H⟩ := H
         have A44 := Aside0.mk A440
         clear A440
         replace H := Option.bind_eq_some_iff.mp H
         obtain ⟨⟨t1295, t1296, t1297, t1298, t1299, t1300⟩, A450, H⟩ := H
         replace H : (some (t1295, t1296, t1297, t1298, t1299, t1300)) = some (r1, r2, r3, r4, r5, r6) := H
         have A45 := Aside0.mk A450
         clear A450
         simp only [Option.some.injEq, Prod.mk.injEq] at H
         obtain ⟨rfl, rfl, rfl, rfl, rfl, rfl⟩ := H
         go_wp2_with (first | ((with_reducible refine gate_callee (f := 38) rfl ?_); refine goesL_ (some 32) rfl rfl Tryd.func38 kr rfl #[.agg #[.int .i64 t1271, .int .i64 t1272, .int .i64 t1273, .string t1274, .bool t1275, .int .i64 t1276]] rfl ga ?_; (with_reducible refine (whittleref2_AsNumber.calls kj17 t1271 t1272 t1273 t1274 t1275 t1276 t1283 t1284 t1285 t1286 t1287 t1288 t1289 t1290 _ A28.out).mono ?_); rintro e w48 ⟨rfl, hb⟩; refine ⟨_, rfl, ?_⟩; replace BX := bx_call hb; clear hb) | ((with_reducible refine gate_dst (N := 5) rfl ?_); refine bxe 5 #[.int .i64 0, .int .i64 0] 23 rfl rfl gr ?_; clear BX; intro gb1291 w49 GE1291 BX) | ((with_reducible refine gate_dst (N := 6) rfl ?_); refine bxe 6 #[.int .i64 0, .int .i64 0, .int .i64 0, .string (⟨#[]⟩ : ByteArray), .bool false, .int .i64 0] 25 rfl rfl gr ?_; clear BX; intro gb1292 w50 GE1292 BX) | ((with_reducible refine gate_callee (f := 76) rfl ?_); refine goesL_ (some 42) rfl rfl Tryd.func76 kr rfl #[.agg #[.int .i64 t1283, .int .i64 t1284]] rfl ga ?_; (with_reducible refine (whittleref1_Neg.calls kj17 t1283 t1284 t1293 t1294 _ A44.out).mono ?_); rintro e w58 ⟨rfl, hb⟩; refine ⟨_, rfl, ?_⟩; replace BX := bx_call hb; clear hb) | ((with_reducible refine gate_callee (f := 20) rfl ?_); refine goesL_ (some 43) rfl rfl Tryd.func20 kr rfl #[.agg #[.int .i64 t1293, .int .i64 t1294]] rfl ga ?_; (with_reducible refine (whittleref2_Number.calls kj17 t1293 t1294 t1295 t1296 t1297 t1298 t1299 t1300 _ A45.out).mono ?_); rintro e w59 ⟨rfl, hb⟩; refine ⟨_, rfl, ?_⟩; replace BX := bx_call hb; clear hb))
         refine bodyPost_ret (results_cell_row rfl _ _ gb1270 25 #[.int .i64 t1295, .int .i64 t1296, .int .i64 t1297, .string t1298, .bool t1299, .int .i64 t1300] (0, 0) _ rfl bx_get Tryd.underlying25 rfl kr) rfl ?_
         exact ⟨er2, bx_bl⟩
        ·rw [if_neg c43] at H
         have c43b0 : (a0 == 1) = false := beq_eq_false_iff_ne.mpr c43
         have c43b1 : (a0 != 1) = true := bne_iff_ne.mpr c43
         replace H := Option.bind_eq_some_iff.mp H
         obtain ⟨⟨t1301, t1302, t1303⟩, A610, H⟩ := H
         have A61 := Aside0.mk A610
         clear A610
         replace H := Option.bind_eq_some_iff.mp H
         obtain ⟨⟨t1305, t1306, t1307, t1308, t1309, t1310⟩, A620, H⟩ := H
         replace H : (some (t1305, t1306, t1307, t1308, t1309, t1310)) = some (r1, r2, r3, r4, r5, r6) := H
         have A62 := Aside0.mk A620
         clear A620
         simp only [Option.some.injEq, Prod.mk.injEq] at H
         obtain ⟨rfl, rfl, rfl, rfl, rfl, rfl⟩ := H
         go_wp2_with (first | ((with_reducible refine gate_callee (f := 38) rfl ?_); refine goesL_ (some 32) rfl rfl Tryd.func38 kr rfl #[.agg #[.int .i64 t1271, .int .i64 t1272, .int .i64 t1273, .string t1274, .bool t1275, .int .i64 t1276]] rfl ga ?_; (with_reducible refine (whittleref2_AsNumber.calls kj17 t1271 t1272 t1273 t1274 t1275 t1276 t1283 t1284 t1285 t1286 t1287 t1288 t1289 t1290 _ A28.out).mono ?_); rintro e w65 ⟨rfl, hb⟩; refine ⟨_, rfl, ?_⟩; replace BX := bx_call hb; clear hb) | ((with_reducible refine gate_dst (N := 5) rfl ?_); refine bxe 5 #[.int .i64 0, .int .i64 0] 23 rfl rfl gr ?_; clear BX; intro gb1291 w66 GE1291 BX) | ((with_reducible refine gate_dst (N := 6) rfl ?_); refine bxe 6 #[.int .i64 0, .int .i64 0, .int .i64 0, .string (⟨#[]⟩ : ByteArray), .bool false, .int .i64 0] 25 rfl rfl gr ?_; clear BX; intro gb1292 w67 GE1292 BX) | ((with_reducible refine gate_callee (f := 77) rfl ?_); refine goesL_ (some 47) rfl rfl Tryd.func77 kr rfl #[.agg #[.int .i64 t1283, .int .i64 t1284], .agg #[.int .i64 100, .int .i64 1]] rfl ga ?_; (with_reducible refine (whittleref1_Div.calls kj17 t1283 t1284 100 1 t1301 t1302 t1303 _ A61.out).mono ?_); rintro e w75 ⟨rfl, hb⟩; refine ⟨_, rfl, ?_⟩; replace BX := bx_call hb; clear hb) | ((with_reducible refine gate_dst (N := 7) rfl ?_); refine bxe 7 #[.int .i64 0, .int .i64 0] 23 rfl rfl gr ?_; clear BX; intro gb1304 w76 GE1304 BX) | ((with_reducible refine gate_callee (f := 78) rfl ?_); refine goesL_ (some 52) rfl rfl Tryd.func78 kr rfl #[.agg #[.int .i64 t1301, .int .i64 t1302], .bool t1303] rfl ga ?_; (with_reducible refine (whittleref2_fitting.calls kj17 t1301 t1302 t1303 t1305 t1306 t1307 t1308 t1309 t1310 _ A62.out).mono ?_); rintro e w82 ⟨rfl, hb⟩; refine ⟨_, rfl, ?_⟩; replace BX := bx_call hb; clear hb))
         refine bodyPost_ret (results_cell_row rfl _ _ gb1270 25 #[.int .i64 t1305, .int .i64 t1306, .int .i64 t1307, .string t1308, .bool t1309, .int .i64 t1310] (0, 0) _ rfl bx_get Tryd.underlying25 rfl kr) rfl ?_
         exact ⟨er2, bx_bl⟩
end
end Go.Proofs.YtmakkdlkgfgaoaaDoor.F
