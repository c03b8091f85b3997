-- Laid by program (wip/tools/gen.sh of this repo) out of the translation; Lean checks it.
import Derived.Test.YtlcjfabbnclalaaDoorF0
import Derived.Test.YtlcjfabbnclalaaDoorB0
namespace Go.Proofs.YtlcjfabbnclalaaDoor.F
open Go.RowKit Go.Proofs.YtlcjfabbnclalaaDoorW.PrintWords Go.Proofs.YtlcjfabbnclalaaDoorW.PrintLast Go.Proofs.YtlcjfabbnclalaaDoorW.PrintMore
attribute [local go_sem] max2_int min2_int max_two min_two max_three min_three max_four min_four   -- for this text's walks alone
set_option linter.unusedVariables false
set_option linter.unusedSimpArgs false

/-! ### whittleref1_piece: function 71 -/
mutual
def whittleref1_piece.l0 : Nat → ByteArray → Int → Int → Int → Option (Int × Int × Bool)
 | 0, _, _, _, _ => none
 | k + 1, x0, x1, x7, x8 => if x8 < (x0.size : Int) then (if 0 ≤ x8 then (if (bt x0 x8) ≥ 48 then (whittleref1_piece.j1 k x0 x1 x7 x8 (decide ((bt x0 x8) ≤ 57))) else (whittleref1_piece.j1 k x0 x1 x7 x8 false)) else (none)) else (whittleref1_piece.j1 k x0 x1 x7 x8 false)
def whittleref1_piece.j1 : Nat → ByteArray → Int → Int → Int → Bool → Option (Int × Int × Bool)
 | 0, _, _, _, _, _ => none
 | k + 1, x0, x1, x7, x8, x25 => if x25 = true then (if x7 > 100000000000000000 then (some (0, 0, false)) else (if 0 ≤ x8 then (if x8 < (x0.size : Int) then (if (IntKind.u64.wrap ((IntKind.u64.wrap (x7 * 10)) + (((bt x0 x8) - 48) % 256))) > 1000000000000000000 then (some (0, 0, false)) else (whittleref1_piece.l0 k x0 x1 (IntKind.u64.wrap ((IntKind.u64.wrap (x7 * 10)) + (((bt x0 x8) - 48) % 256))) (wrap64 (x8 + 1)))) else (none)) else (none))) else (some (x7, x8, decide (x8 > x1)))
end
def whittleref1_piece.f (k : Nat) (a0 : ByteArray) (a1 : Int) : Option (Int × Int × Bool) := whittleref1_piece.l0 k a0 a1 0 a1
theorem whittleref1_piece.mono_l : ∀ k, (∀ y0 y1 y2 y3, LeO (whittleref1_piece.l0 k y0 y1 y2 y3) (whittleref1_piece.l0 (k + 1) y0 y1 y2 y3)) ∧ (∀ y0 y1 y2 y3 y4, LeO (whittleref1_piece.j1 k y0 y1 y2 y3 y4) (whittleref1_piece.j1 (k + 1) y0 y1 y2 y3 y4))
 | 0 => ⟨fun _ _ _ _ r h => by simp [whittleref1_piece.l0] at h, fun _ _ _ _ _ r h => by simp [whittleref1_piece.j1] at h⟩
 | k + 1 => by
  obtain ⟨ih0, ih1⟩ := whittleref1_piece.mono_l k
  refine ⟨?_, ?_⟩
  ·intro y0 y1 y2 y3
   unfold whittleref1_piece.l0
   repeat' first
   | (with_reducible exact ih0 _ _ _ _)
   | (with_reducible exact ih1 _ _ _ _ _)
   | (with_reducible exact LeO.refl _)
   | (with_reducible exact LeO.none _)
   | (with_reducible refine LeO.ite ?_ ?_)
   | (with_reducible refine LeO.bind ?_ (fun _ => ?_))
   | exact ih0 _ _ _ _
   | exact ih1 _ _ _ _ _
   | exact LeO.none _
   | refine LeO.ite ?_ ?_
   | refine LeO.bind ?_ (fun _ => ?_)
  ·intro y0 y1 y2 y3 y4
   unfold whittleref1_piece.j1
   repeat' first
   | (with_reducible exact ih0 _ _ _ _)
   | (with_reducible exact ih1 _ _ _ _ _)
   | (with_reducible exact LeO.refl _)
   | (with_reducible exact LeO.none _)
   | (with_reducible refine LeO.ite ?_ ?_)
   | (with_reducible refine LeO.bind ?_ (fun _ => ?_))
   | exact ih0 _ _ _ _
   | exact ih1 _ _ _ _ _
   | exact LeO.none _
   | refine LeO.ite ?_ ?_
   | refine LeO.bind ?_ (fun _ => ?_)
theorem whittleref1_piece.mono : ∀ a0 a1 k, LeO (whittleref1_piece.f k a0 a1) (whittleref1_piece.f (k + 1) a0 a1) := by
 intro a0 a1 k
 obtain ⟨ih0, ih1⟩ := whittleref1_piece.mono_l k
 unfold whittleref1_piece.f
 repeat' first
   | (with_reducible exact ih0 _ _ _ _)
   | (with_reducible exact ih1 _ _ _ _ _)
   | (with_reducible exact LeO.refl _)
   | (with_reducible exact LeO.none _)
   | (with_reducible refine LeO.ite ?_ ?_)
   | (with_reducible refine LeO.bind ?_ (fun _ => ?_))
   | exact ih0 _ _ _ _
   | exact ih1 _ _ _ _ _
   | exact LeO.none _
   | refine LeO.ite ?_ ?_
   | refine LeO.bind ?_ (fun _ => ?_)
set_option maxHeartbeats 8000000 in
set_option maxRecDepth 100000 in
theorem whittleref1_piece.calls (k : Nat) (a0 : ByteArray) (a1 : Int) (r1 : Int) (r2 : Int) (r3 : Bool) (w : World) (h : whittleref1_piece.f k a0 a1 = some (r1, r2, r3)) :
  Calls Tryd.prog 71 #[.string a0, .int .i64 a1] w fun e w' => e = .returned (.tuple #[.int .u64 r1, .int .i64 r2, .bool r3]) ∧ Drawn0 w w' := by
 have H : (whittleref1_piece.l0 k a0 a1 0 a1) = some (r1, r2, r3) := h
 clear h
 have H' := Aside0.mk H
 clear H
 go_enter Tryd.func71, Tryd.ntmps71
 go_wp2
 go_loopg [7, 8] k (fun kq v7 v8 w' => ∃ (x7_1 : Int) (x8_1 : Int), v7 = .int .u64 x7_1 ∧ v8 = .int .i64 x8_1 ∧ Aside0 (whittleref1_piece.l0 kq a0 a1 x7_1 x8_1 = some (r1, r2, r3)) ∧ Aside0 (kq ≤ k) ∧ Drawn0 w w')
 case atStart => exact ⟨(0), (a1), (by first | rfl | (simp; done) | (simp [*]; done) | (simp [bne_nil]; done)), (by first | rfl | (simp; done) | (simp [*]; done) | (simp [bne_nil]; done)), H', ⟨Nat.le_refl _⟩, by repeat (first | exact Drawn0.refl _ | apply Drawn0.step)⟩
 case round =>
  clear H'
  try clear p2
  obtain ⟨x7_1, x8_1, rfl, rfl, HA, HK1, ⟨m1, rfl⟩⟩ := hrel
  cases gk with
  | zero => exact absurd HA.out (by simp [whittleref1_piece.l0])
  | succ k1 =>
   have H := HA.out
   clear HA
   simp only [whittleref1_piece.l0] at H
   have HC3 := Aside0.mk H
   clear H
   go_upto_region 3 with (fail)
   go_cut [25] (fun v25 wc => ∃ (kq : Nat) (x25_2 : Bool), v25 = .bool x25_2 ∧ Aside0 (whittleref1_piece.j1 kq a0 a1 x7_1 x8_1 x25_2 = some (r1, r2, r3)) ∧ Aside0 (kq ≤ k1) ∧ Drawn0 w wc)
   case first =>
    have H := HC3.out
    clear HC3
    by_cases c4 : x8_1 < (a0.size : Int)
    ·rw [if_pos c4] at H
     have c4b0 : decide (x8_1 < (a0.size : Int)) = true := decide_eq_true c4
     clear c4
     (first | rw [c4b0] | (simp only [i64_w, i32_w]; rw [c4b0]) | skip)
     by_cases c5 : 0 ≤ x8_1
     ·rw [if_pos c5] at H
      have c5b0 : decide (0 ≤ x8_1) = true := decide_eq_true c5
      clear c5
      by_cases c7 : (bt a0 x8_1) ≥ 48
      ·rw [if_pos c7] at H
       have c7b0 : decide (48 ≤ (bt a0 x8_1)) = true := decide_eq_true c7
       clear c7
       have H' := Aside0.mk H
       clear H
       have p6 : 0 ≤ (x8_1 : Int) := of_decide_eq_true (by first | (with_reducible assumption) | assumption)
       have q6 : x8_1 < (a0.size : Int) := of_decide_eq_true (by first | (with_reducible assumption) | assumption)
       have hx6 := bt_at a0 x8_1
       replace p6 := eq_true p6
       replace q6 := eq_true q6
       have p8 : 0 ≤ (x8_1 : Int) := of_decide_eq_true (by first | (with_reducible assumption) | assumption)
       have q8 : x8_1 < (a0.size : Int) := of_decide_eq_true (by first | (with_reducible assumption) | assumption)
       have hx8 := bt_at a0 x8_1
       replace p8 := eq_true p8
       replace q8 := eq_true q8
       go_wp2
       go_meet
       case rel => exact ⟨_, (decide ((bt a0 x8_1) ≤ 57)), (by first | rfl | (simp; done) | (simp [*]; done) | (simp [bne_nil]; done)), H', ⟨by have := HK1.out; first | omega | exact Nat.le_refl _⟩, by repeat (first | exact Drawn0.refl _ | apply Drawn0.step)⟩
      ·rw [if_neg c7] at H
       have c7b0 : decide (48 ≤ (bt a0 x8_1)) = false := decide_eq_false c7
       clear c7
       have H' := Aside0.mk H
       clear H
       have p6 : 0 ≤ (x8_1 : Int) := of_decide_eq_true (by first | (with_reducible assumption) | assumption)
       have q6 : x8_1 < (a0.size : Int) := of_decide_eq_true (by first | (with_reducible assumption) | assumption)
       have hx6 := bt_at a0 x8_1
       replace p6 := eq_true p6
       replace q6 := eq_true q6
       go_wp2
       go_meet
       case rel => exact ⟨_, (false), (by first | rfl | (simp; done) | (simp [*]; done) | (simp [bne_nil]; done)), H', ⟨by have := HK1.out; first | omega | exact Nat.le_refl _⟩, by repeat (first | exact Drawn0.refl _ | apply Drawn0.step)⟩
     ·rw [if_neg c5] at H
      exact absurd H (by simp)
    ·rw [if_neg c4] at H
     have c4b0 : decide (x8_1 < (a0.size : Int)) = false := decide_eq_false c4
     clear c4
     (first | rw [c4b0] | (simp only [i64_w, i32_w]; rw [c4b0]) | skip)
     have H' := Aside0.mk H
     clear H
     go_wp2
     go_meet
     case rel => exact ⟨_, (false), (by first | rfl | (simp; done) | (simp [*]; done) | (simp [bne_nil]; done)), H', ⟨by have := HK1.out; first | omega | exact Nat.le_refl _⟩, by repeat (first | exact Drawn0.refl _ | apply Drawn0.step)⟩
   case rest =>
    clear HC3
    try clear p2
    try clear c4
    try clear c4b0
    try clear c5
    try clear c5b0
    try clear p6
    try clear q6
    try clear hx6
    try clear c7
    try clear c7b0
    try clear p8
    try clear q8
    try clear hx8
    try clear p2
    try clear p6
    try clear p8
    try clear q6
    try clear q8
    obtain ⟨kq, x25_2, rfl, HA, HJ2, ⟨mc2, rfl⟩⟩ := hcut
    cases kq with
    | zero => exact absurd HA.out (by simp [whittleref1_piece.j1])
    | succ kj2 =>
     have H := HA.out
     clear HA
     simp only [whittleref1_piece.j1] at H
     by_cases c9 : x25_2 = true
     ·subst c9
      have H1 : (if x7_1 > 100000000000000000 then (some (0, 0, false)) else (if 0 ≤ x8_1 then (if x8_1 < (a0.size : Int) then (if (IntKind.u64.wrap ((IntKind.u64.wrap (x7_1 * 10)) + (((bt a0 x8_1) - 48) % 256))) > 1000000000000000000 then (some (0, 0, false)) else (whittleref1_piece.l0 kj2 a0 a1 (IntKind.u64.wrap ((IntKind.u64.wrap (x7_1 * 10)) + (((bt a0 x8_1) - 48) % 256))) (wrap64 (x8_1 + 1)))) else (none)) else (none))) = some (r1, r2, r3) := by rw [if_pos rfl] at H; exact H
      clear H
      have H := H1
      clear H1
      by_cases c10 : x7_1 > 100000000000000000
      ·rw [if_pos c10] at H
       have c10b0 : decide (100000000000000000 < x7_1) = true := decide_eq_true c10
       clear c10
       simp only [Option.some.injEq, Prod.mk.injEq] at H
       obtain ⟨rfl, rfl, rfl⟩ := H
       go_wp2
       go_ret3
       exact ⟨by first | rfl | (simp; done) | (simp [*]; done) | (simp [bne_nil]; done), by repeat (first | exact Drawn0.refl _ | apply Drawn0.step)⟩
      ·rw [if_neg c10] at H
       have c10b0 : decide (100000000000000000 < x7_1) = false := decide_eq_false c10
       clear c10
       by_cases c11 : 0 ≤ x8_1
       ·rw [if_pos c11] at H
        have c11b0 : decide (0 ≤ x8_1) = true := decide_eq_true c11
        clear c11
        by_cases c12 : x8_1 < (a0.size : Int)
        ·rw [if_pos c12] at H
         have c12b0 : decide (x8_1 < (a0.size : Int)) = true := decide_eq_true c12
         clear c12
         by_cases c14 : (IntKind.u64.wrap ((IntKind.u64.wrap (x7_1 * 10)) + (((bt a0 x8_1) - 48) % 256))) > 1000000000000000000
         ·rw [if_pos c14] at H
          have c14b0 : decide (1000000000000000000 < (IntKind.u64.wrap ((IntKind.u64.wrap (x7_1 * 10)) + (((bt a0 x8_1) - 48) % 256)))) = true := decide_eq_true c14
          clear c14
          simp only [Option.some.injEq, Prod.mk.injEq] at H
          obtain ⟨rfl, rfl, rfl⟩ := H
          have p13 : 0 ≤ (x8_1 : Int) := of_decide_eq_true (by first | (with_reducible assumption) | assumption)
          have q13 : x8_1 < (a0.size : Int) := of_decide_eq_true (by first | (with_reducible assumption) | assumption)
          have hx13 := bt_at a0 x8_1
          replace p13 := eq_true p13
          replace q13 := eq_true q13
          go_wp2
          go_ret3
          exact ⟨by first | rfl | (simp; done) | (simp [*]; done) | (simp [bne_nil]; done), by repeat (first | exact Drawn0.refl _ | apply Drawn0.step)⟩
         ·rw [if_neg c14] at H
          have c14b0 : decide (1000000000000000000 < (IntKind.u64.wrap ((IntKind.u64.wrap (x7_1 * 10)) + (((bt a0 x8_1) - 48) % 256)))) = false := decide_eq_false c14
          clear c14
          have H' := Aside0.mk H
          clear H
          have p13 : 0 ≤ (x8_1 : Int) := of_decide_eq_true (by first | (with_reducible assumption) | assumption)
          have q13 : x8_1 < (a0.size : Int) := of_decide_eq_true (by first | (with_reducible assumption) | assumption)
          have hx13 := bt_at a0 x8_1
          replace p13 := eq_true p13
          replace q13 := eq_true q13
          go_wp2
          go_roundg kj2
          case measure => have := HK1.out; have := HJ2.out; omega
          case rel => exact ⟨(IntKind.u64.wrap ((IntKind.u64.wrap (x7_1 * 10)) + (((bt a0 x8_1) - 48) % 256))), (wrap64 (x8_1 + 1)), (by first | rfl | (simp; done) | (simp [*]; done) | (simp [bne_nil]; done)), (by first | rfl | (simp; done) | (simp [*]; done) | (simp [bne_nil]; done)), H', ⟨by have := HK1.out; have := HJ2.out; omega⟩, by repeat (first | exact Drawn0.refl _ | apply Drawn0.step)⟩
        ·rw [if_neg c12] at H
         exact absurd H (by simp)
       ·rw [if_neg c11] at H
        exact absurd H (by simp)
     ·replace c9 := Bool.eq_false_iff.mpr c9
      subst c9
      have H1 : (some (x7_1, x8_1, decide (x8_1 > a1))) = some (r1, r2, r3) := by rw [if_neg (show ¬ (false = true) by decide)] at H; exact H
      clear H
      have H := H1
      clear H1
      simp only [Option.some.injEq, Prod.mk.injEq] at H
      obtain ⟨rfl, rfl, rfl⟩ := H
      go_wp2
      go_ret3
      exact ⟨by first | rfl | (simp; done) | (simp [*]; done) | (simp [bne_nil]; done), by repeat (first | exact Drawn0.refl _ | apply Drawn0.step)⟩

/-! ### whittleref1_ten: function 72 -/
def whittleref1_ten.l0 : Nat → Int → Int → Int → Option (Int)
 | 0, _, _, _ => none
 | k + 1, x0, x3, x4 => if x4 < x0 then (whittleref1_ten.l0 k x0 (IntKind.u64.wrap (x3 * 10)) (wrap64 (x4 + 1))) else (some x3)
def whittleref1_ten.f (k : Nat) (a0 : Int) : Option (Int) := whittleref1_ten.l0 k a0 1 0
theorem whittleref1_ten.mono_l : ∀ k, (∀ y0 y1 y2, LeO (whittleref1_ten.l0 k y0 y1 y2) (whittleref1_ten.l0 (k + 1) y0 y1 y2))
 | 0 => fun _ _ _ r h => by simp [whittleref1_ten.l0] at h
 | k + 1 => by
  have ih0 := whittleref1_ten.mono_l k
  ·intro y0 y1 y2
   unfold whittleref1_ten.l0
   repeat' first
   | (with_reducible exact ih0 _ _ _)
   | (with_reducible exact LeO.refl _)
   | (with_reducible exact LeO.none _)
   | (with_reducible refine LeO.ite ?_ ?_)
   | (with_reducible refine LeO.bind ?_ (fun _ => ?_))
   | exact ih0 _ _ _
   | exact LeO.none _
   | refine LeO.ite ?_ ?_
   | refine LeO.bind ?_ (fun _ => ?_)
theorem whittleref1_ten.mono : ∀ a0 k, LeO (whittleref1_ten.f k a0) (whittleref1_ten.f (k + 1) a0) := by
 intro a0 k
 have ih0 := whittleref1_ten.mono_l k
 unfold whittleref1_ten.f
 repeat' first
   | (with_reducible exact ih0 _ _ _)
   | (with_reducible exact LeO.refl _)
   | (with_reducible exact LeO.none _)
   | (with_reducible refine LeO.ite ?_ ?_)
   | (with_reducible refine LeO.bind ?_ (fun _ => ?_))
   | exact ih0 _ _ _
   | exact LeO.none _
   | refine LeO.ite ?_ ?_
   | refine LeO.bind ?_ (fun _ => ?_)
set_option maxHeartbeats 8000000 in
set_option maxRecDepth 100000 in
theorem whittleref1_ten.calls (k : Nat) (a0 : Int) (r : Int) (w : World) (h : whittleref1_ten.f k a0 = some r) :
  Calls Tryd.prog 72 #[.int .i64 a0] w fun e w' => e = .returned (.int .u64 r) ∧ Drawn0 w w' := by
 have H : (whittleref1_ten.l0 k a0 1 0) = some r := h
 clear h
 have H' := Aside0.mk H
 clear H
 go_enter Tryd.func72, Tryd.ntmps72
 go_wp2
 go_loopg [3, 4] k (fun kq v3 v4 w' => ∃ (x3_1 : Int) (x4_1 : Int), v3 = .int .u64 x3_1 ∧ v4 = .int .i64 x4_1 ∧ Aside0 (whittleref1_ten.l0 kq a0 x3_1 x4_1 = some r) ∧ Aside0 (kq ≤ k) ∧ Drawn0 w w')
 case atStart => exact ⟨(1), (0), (by first | rfl | (simp; done) | (simp [*]; done) | (simp [bne_nil]; done)), (by first | rfl | (simp; done) | (simp [*]; done) | (simp [bne_nil]; done)), H', ⟨Nat.le_refl _⟩, by repeat (first | exact Drawn0.refl _ | apply Drawn0.step)⟩
 case round =>
  clear H'
  obtain ⟨x3_1, x4_1, rfl, rfl, HA, HK1, ⟨m1, rfl⟩⟩ := hrel
  cases gk with
  | zero => exact absurd HA.out (by simp [whittleref1_ten.l0])
  | succ k1 =>
   have H := HA.out
   clear HA
   simp only [whittleref1_ten.l0] at H
   by_cases c2 : x4_1 < a0
   ·rw [if_pos c2] at H
    have c2b0 : decide (x4_1 < a0) = true := decide_eq_true c2
    clear c2
    have H' := Aside0.mk H
    clear H
    go_wp2
    go_roundg k1
    case measure => have := HK1.out; omega
    case rel => exact ⟨(IntKind.u64.wrap (x3_1 * 10)), (wrap64 (x4_1 + 1)), (by first | rfl | (simp; done) | (simp [*]; done) | (simp [bne_nil]; done)), (by first | rfl | (simp; done) | (simp [*]; done) | (simp [bne_nil]; done)), H', ⟨by have := HK1.out; omega⟩, by repeat (first | exact Drawn0.refl _ | apply Drawn0.step)⟩
   ·rw [if_neg c2] at H
    have c2b0 : decide (x4_1 < a0) = false := decide_eq_false c2
    clear c2
    obtain rfl := Option.some.inj H
    go_wp2
    go_ret
    exact ⟨by first | rfl | (simp; done) | (simp [*]; done) | (simp [bne_nil]; done), by repeat (first | exact Drawn0.refl _ | apply Drawn0.step)⟩

end Go.Proofs.YtlcjfabbnclalaaDoor.F
