-- Laid by program (wip/tools/genv.sh, pack.py, merge.py of this repo) out of the translation; Lean checks it.
import Derived.Test.YtmakkdlkgfgaoaaDoorF0
import Derived.Test.YtmakkdlkgfgaoaaDoorC0
namespace Go.Proofs.YtmakkdlkgfgaoaaDoor.F
open Go.RowKit Go.Proofs.YtmakkdlkgfgaoaaDoorW.PrintWords Go.Proofs.YtmakkdlkgfgaoaaDoorW.PrintLast Go.Proofs.YtmakkdlkgfgaoaaDoorW.PrintMore
attribute [local go_sem] max2_int min2_int max_two min_two max_three min_three max_four min_four
attribute [local go_sem high] bx_cell bx_frozen
set_option linter.unusedVariables false
set_option linter.unusedSimpArgs false

section
/-! ### num_gcd: function 82 -/
def num_gcd.l0 : Nat → Int → Int → Option (Int)
 | 0, _, _ => none
 | k + 1, x0, x1 => if x1 > 0 then (if x1 = 0 then (none) else (num_gcd.l0 k x1 (Int.tmod x0 x1))) else (some x0)
def num_gcd.f (k : Nat) (a0 : Int) (a1 : Int) : Option (Int) := num_gcd.l0 k a0 a1
theorem num_gcd.mono_l : ∀ k, (∀ y0 y1, LeO (num_gcd.l0 k y0 y1) (num_gcd.l0 (k + 1) y0 y1))
 | 0 => fun _ _ r h => by simp [num_gcd.l0] at h
 | k + 1 => by
  have ih0 := num_gcd.mono_l k
  ·intro y0 y1
   unfold num_gcd.l0
   repeat' first
   | (with_reducible exact ih0 _ _)
   | (with_reducible exact LeO.refl _)
   | (with_reducible exact LeO.none _)
   | (with_reducible refine LeO.ite ?_ ?_)
   | (with_reducible refine LeO.bind ?_ (fun _ => ?_))
   | exact ih0 _ _
   | exact LeO.none _
   | refine LeO.ite ?_ ?_
   | refine LeO.bind ?_ (fun _ => ?_)
theorem num_gcd.mono : ∀ a0 a1 k, LeO (num_gcd.f k a0 a1) (num_gcd.f (k + 1) a0 a1) := by
 intro a0 a1 k
 have ih0 := num_gcd.mono_l k
 unfold num_gcd.f
 repeat' first
   | (with_reducible exact ih0 _ _)
   | (with_reducible exact LeO.refl _)
   | (with_reducible exact LeO.none _)
   | (with_reducible refine LeO.ite ?_ ?_)
   | (with_reducible refine LeO.bind ?_ (fun _ => ?_))
   | exact ih0 _ _
   | exact LeO.none _
   | refine LeO.ite ?_ ?_
   | refine LeO.bind ?_ (fun _ => ?_)
set_option maxHeartbeats 8000000 in
set_option maxRecDepth 100000 in
theorem num_gcd.calls (k : Nat) (a0 : Int) (a1 : Int) (r : Int) (w : World) (h : num_gcd.f k a0 a1 = some r) :
  Calls Tryd.prog 82 #[.int .u64 a0, .int .u64 a1] w fun e w' => e = .returned (.int .u64 r) ∧ Drawn0 w w' := by
 have H : (num_gcd.l0 k a0 a1) = some r := h
 clear h
 have H' := Aside0.mk H
 clear H
 go_enter Tryd.func82, Tryd.ntmps82
 go_wp2
 repeat (go_quiet (fail); try go_wp2)
 go_loopg [0, 1] k (fun kq v0 v1 w' => ∃ (x0_1 : Int) (x1_1 : Int), v0 = .int .u64 x0_1 ∧ v1 = .int .u64 x1_1 ∧ Aside0 (num_gcd.l0 kq x0_1 x1_1 = some r) ∧ Aside0 (kq ≤ k) ∧ Drawn0 w w')
 case atStart => exact ⟨(a0), (a1), er, er, H', ⟨Nat.le_refl _⟩, dr⟩
 case round =>
  clear H'
  try clear p2
  obtain ⟨x0_1, x1_1, rfl, rfl, HA, HK1, ⟨m1, rfl⟩⟩ := hrel
  cases gk with
  | zero => exact absurd HA.out (by simp [num_gcd.l0])
  | succ k1 =>
   have H := HA.out
   clear HA
   simp only [num_gcd.l0] at H
   by_cases c3 : x1_1 > 0
   ·rw [if_pos c3] at H
    have c3b0 : decide (0 < x1_1) = true := decide_eq_true c3
    clear c3
    by_cases c4 : x1_1 = 0
    ·rw [if_pos c4] at H
     exact absurd H (by simp)
    ·rw [if_neg c4] at H
     have c4b0 : (x1_1 == 0) = false := beq_eq_false_iff_ne.mpr c4
     have c4b1 : (x1_1 != 0) = true := bne_iff_ne.mpr c4
     have H' := Aside0.mk H
     clear H
     go_wp2
     repeat (go_quiet (fail); try go_wp2)
     go_roundg k1
     case measure => have := HK1.out; omega
     case rel => exact ⟨(x1_1), (Int.tmod x0_1 x1_1), er, er, H', ⟨by have := HK1.out; omega⟩, dr⟩
   ·rw [if_neg c3] at H
    have c3b0 : decide (0 < x1_1) = false := decide_eq_false c3
    clear c3
    obtain rfl := Option.some.inj H
    go_wp2
    repeat (go_quiet (fail); try go_wp2)
    go_ret
    exact ⟨er, dr⟩
end
section
/-! ### num_size: function 83 -/
def num_size.f (a0 : Int) : Option (Int) := if a0 < 0 then (some (IntKind.u64.wrap (-(IntKind.u64.wrap (a0))))) else (some (IntKind.u64.wrap (a0)))
set_option maxHeartbeats 8000000 in
set_option maxRecDepth 100000 in
theorem num_size.calls (a0 : Int) (r : Int) (w : World) (h : num_size.f a0 = some r) :
  Calls Tryd.prog 83 #[.int .i64 a0] w fun e w' => e = .returned (.int .u64 r) ∧ Drawn0 w w' := by
 have H : (if a0 < 0 then (some (IntKind.u64.wrap (-(IntKind.u64.wrap (a0))))) else (some (IntKind.u64.wrap (a0)))) = some r := h
 clear h
 by_cases c2 : a0 < 0
 ·rw [if_pos c2] at H
  have c2b0 : decide (a0 < 0) = true := decide_eq_true c2
  clear c2
  obtain rfl := Option.some.inj H
  go_enter Tryd.func83, Tryd.ntmps83
  go_wp2
  go_ret
  exact ⟨er, dr⟩
 ·rw [if_neg c2] at H
  have c2b0 : decide (a0 < 0) = false := decide_eq_false c2
  clear c2
  obtain rfl := Option.some.inj H
  go_enter Tryd.func83, Tryd.ntmps83
  go_wp2
  go_ret
  exact ⟨er, dr⟩
end
section
/-! ### num_Right: function 49 -/
def num_Right.j0 : Nat → Bool → Int → Int → Option (Bool)
 | 0, _, _, _ => none
 | k + 1, x20, x102000, x102001 => if x20 = true then (some false) else ((num_size.f x102000).bind fun t102 => ((num_gcd.f k t102 (IntKind.u64.wrap (x102001))).bind fun t103 => (some (t103 == 1))))
def num_Right.f (k : Nat) (a0_0 : Int) (a0_1 : Int) : Option (Bool) := if a0_0 < (-1000000000000) then (num_Right.j0 k true a0_0 a0_1) else (if a0_0 > 1000000000000 then (num_Right.j0 k true a0_0 a0_1) else (if a0_1 < 1 then (num_Right.j0 k true a0_0 a0_1) else (num_Right.j0 k (decide (a0_1 > 1000000)) a0_0 a0_1)))
theorem num_Right.mono_l : ∀ k, (∀ y0 y1 y2, LeO (num_Right.j0 k y0 y1 y2) (num_Right.j0 (k + 1) y0 y1 y2))
 | 0 => fun _ _ _ r h => by simp [num_Right.j0] at h
 | k + 1 => by
  have ih0 := num_Right.mono_l k
  ·intro y0 y1 y2
   unfold num_Right.j0
   repeat' first
   | (with_reducible exact ih0 _ _ _)
   | (with_reducible exact num_gcd.mono _ _ _)
   | (with_reducible exact LeO.refl _)
   | (with_reducible exact LeO.none _)
   | (with_reducible refine LeO.ite ?_ ?_)
   | (with_reducible refine LeO.bind ?_ (fun _ => ?_))
   | exact ih0 _ _ _
   | exact num_gcd.mono _ _ _
   | exact LeO.none _
   | refine LeO.ite ?_ ?_
   | refine LeO.bind ?_ (fun _ => ?_)
theorem num_Right.mono : ∀ a0 a1 k, LeO (num_Right.f k a0 a1) (num_Right.f (k + 1) a0 a1) := by
 intro a0 a1 k
 have ih0 := num_Right.mono_l k
 unfold num_Right.f
 repeat' first
   | (with_reducible exact ih0 _ _ _)
   | (with_reducible exact num_gcd.mono _ _ _)
   | (with_reducible exact LeO.refl _)
   | (with_reducible exact LeO.none _)
   | (with_reducible refine LeO.ite ?_ ?_)
   | (with_reducible refine LeO.bind ?_ (fun _ => ?_))
   | exact ih0 _ _ _
   | exact num_gcd.mono _ _ _
   | exact LeO.none _
   | refine LeO.ite ?_ ?_
   | refine LeO.bind ?_ (fun _ => ?_)
set_option maxHeartbeats 8000000 in
set_option maxRecDepth 100000 in
theorem num_Right.calls (k : Nat) (a0_0 : Int) (a0_1 : Int) (r : Bool) (w : World) (h : num_Right.f k a0_0 a0_1 = some r) :
  Calls Tryd.prog 49 #[.agg #[.int .i64 a0_0, .int .i64 a0_1]] w fun e w' => e = .returned (.bool r) ∧ Below w.heap.size w w' := by
 have hu23 := Tryd.underlying23
 have BX := Bx.start w
 have H : (if a0_0 < (-1000000000000) then (num_Right.j0 k true a0_0 a0_1) else (if a0_0 > 1000000000000 then (num_Right.j0 k true a0_0 a0_1) else (if a0_1 < 1 then (num_Right.j0 k true a0_0 a0_1) else (num_Right.j0 k (decide (a0_1 > 1000000)) a0_0 a0_1)))) = some r := h
 clear h
 have HC2 := Aside0.mk H
 clear H
 go_enter Tryd.func49, Tryd.ntmps49
 go_upto_region 1 with (first | ((with_reducible refine gate_dst (N := 1) rfl ?_); refine bxe 1 #[.int .i64 a0_0, .int .i64 a0_1] 23 rfl rfl gr ?_; clear BX; intro gb101 w3 GE101 BX))
 repeat (go_quiet (first | ((with_reducible refine gate_dst (N := 1) rfl ?_); refine bxe 1 #[.int .i64 a0_0, .int .i64 a0_1] 23 rfl rfl gr ?_; clear BX; intro gb101 w3 GE101 BX)); go_upto_region 1 with (first | ((with_reducible refine gate_dst (N := 1) rfl ?_); refine bxe 1 #[.int .i64 a0_0, .int .i64 a0_1] 23 rfl rfl gr ?_; clear BX; intro gb101 w3 GE101 BX)))
 (try simp only [Act.put, List.setIfInBounds_toArray, List.set_cons_zero, List.set_cons_succ])
 go_cut [20] (fun v20 wc => ∃ (kq : Nat) (x20_1 : Bool), v20 = .bool x20_1 ∧ Aside0 (num_Right.j0 kq x20_1 a0_0 a0_1 = some r) ∧ Aside0 (kq ≤ k) ∧ Bx w wc [(gb101, 23, #[.int .i64 a0_0, .int .i64 a0_1])])
 case first =>
  have H := HC2.out
  clear HC2
  by_cases c4 : a0_0 < (-1000000000000)
  ·rw [if_pos c4] at H
   have c4b0 : decide (a0_0 < (-1000000000000)) = true := decide_eq_true c4
   clear c4
   (first | rw [c4b0] | (simp only [i64_w, i32_w]; rw [c4b0]) | skip)
   have H' := Aside0.mk H
   clear H
   go_wp2
   repeat (go_quiet (fail); try go_wp2)
   go_meet
   case rel => exact ⟨_, (true), er, H', ⟨by first | omega | exact Nat.le_refl _⟩, bxs⟩
  ·rw [if_neg c4] at H
   have c4b0 : decide (a0_0 < (-1000000000000)) = false := decide_eq_false c4
   clear c4
   (first | rw [c4b0] | (simp only [i64_w, i32_w]; rw [c4b0]) | skip)
   by_cases c6 : a0_0 > 1000000000000
   ·rw [if_pos c6] at H
    have c6b0 : decide (1000000000000 < a0_0) = true := decide_eq_true c6
    clear c6
    have H' := Aside0.mk H
    clear H
    go_wp2
    repeat (go_quiet (fail); try go_wp2)
    go_meet
    case rel => exact ⟨_, (true), er, H', ⟨by first | omega | exact Nat.le_refl _⟩, bxs⟩
   ·rw [if_neg c6] at H
    have c6b0 : decide (1000000000000 < a0_0) = false := decide_eq_false c6
    clear c6
    by_cases c8 : a0_1 < 1
    ·rw [if_pos c8] at H
     have c8b0 : decide (a0_1 < 1) = true := decide_eq_true c8
     clear c8
     have H' := Aside0.mk H
     clear H
     go_wp2
     repeat (go_quiet (fail); try go_wp2)
     go_meet
     case rel => exact ⟨_, (true), er, H', ⟨by first | omega | exact Nat.le_refl _⟩, bxs⟩
    ·rw [if_neg c8] at H
     have c8b0 : decide (a0_1 < 1) = false := decide_eq_false c8
     clear c8
     have H' := Aside0.mk H
     clear H
     go_wp2
     repeat (go_quiet (fail); try go_wp2)
     go_meet
     case rel => exact ⟨_, (decide (a0_1 > 1000000)), er, H', ⟨by first | omega | exact Nat.le_refl _⟩, bxs⟩
 case rest =>
  clear HC2
  try clear p2
  try clear c4
  try clear c4b0
  try clear c6
  try clear c6b0
  try clear c8
  try clear c8b0
  obtain ⟨kq, x20_1, rfl, HA, HJ1, BX⟩ := hcut
  cases kq with
  | zero => exact absurd HA.out (by simp [num_Right.j0])
  | succ kj1 =>
   have H := HA.out
   clear HA
   simp only [num_Right.j0] at H
   by_cases c11 : x20_1 = true
   ·subst c11
    have H1 : (some false) = some r := by rw [if_pos rfl] at H; exact H
    clear H
    have H := H1
    clear H1
    obtain rfl := Option.some.inj H
    go_wp2
    repeat (go_quiet (fail); try go_wp2)
    go_ret
    exact ⟨er2, bx_bl⟩
   ·replace c11 := Bool.eq_false_iff.mpr c11
    subst c11
    have H1 : ((num_size.f a0_0).bind fun t102 => ((num_gcd.f kj1 t102 (IntKind.u64.wrap (a0_1))).bind fun t103 => (some (t103 == 1)))) = some r := by rw [if_neg (show ¬ (false = true) by decide)] at H; exact H
    clear H
    have H := H1
    clear H1
    replace H := Option.bind_eq_some_iff.mp H
    obtain ⟨t102, A120, H⟩ := H
    have A12 := Aside0.mk A120
    clear A120
    replace H := Option.bind_eq_some_iff.mp H
    obtain ⟨t103, A130, H⟩ := H
    replace H : (some (t103 == 1)) = some r := H
    have A13 := Aside0.mk A130
    clear A130
    obtain rfl := Option.some.inj H
    go_wp2_with (first | (go_at_call 83; (with_reducible refine (num_size.calls a0_0 t102 _ A12.out).mono ?_); rintro e w' ⟨rfl, ⟨nd, rfl⟩⟩; (try first | exact ⟨rfl, _, World.drewN_drewN _ _ _⟩ | exact ⟨rfl, _, Eq.trans (World.drewN_drewN _ _ _) (congrArg (World.drewN _) (Nat.add_assoc _ _ _))⟩)) | (go_at_call 82; (with_reducible refine (num_gcd.calls kj1 t102 (IntKind.u64.wrap (a0_1)) t103 _ A13.out).mono ?_); rintro e w' ⟨rfl, ⟨nd, rfl⟩⟩; (try first | exact ⟨rfl, _, World.drewN_drewN _ _ _⟩ | exact ⟨rfl, _, Eq.trans (World.drewN_drewN _ _ _) (congrArg (World.drewN _) (Nat.add_assoc _ _ _))⟩)))
    repeat (go_quiet (first | (go_at_call 83; (with_reducible refine (num_size.calls a0_0 t102 _ A12.out).mono ?_); rintro e w' ⟨rfl, ⟨nd, rfl⟩⟩; (try first | exact ⟨rfl, _, World.drewN_drewN _ _ _⟩ | exact ⟨rfl, _, Eq.trans (World.drewN_drewN _ _ _) (congrArg (World.drewN _) (Nat.add_assoc _ _ _))⟩)) | (go_at_call 82; (with_reducible refine (num_gcd.calls kj1 t102 (IntKind.u64.wrap (a0_1)) t103 _ A13.out).mono ?_); rintro e w' ⟨rfl, ⟨nd, rfl⟩⟩; (try first | exact ⟨rfl, _, World.drewN_drewN _ _ _⟩ | exact ⟨rfl, _, Eq.trans (World.drewN_drewN _ _ _) (congrArg (World.drewN _) (Nat.add_assoc _ _ _))⟩))); try go_wp2_with (first | (go_at_call 83; (with_reducible refine (num_size.calls a0_0 t102 _ A12.out).mono ?_); rintro e w' ⟨rfl, ⟨nd, rfl⟩⟩; (try first | exact ⟨rfl, _, World.drewN_drewN _ _ _⟩ | exact ⟨rfl, _, Eq.trans (World.drewN_drewN _ _ _) (congrArg (World.drewN _) (Nat.add_assoc _ _ _))⟩)) | (go_at_call 82; (with_reducible refine (num_gcd.calls kj1 t102 (IntKind.u64.wrap (a0_1)) t103 _ A13.out).mono ?_); rintro e w' ⟨rfl, ⟨nd, rfl⟩⟩; (try first | exact ⟨rfl, _, World.drewN_drewN _ _ _⟩ | exact ⟨rfl, _, Eq.trans (World.drewN_drewN _ _ _) (congrArg (World.drewN _) (Nat.add_assoc _ _ _))⟩))))
    go_ret
    exact ⟨er2, bx_bl⟩
end
section
/-! ### num_taken: function 79 -/
def num_taken.f (k : Nat) (a0_0 : Int) (a0_1 : Int) : Option (Int × Int) := (num_Right.f k a0_0 a0_1).bind fun t166 => (if t166 = true then (some (a0_0, a0_1)) else (some (0, 1)))
theorem num_taken.mono : ∀ a0 a1 k, LeO (num_taken.f k a0 a1) (num_taken.f (k + 1) a0 a1) := by
 intro a0 a1 k
 unfold num_taken.f
 repeat' first
   | (with_reducible exact num_Right.mono _ _ _)
   | (with_reducible exact LeO.refl _)
   | (with_reducible exact LeO.none _)
   | (with_reducible refine LeO.ite ?_ ?_)
   | (with_reducible refine LeO.bind ?_ (fun _ => ?_))
   | exact num_Right.mono _ _ _
   | exact LeO.none _
   | refine LeO.ite ?_ ?_
   | refine LeO.bind ?_ (fun _ => ?_)
set_option maxHeartbeats 8000000 in
set_option maxRecDepth 100000 in
theorem num_taken.calls (k : Nat) (a0_0 : Int) (a0_1 : Int) (r1 : Int) (r2 : Int) (w : World) (h : num_taken.f k a0_0 a0_1 = some (r1, r2)) :
  Calls Tryd.prog 79 #[.agg #[.int .i64 a0_0, .int .i64 a0_1]] w fun e w' => e = .returned (.agg #[.int .i64 r1, .int .i64 r2]) ∧ Below w.heap.size w w' := by
 have hu23 := Tryd.underlying23
 have BX := Bx.start w
 have H : ((num_Right.f k a0_0 a0_1).bind fun t166 => (if t166 = true then (some (a0_0, a0_1)) else (some (0, 1)))) = some (r1, r2) := h
 clear h
 replace H := Option.bind_eq_some_iff.mp H
 obtain ⟨t166, A20, H⟩ := H
 replace H : (if t166 = true then (some (a0_0, a0_1)) else (some (0, 1))) = some (r1, r2) := H
 have A2 := Aside0.mk A20
 clear A20
 by_cases c3 : t166 = true
 ·subst c3
  have H1 : (some (a0_0, a0_1)) = some (r1, r2) := by rw [if_pos rfl] at H; exact H
  clear H
  have H := H1
  clear H1
  simp only [Option.some.injEq, Prod.mk.injEq] at H
  obtain ⟨rfl, rfl⟩ := H
  go_enter Tryd.func79, Tryd.ntmps79
  go_wp2_with (first | ((with_reducible refine gate_dst (N := 1) rfl ?_); refine bxe 1 #[.int .i64 a0_0, .int .i64 a0_1] 23 rfl rfl gr ?_; clear BX; intro gb164 w4 GE164 BX) | ((with_reducible refine gate_dst (N := 2) rfl ?_); refine bxe 2 #[.int .i64 0, .int .i64 0] 23 rfl rfl gr ?_; clear BX; intro gb165 w5 GE165 BX) | ((with_reducible refine gate_callee (f := 49) rfl ?_); refine goesL_ (some 4) rfl rfl Tryd.func49 kr rfl #[.agg #[.int .i64 a0_0, .int .i64 a0_1]] rfl ga ?_; (with_reducible refine (num_Right.calls k a0_0 a0_1 true _ A2.out).mono ?_); rintro e w8 ⟨rfl, hb⟩; refine ⟨_, rfl, ?_⟩; replace BX := bx_call hb; clear hb))
  refine bodyPost_ret (results_cell_row rfl _ _ gb165 23 #[.int .i64 a0_0, .int .i64 a0_1] (0, 0) _ rfl bx_get Tryd.underlying23 rfl kr) rfl ?_
  exact ⟨er2, bx_bl⟩
 ·replace c3 := Bool.eq_false_iff.mpr c3
  subst c3
  have H1 : (some (0, 1)) = some (r1, r2) := by rw [if_neg (show ¬ (false = true) by decide)] at H; exact H
  clear H
  have H := H1
  clear H1
  simp only [Option.some.injEq, Prod.mk.injEq] at H
  obtain ⟨rfl, rfl⟩ := H
  go_enter Tryd.func79, Tryd.ntmps79
  go_wp2_with (first | ((with_reducible refine gate_dst (N := 1) rfl ?_); refine bxe 1 #[.int .i64 a0_0, .int .i64 a0_1] 23 rfl rfl gr ?_; clear BX; intro gb164 w11 GE164 BX) | ((with_reducible refine gate_dst (N := 2) rfl ?_); refine bxe 2 #[.int .i64 0, .int .i64 0] 23 rfl rfl gr ?_; clear BX; intro gb165 w12 GE165 BX) | ((with_reducible refine gate_callee (f := 49) rfl ?_); refine goesL_ (some 4) rfl rfl Tryd.func49 kr rfl #[.agg #[.int .i64 a0_0, .int .i64 a0_1]] rfl ga ?_; (with_reducible refine (num_Right.calls k a0_0 a0_1 false _ A2.out).mono ?_); rintro e w15 ⟨rfl, hb⟩; refine ⟨_, rfl, ?_⟩; replace BX := bx_call hb; clear hb))
  refine bodyPost_ret (results_cell_row rfl _ _ gb165 23 #[.int .i64 0, .int .i64 1] (0, 0) _ rfl bx_get Tryd.underlying23 rfl kr) rfl ?_
  exact ⟨er2, bx_bl⟩
end
section
/-! ### num_Make: function 80 -/
def num_Make.j0 : Nat → Int → Int → Int → Int → Bool → Option (Int × Int × Bool)
 | 0, _, _, _, _, _ => none
 | k + 1, x0, x1, x6, x7, x31 => if x31 = true then (some (0, 0, false)) else (if ((decide (x0 < 0)) != (decide (x1 < 0))) = true then (some (wrap64 (-(wrap64 (x6))), wrap64 (x7), true)) else (some (wrap64 (x6), wrap64 (x7), true)))
def num_Make.f (k : Nat) (a0 : Int) (a1 : Int) : Option (Int × Int × Bool) := if a1 = 0 then (some (0, 0, false)) else ((num_size.f a0).bind fun t205 => ((num_size.f a1).bind fun t206 => ((num_gcd.f k t205 t206).bind fun t207 => (if t207 = 0 then (none) else (if (IntKind.u64.wrap (Int.tdiv t205 t207)) > 1000000000000 then (num_Make.j0 k a0 a1 (IntKind.u64.wrap (Int.tdiv t205 t207)) (IntKind.u64.wrap (Int.tdiv t206 t207)) true) else (num_Make.j0 k a0 a1 (IntKind.u64.wrap (Int.tdiv t205 t207)) (IntKind.u64.wrap (Int.tdiv t206 t207)) (decide ((IntKind.u64.wrap (Int.tdiv t206 t207)) > 1000000))))))))
theorem num_Make.mono_l : ∀ k, (∀ y0 y1 y2 y3 y4, LeO (num_Make.j0 k y0 y1 y2 y3 y4) (num_Make.j0 (k + 1) y0 y1 y2 y3 y4))
 | 0 => fun _ _ _ _ _ r h => by simp [num_Make.j0] at h
 | k + 1 => by
  have ih0 := num_Make.mono_l k
  ·intro y0 y1 y2 y3 y4
   unfold num_Make.j0
   repeat' first
   | (with_reducible exact ih0 _ _ _ _ _)
   | (with_reducible exact num_gcd.mono _ _ _)
   | (with_reducible exact LeO.refl _)
   | (with_reducible exact LeO.none _)
   | (with_reducible refine LeO.ite ?_ ?_)
   | (with_reducible refine LeO.bind ?_ (fun _ => ?_))
   | exact ih0 _ _ _ _ _
   | exact num_gcd.mono _ _ _
   | exact LeO.none _
   | refine LeO.ite ?_ ?_
   | refine LeO.bind ?_ (fun _ => ?_)
theorem num_Make.mono : ∀ a0 a1 k, LeO (num_Make.f k a0 a1) (num_Make.f (k + 1) a0 a1) := by
 intro a0 a1 k
 have ih0 := num_Make.mono_l k
 unfold num_Make.f
 repeat' first
   | (with_reducible exact ih0 _ _ _ _ _)
   | (with_reducible exact num_gcd.mono _ _ _)
   | (with_reducible exact LeO.refl _)
   | (with_reducible exact LeO.none _)
   | (with_reducible refine LeO.ite ?_ ?_)
   | (with_reducible refine LeO.bind ?_ (fun _ => ?_))
   | exact ih0 _ _ _ _ _
   | exact num_gcd.mono _ _ _
   | exact LeO.none _
   | refine LeO.ite ?_ ?_
   | refine LeO.bind ?_ (fun _ => ?_)
set_option maxHeartbeats 8000000 in
set_option maxRecDepth 100000 in
theorem num_Make.calls (k : Nat) (a0 : Int) (a1 : Int) (r1 : Int) (r2 : Int) (r3 : Bool) (w : World) (h : num_Make.f k a0 a1 = some (r1, r2, r3)) :
  Calls Tryd.prog 80 #[.int .i64 a0, .int .i64 a1] w fun e w' => e = .returned (.tuple #[.agg #[.int .i64 r1, .int .i64 r2], .bool r3]) ∧ Below w.heap.size w w' := by
 have hu23 := Tryd.underlying23
 have BX := Bx.start w
 have H : (if a1 = 0 then (some (0, 0, false)) else ((num_size.f a0).bind fun t205 => ((num_size.f a1).bind fun t206 => ((num_gcd.f k t205 t206).bind fun t207 => (if t207 = 0 then (none) else (if (IntKind.u64.wrap (Int.tdiv t205 t207)) > 1000000000000 then (num_Make.j0 k a0 a1 (IntKind.u64.wrap (Int.tdiv t205 t207)) (IntKind.u64.wrap (Int.tdiv t206 t207)) true) else (num_Make.j0 k a0 a1 (IntKind.u64.wrap (Int.tdiv t205 t207)) (IntKind.u64.wrap (Int.tdiv t206 t207)) (decide ((IntKind.u64.wrap (Int.tdiv t206 t207)) > 1000000))))))))) = some (r1, r2, r3) := h
 clear h
 by_cases c3 : a1 = 0
 ·rw [if_pos c3] at H
  have c3b0 : (a1 == 0) = true := beq_iff_eq.mpr c3
  have c3b1 : (a1 != 0) = false := bne_eq_false_iff_eq.mpr c3
  clear c3
  simp only [Option.some.injEq, Prod.mk.injEq] at H
  obtain ⟨rfl, rfl, rfl⟩ := H
  go_enter Tryd.func80, Tryd.ntmps80
  go_wp2_with (first | ((with_reducible refine gate_dst (N := 4) rfl ?_); refine bxe 4 #[.int .i64 0, .int .i64 0] 23 rfl rfl gr ?_; clear BX; intro gb204 w4 GE204 BX))
  repeat (go_quiet (first | ((with_reducible refine gate_dst (N := 4) rfl ?_); refine bxe 4 #[.int .i64 0, .int .i64 0] 23 rfl rfl gr ?_; clear BX; intro gb204 w4 GE204 BX)); try go_wp2_with (first | ((with_reducible refine gate_dst (N := 4) rfl ?_); refine bxe 4 #[.int .i64 0, .int .i64 0] 23 rfl rfl gr ?_; clear BX; intro gb204 w4 GE204 BX)))
  refine bodyPost_ret (results_ct rfl _ _ gb204 23 #[.int .i64 0, .int .i64 0] (0, 0) _ rfl bx_get Tryd.underlying23 rfl kr) rfl ?_
  exact ⟨er2, bx_bl⟩
 ·rw [if_neg c3] at H
  have c3b0 : (a1 == 0) = false := beq_eq_false_iff_ne.mpr c3
  have c3b1 : (a1 != 0) = true := bne_iff_ne.mpr c3
  replace H := Option.bind_eq_some_iff.mp H
  obtain ⟨t205, A60, H⟩ := H
  have A6 := Aside0.mk A60
  clear A60
  replace H := Option.bind_eq_some_iff.mp H
  obtain ⟨t206, A70, H⟩ := H
  have A7 := Aside0.mk A70
  clear A70
  replace H := Option.bind_eq_some_iff.mp H
  obtain ⟨t207, A80, H⟩ := H
  replace H : (if t207 = 0 then (none) else (if (IntKind.u64.wrap (Int.tdiv t205 t207)) > 1000000000000 then (num_Make.j0 k a0 a1 (IntKind.u64.wrap (Int.tdiv t205 t207)) (IntKind.u64.wrap (Int.tdiv t206 t207)) true) else (num_Make.j0 k a0 a1 (IntKind.u64.wrap (Int.tdiv t205 t207)) (IntKind.u64.wrap (Int.tdiv t206 t207)) (decide ((IntKind.u64.wrap (Int.tdiv t206 t207)) > 1000000))))) = some (r1, r2, r3) := H
  have A8 := Aside0.mk A80
  clear A80
  by_cases c9 : t207 = 0
  ·rw [if_pos c9] at H
   exact absurd H (by simp)
  ·rw [if_neg c9] at H
   have c9b0 : (t207 == 0) = false := beq_eq_false_iff_ne.mpr c9
   have c9b1 : (t207 != 0) = true := bne_iff_ne.mpr c9
   have HC10 := Aside0.mk H
   clear H
   go_enter Tryd.func80, Tryd.ntmps80
   go_upto_region 6 with (first | ((with_reducible refine gate_dst (N := 4) rfl ?_); refine bxe 4 #[.int .i64 0, .int .i64 0] 23 rfl rfl gr ?_; clear BX; intro gb204 w11 GE204 BX) | (go_at_call 83; (with_reducible refine (num_size.calls a0 t205 _ A6.out).mono ?_); rintro e w' ⟨rfl, ⟨nd, rfl⟩⟩; (try first | exact ⟨rfl, _, World.drewN_drewN _ _ _⟩ | exact ⟨rfl, _, Eq.trans (World.drewN_drewN _ _ _) (congrArg (World.drewN _) (Nat.add_assoc _ _ _))⟩)) | (go_at_call 83; (with_reducible refine (num_size.calls a1 t206 _ A7.out).mono ?_); rintro e w' ⟨rfl, ⟨nd, rfl⟩⟩; (try first | exact ⟨rfl, _, World.drewN_drewN _ _ _⟩ | exact ⟨rfl, _, Eq.trans (World.drewN_drewN _ _ _) (congrArg (World.drewN _) (Nat.add_assoc _ _ _))⟩)) | (go_at_call 82; (with_reducible refine (num_gcd.calls k t205 t206 t207 _ A8.out).mono ?_); rintro e w' ⟨rfl, ⟨nd, rfl⟩⟩; (try first | exact ⟨rfl, _, World.drewN_drewN _ _ _⟩ | exact ⟨rfl, _, Eq.trans (World.drewN_drewN _ _ _) (congrArg (World.drewN _) (Nat.add_assoc _ _ _))⟩)))
   repeat (go_quiet (first | ((with_reducible refine gate_dst (N := 4) rfl ?_); refine bxe 4 #[.int .i64 0, .int .i64 0] 23 rfl rfl gr ?_; clear BX; intro gb204 w11 GE204 BX) | (go_at_call 83; (with_reducible refine (num_size.calls a0 t205 _ A6.out).mono ?_); rintro e w' ⟨rfl, ⟨nd, rfl⟩⟩; (try first | exact ⟨rfl, _, World.drewN_drewN _ _ _⟩ | exact ⟨rfl, _, Eq.trans (World.drewN_drewN _ _ _) (congrArg (World.drewN _) (Nat.add_assoc _ _ _))⟩)) | (go_at_call 83; (with_reducible refine (num_size.calls a1 t206 _ A7.out).mono ?_); rintro e w' ⟨rfl, ⟨nd, rfl⟩⟩; (try first | exact ⟨rfl, _, World.drewN_drewN _ _ _⟩ | exact ⟨rfl, _, Eq.trans (World.drewN_drewN _ _ _) (congrArg (World.drewN _) (Nat.add_assoc _ _ _))⟩)) | (go_at_call 82; (with_reducible refine (num_gcd.calls k t205 t206 t207 _ A8.out).mono ?_); rintro e w' ⟨rfl, ⟨nd, rfl⟩⟩; (try first | exact ⟨rfl, _, World.drewN_drewN _ _ _⟩ | exact ⟨rfl, _, Eq.trans (World.drewN_drewN _ _ _) (congrArg (World.drewN _) (Nat.add_assoc _ _ _))⟩))); go_upto_region 6 with (first | ((with_reducible refine gate_dst (N := 4) rfl ?_); refine bxe 4 #[.int .i64 0, .int .i64 0] 23 rfl rfl gr ?_; clear BX; intro gb204 w11 GE204 BX) | (go_at_call 83; (with_reducible refine (num_size.calls a0 t205 _ A6.out).mono ?_); rintro e w' ⟨rfl, ⟨nd, rfl⟩⟩; (try first | exact ⟨rfl, _, World.drewN_drewN _ _ _⟩ | exact ⟨rfl, _, Eq.trans (World.drewN_drewN _ _ _) (congrArg (World.drewN _) (Nat.add_assoc _ _ _))⟩)) | (go_at_call 83; (with_reducible refine (num_size.calls a1 t206 _ A7.out).mono ?_); rintro e w' ⟨rfl, ⟨nd, rfl⟩⟩; (try first | exact ⟨rfl, _, World.drewN_drewN _ _ _⟩ | exact ⟨rfl, _, Eq.trans (World.drewN_drewN _ _ _) (congrArg (World.drewN _) (Nat.add_assoc _ _ _))⟩)) | (go_at_call 82; (with_reducible refine (num_gcd.calls k t205 t206 t207 _ A8.out).mono ?_); rintro e w' ⟨rfl, ⟨nd, rfl⟩⟩; (try first | exact ⟨rfl, _, World.drewN_drewN _ _ _⟩ | exact ⟨rfl, _, Eq.trans (World.drewN_drewN _ _ _) (congrArg (World.drewN _) (Nat.add_assoc _ _ _))⟩))))
   (try simp only [Act.put, List.setIfInBounds_toArray, List.set_cons_zero, List.set_cons_succ])
   go_cut [31] (fun v31 wc => ∃ (kq : Nat) (x31_9 : Bool), v31 = .bool x31_9 ∧ Aside0 (num_Make.j0 kq a0 a1 (IntKind.u64.wrap (Int.tdiv t205 t207)) (IntKind.u64.wrap (Int.tdiv t206 t207)) x31_9 = some (r1, r2, r3)) ∧ Aside0 (kq ≤ k) ∧ Bx w wc [(gb204, 23, #[.int .i64 0, .int .i64 0])])
   case first =>
    have H := HC10.out
    clear HC10
    by_cases c12 : (IntKind.u64.wrap (Int.tdiv t205 t207)) > 1000000000000
    ·rw [if_pos c12] at H
     have c12b0 : decide (1000000000000 < (IntKind.u64.wrap (Int.tdiv t205 t207))) = true := decide_eq_true c12
     clear c12
     (first | rw [c12b0] | (simp only [i64_w, i32_w]; rw [c12b0]) | skip)
     have H' := Aside0.mk H
     clear H
     go_wp2
     repeat (go_quiet (fail); try go_wp2)
     go_meet
     case rel => exact ⟨_, (true), er, H', ⟨by first | omega | exact Nat.le_refl _⟩, bxs⟩
    ·rw [if_neg c12] at H
     have c12b0 : decide (1000000000000 < (IntKind.u64.wrap (Int.tdiv t205 t207))) = false := decide_eq_false c12
     clear c12
     (first | rw [c12b0] | (simp only [i64_w, i32_w]; rw [c12b0]) | skip)
     have H' := Aside0.mk H
     clear H
     go_wp2
     repeat (go_quiet (fail); try go_wp2)
     go_meet
     case rel => exact ⟨_, (decide ((IntKind.u64.wrap (Int.tdiv t206 t207)) > 1000000)), er, H', ⟨by first | omega | exact Nat.le_refl _⟩, bxs⟩
   case rest =>
    clear HC10
    try clear c1
    try clear p2
    try clear c3
    try clear c3b0
    try clear c3b1
    try clear c8
    try clear c9
    try clear c9b0
    try clear c9b1
    try clear c12
    try clear c12b0
    obtain ⟨kq, x31_9, rfl, HA, HJ9, BX⟩ := hcut
    cases kq with
    | zero => exact absurd HA.out (by simp [num_Make.j0])
    | succ kj9 =>
     have H := HA.out
     clear HA
     simp only [num_Make.j0] at H
     by_cases c13 : x31_9 = true
     ·subst c13
      have H1 : (some (0, 0, false)) = some (r1, r2, r3) := by rw [if_pos rfl] at H; exact H
      clear H
      have H := H1
      clear H1
      simp only [Option.some.injEq, Prod.mk.injEq] at H
      obtain ⟨rfl, rfl, rfl⟩ := H
      go_wp2
      repeat (go_quiet (fail); try go_wp2)
      refine bodyPost_ret (results_ct rfl _ _ gb204 23 #[.int .i64 0, .int .i64 0] (0, 0) _ rfl bx_get Tryd.underlying23 rfl kr) rfl ?_
      exact ⟨er2, bx_bl⟩
     ·replace c13 := Bool.eq_false_iff.mpr c13
      subst c13
      have H1 : (if ((decide (a0 < 0)) != (decide (a1 < 0))) = true then (some (wrap64 (-(wrap64 ((IntKind.u64.wrap (Int.tdiv t205 t207))))), wrap64 ((IntKind.u64.wrap (Int.tdiv t206 t207))), true)) else (some (wrap64 ((IntKind.u64.wrap (Int.tdiv t205 t207))), wrap64 ((IntKind.u64.wrap (Int.tdiv t206 t207))), true))) = some (r1, r2, r3) := by rw [if_neg (show ¬ (false = true) by decide)] at H; exact H
      clear H
      have H := H1
      clear H1
      by_cases c15 : ((decide (a0 < 0)) != (decide (a1 < 0))) = true
      ·rw [if_pos c15] at H
       have c15b0 : ((decide (a0 < 0)) != (decide (a1 < 0))) = true := c15
       (try (have c15b1 : decide ((decide (a0 < 0)) = (decide (a1 < 0))) = false := by simpa using c15))
       (try (have c15b2 : ((decide (a0 < 0)) == (decide (a1 < 0))) = false := by simpa using c15))
       (try (have c15b3 : ¬ ((decide (a0 < 0)) = (decide (a1 < 0))) := by simpa using c15))
       clear c15
       simp only [Option.some.injEq, Prod.mk.injEq] at H
       obtain ⟨rfl, rfl, rfl⟩ := H
       go_wp2_with (first | ((with_reducible refine gate_dst (N := 9) rfl ?_); refine bxe 9 #[.int .i64 0, .int .i64 0] 23 rfl rfl gr ?_; clear BX; intro gb208 w16 GE208 BX))
       repeat (go_quiet (first | ((with_reducible refine gate_dst (N := 9) rfl ?_); refine bxe 9 #[.int .i64 0, .int .i64 0] 23 rfl rfl gr ?_; clear BX; intro gb208 w16 GE208 BX)); try go_wp2_with (first | ((with_reducible refine gate_dst (N := 9) rfl ?_); refine bxe 9 #[.int .i64 0, .int .i64 0] 23 rfl rfl gr ?_; clear BX; intro gb208 w16 GE208 BX)))
       refine bodyPost_ret (results_ct rfl _ _ gb204 23 #[.int .i64 (wrap64 (-(wrap64 ((IntKind.u64.wrap (Int.tdiv t205 t207)))))), .int .i64 (wrap64 ((IntKind.u64.wrap (Int.tdiv t206 t207))))] (0, 0) _ rfl bx_get Tryd.underlying23 rfl kr) rfl ?_
       exact ⟨er2, bx_bl⟩
      ·rw [if_neg c15] at H
       have c15b0 : ((decide (a0 < 0)) != (decide (a1 < 0))) = false := by simpa using c15
       (try (have c15b1 : decide ((decide (a0 < 0)) = (decide (a1 < 0))) = true := by simpa using c15))
       (try (have c15b2 : ((decide (a0 < 0)) == (decide (a1 < 0))) = true := by simpa using c15))
       clear c15
       simp only [Option.some.injEq, Prod.mk.injEq] at H
       obtain ⟨rfl, rfl, rfl⟩ := H
       go_wp2_with (first | ((with_reducible refine gate_dst (N := 9) rfl ?_); refine bxe 9 #[.int .i64 0, .int .i64 0] 23 rfl rfl gr ?_; clear BX; intro gb208 w20 GE208 BX))
       repeat (go_quiet (first | ((with_reducible refine gate_dst (N := 9) rfl ?_); refine bxe 9 #[.int .i64 0, .int .i64 0] 23 rfl rfl gr ?_; clear BX; intro gb208 w20 GE208 BX)); try go_wp2_with (first | ((with_reducible refine gate_dst (N := 9) rfl ?_); refine bxe 9 #[.int .i64 0, .int .i64 0] 23 rfl rfl gr ?_; clear BX; intro gb208 w20 GE208 BX)))
       refine bodyPost_ret (results_ct rfl _ _ gb204 23 #[.int .i64 (wrap64 ((IntKind.u64.wrap (Int.tdiv t205 t207)))), .int .i64 (wrap64 ((IntKind.u64.wrap (Int.tdiv t206 t207))))] (0, 0) _ rfl bx_get Tryd.underlying23 rfl kr) rfl ?_
       exact ⟨er2, bx_bl⟩
end
section
/-! ### num_Add: function 45 -/
def num_Add.f (k : Nat) (a0_0 : Int) (a0_1 : Int) (a1_0 : Int) (a1_1 : Int) : Option (Int × Int × Bool) := (num_taken.f k a0_0 a0_1).bind fun bt332 => ((num_taken.f k a1_0 a1_1).bind fun bt334 => ((num_Make.f k (wrap64 ((wrap64 (bt332.1 * bt334.2)) + (wrap64 (bt334.1 * bt332.2)))) (wrap64 (bt332.2 * bt334.2))).bind fun bt336 => (some (bt336.1, bt336.2.1, bt336.2.2))))
theorem num_Add.mono : ∀ a0 a1 a2 a3 k, LeO (num_Add.f k a0 a1 a2 a3) (num_Add.f (k + 1) a0 a1 a2 a3) := by
 intro a0 a1 a2 a3 k
 unfold num_Add.f
 repeat' first
   | (with_reducible exact num_Make.mono _ _ _)
   | (with_reducible exact num_taken.mono _ _ _)
   | (with_reducible exact LeO.refl _)
   | (with_reducible exact LeO.none _)
   | (with_reducible refine LeO.ite ?_ ?_)
   | (with_reducible refine LeO.bind ?_ (fun _ => ?_))
   | exact num_Make.mono _ _ _
   | exact num_taken.mono _ _ _
   | exact LeO.none _
   | refine LeO.ite ?_ ?_
   | refine LeO.bind ?_ (fun _ => ?_)
set_option maxHeartbeats 8000000 in
set_option maxRecDepth 100000 in
theorem num_Add.calls (k : Nat) (a0_0 : Int) (a0_1 : Int) (a1_0 : Int) (a1_1 : Int) (r1 : Int) (r2 : Int) (r3 : Bool) (w : World) (h : num_Add.f k a0_0 a0_1 a1_0 a1_1 = some (r1, r2, r3)) :
  Calls Tryd.prog 45 #[.agg #[.int .i64 a0_0, .int .i64 a0_1], .agg #[.int .i64 a1_0, .int .i64 a1_1]] w fun e w' => e = .returned (.tuple #[.agg #[.int .i64 r1, .int .i64 r2], .bool r3]) ∧ Below w.heap.size w w' := by
 have hu23 := Tryd.underlying23
 have BX := Bx.start w
 have H : ((num_taken.f k a0_0 a0_1).bind fun bt332 => ((num_taken.f k a1_0 a1_1).bind fun bt334 => ((num_Make.f k (wrap64 ((wrap64 (bt332.1 * bt334.2)) + (wrap64 (bt334.1 * bt332.2)))) (wrap64 (bt332.2 * bt334.2))).bind fun bt336 => (some (bt336.1, bt336.2.1, bt336.2.2))))) = some (r1, r2, r3) := h
 clear h
 replace H := Option.bind_eq_some_iff.mp H
 obtain ⟨⟨t332, t333⟩, A30, H⟩ := H
 have A3 := Aside0.mk A30
 clear A30
 replace H := Option.bind_eq_some_iff.mp H
 obtain ⟨⟨t334, t335⟩, A40, H⟩ := H
 have A4 := Aside0.mk A40
 clear A40
 replace H := Option.bind_eq_some_iff.mp H
 obtain ⟨⟨t336, t337, t338⟩, A50, H⟩ := H
 replace H : (some (t336, t337, t338)) = some (r1, r2, r3) := H
 have A5 := Aside0.mk A50
 clear A50
 simp only [Option.some.injEq, Prod.mk.injEq] at H
 obtain ⟨rfl, rfl, rfl⟩ := H
 go_enter Tryd.func45, Tryd.ntmps45
 try go_wp2_with (first | ((with_reducible refine gate_dst (N := 2) rfl ?_); refine bxe 2 #[.int .i64 a0_0, .int .i64 a0_1] 23 rfl rfl gr ?_; clear BX; intro gb329 w6 GE329 BX) | ((with_reducible refine gate_dst (N := 3) rfl ?_); refine bxe 3 #[.int .i64 a1_0, .int .i64 a1_1] 23 rfl rfl gr ?_; clear BX; intro gb330 w7 GE330 BX) | ((with_reducible refine gate_dst (N := 4) rfl ?_); refine bxe 4 #[.int .i64 0, .int .i64 0] 23 rfl rfl gr ?_; clear BX; intro gb331 w8 GE331 BX))
 refine startm [false, true, true] (n := 6) (ds := [4, 5]) #[false, false, false, false, false, false] kr rfl rfl (fun BX1 => ?_)
 clear BX
 have BX := BX1
 clear BX1
 generalize w8.drew = w9 at BX ⊢
 refine take_ (i := 0) (N := some 6) (v := ?_) (a' := ?_) #[true, false, false, false, false, false] rfl rfl kr (fun _ _ _ h => h) (Or.inl ⟨by rfl, ?_⟩) bxs ?_ ?_
 rotate_left
 ·intro w' hS
  go_simp
  with_reducible rfl
 rotate_left
 ·simp only [Act.put, List.setIfInBounds_toArray, List.set_cons_zero, List.set_cons_succ, i64_w, i32_w]
  rfl
 refine take_ (i := 2) (N := some 8) (v := ?_) (a' := ?_) #[true, false, true, false, false, false] rfl rfl kr (fun _ _ _ h => h) (Or.inl ⟨by rfl, ?_⟩) bxs ?_ ?_
 rotate_left
 ·intro w' hS
  go_simp
  with_reducible rfl
 rotate_left
 ·simp only [Act.put, List.setIfInBounds_toArray, List.set_cons_zero, List.set_cons_succ, i64_w, i32_w]
  rfl
 refine one_ (i := 1) (N := some 7) #[true, true, true, false, false, false] rfl rfl kr (by decide) (fun K hK => ?_)
 refine goes_ Tryd.func79 kr rfl #[.agg #[.int .i64 a0_0, .int .i64 a0_1]] (by rfl) rfl rfl ga ?_
 with_reducible refine (num_taken.calls k a0_0 a0_1 t332 t333 _ A3.out).mono ?_
 rintro e w10 ⟨rfl, hb⟩
 refine ⟨_, rfl, ?_⟩
 replace BX := bx_call hb
 clear hb
 refine hK.out _ _ bxs (fun hHeld => ?_)
 clear hK K hHeld
 refine norm_ (a' := ?_) ?_ ?_
 rotate_left
 ·show Act.put _ (some 7) _ = _
  simp only [Act.put, List.setIfInBounds_toArray, List.set_cons_zero, List.set_cons_succ, i64_w, i32_w]
  rfl
 refine one_ (i := 3) (N := some 9) #[true, true, true, true, false, false] rfl rfl kr (by decide) (fun K hK => ?_)
 refine goes_ Tryd.func79 kr rfl #[.agg #[.int .i64 a1_0, .int .i64 a1_1]] (by rfl) rfl rfl ga ?_
 with_reducible refine (num_taken.calls k a1_0 a1_1 t334 t335 _ A4.out).mono ?_
 rintro e w11 ⟨rfl, hb⟩
 refine ⟨_, rfl, ?_⟩
 replace BX := bx_call hb
 clear hb
 refine hK.out _ _ bxs (fun hHeld => ?_)
 clear hK K hHeld
 refine norm_ (a' := ?_) ?_ ?_
 rotate_left
 ·show Act.put _ (some 9) _ = _
  simp only [Act.put, List.setIfInBounds_toArray, List.set_cons_zero, List.set_cons_succ, i64_w, i32_w]
  rfl
 refine last_ (i := 4) (N := none) #[true, true, true, true, true, false] rfl rfl kr (by decide) (fun K hK => ?_)
 refine skip_ (w1 := ?_) (by rfl) rfl ?_ ?_
 rotate_left
 ·go_simp
  rfl
 refine hK.out _ _ (name_any fun wq BXq => ?_)
 clear hK K BX
 have BX := BXq
 clear BXq
 refine last_ (i := 5) (N := none) #[true, true, true, true, true, true] rfl rfl kr (by decide) (fun K hK => ?_)
 refine skip_ (w1 := ?_) (by rfl) rfl ?_ ?_
 rotate_left
 ·go_simp
  rfl
 refine hK.out _ _ (name_any fun wq BXq => ?_)
 clear hK K BX
 have BX := BXq
 clear BXq
 refine done_ kr ?_
 try go_wp2_with (first | ((with_reducible refine gate_callee (f := 80) rfl ?_); refine goesL_ (some 26) rfl rfl Tryd.func80 kr rfl #[.int .i64 (wrap64 ((wrap64 (t332 * t335)) + (wrap64 (t334 * t333)))), .int .i64 (wrap64 (t333 * t335))] rfl ga ?_; (with_reducible refine (num_Make.calls k (wrap64 ((wrap64 (t332 * t335)) + (wrap64 (t334 * t333)))) (wrap64 (t333 * t335)) t336 t337 t338 _ A5.out).mono ?_); rintro e w21 ⟨rfl, hb⟩; refine ⟨_, rfl, ?_⟩; replace BX := bx_call hb; clear hb))
 refine bodyPost_ret (results_ct rfl _ _ gb331 23 #[.int .i64 t336, .int .i64 t337] (0, 0) _ rfl bx_get Tryd.underlying23 rfl kr) rfl ?_
 exact ⟨er2, bx_bl⟩
end
section
/-! ### num_Neg: function 48 -/
def num_Neg.f (k : Nat) (a0_0 : Int) (a0_1 : Int) : Option (Int × Int) := (num_taken.f k a0_0 a0_1).bind fun bt341 => (some (wrap64 (-bt341.1), bt341.2))
theorem num_Neg.mono : ∀ a0 a1 k, LeO (num_Neg.f k a0 a1) (num_Neg.f (k + 1) a0 a1) := by
 intro a0 a1 k
 unfold num_Neg.f
 repeat' first
   | (with_reducible exact num_taken.mono _ _ _)
   | (with_reducible exact LeO.refl _)
   | (with_reducible exact LeO.none _)
   | (with_reducible refine LeO.ite ?_ ?_)
   | (with_reducible refine LeO.bind ?_ (fun _ => ?_))
   | exact num_taken.mono _ _ _
   | exact LeO.none _
   | refine LeO.ite ?_ ?_
   | refine LeO.bind ?_ (fun _ => ?_)
set_option maxHeartbeats 8000000 in
set_option maxRecDepth 100000 in
theorem num_Neg.calls (k : Nat) (a0_0 : Int) (a0_1 : Int) (r1 : Int) (r2 : Int) (w : World) (h : num_Neg.f k a0_0 a0_1 = some (r1, r2)) :
  Calls Tryd.prog 48 #[.agg #[.int .i64 a0_0, .int .i64 a0_1]] w fun e w' => e = .returned (.agg #[.int .i64 r1, .int .i64 r2]) ∧ Below w.heap.size w w' := by
 have hu23 := Tryd.underlying23
 have BX := Bx.start w
 have H : ((num_taken.f k a0_0 a0_1).bind fun bt341 => (some (wrap64 (-bt341.1), bt341.2))) = some (r1, r2) := h
 clear h
 replace H := Option.bind_eq_some_iff.mp H
 obtain ⟨⟨t341, t342⟩, A20, H⟩ := H
 replace H : (some (wrap64 (-t341), t342)) = some (r1, r2) := H
 have A2 := Aside0.mk A20
 clear A20
 simp only [Option.some.injEq, Prod.mk.injEq] at H
 obtain ⟨rfl, rfl⟩ := H
 go_enter Tryd.func48, Tryd.ntmps48
 go_wp2_with (first | ((with_reducible refine gate_dst (N := 1) rfl ?_); refine bxe 1 #[.int .i64 a0_0, .int .i64 a0_1] 23 rfl rfl gr ?_; clear BX; intro gb339 w3 GE339 BX) | ((with_reducible refine gate_dst (N := 2) rfl ?_); refine bxe 2 #[.int .i64 0, .int .i64 0] 23 rfl rfl gr ?_; clear BX; intro gb340 w4 GE340 BX) | ((with_reducible refine gate_callee (f := 79) rfl ?_); refine goesL_ (some 4) rfl rfl Tryd.func79 kr rfl #[.agg #[.int .i64 a0_0, .int .i64 a0_1]] rfl ga ?_; (with_reducible refine (num_taken.calls k a0_0 a0_1 t341 t342 _ A2.out).mono ?_); rintro e w7 ⟨rfl, hb⟩; refine ⟨_, rfl, ?_⟩; replace BX := bx_call hb; clear hb))
 refine bodyPost_ret (results_cell_row rfl _ _ gb340 23 #[.int .i64 (wrap64 (-t341)), .int .i64 t342] (0, 0) _ rfl bx_get Tryd.underlying23 rfl kr) rfl ?_
 exact ⟨er2, bx_bl⟩
end
section
/-! ### num_Sub: function 46 -/
def num_Sub.f (k : Nat) (a0_0 : Int) (a0_1 : Int) (a1_0 : Int) (a1_1 : Int) : Option (Int × Int × Bool) := (num_Neg.f k a1_0 a1_1).bind fun bt346 => ((num_Add.f k a0_0 a0_1 bt346.1 bt346.2).bind fun bt348 => (some (bt348.1, bt348.2.1, bt348.2.2)))
theorem num_Sub.mono : ∀ a0 a1 a2 a3 k, LeO (num_Sub.f k a0 a1 a2 a3) (num_Sub.f (k + 1) a0 a1 a2 a3) := by
 intro a0 a1 a2 a3 k
 unfold num_Sub.f
 repeat' first
   | (with_reducible exact num_Add.mono _ _ _ _ _)
   | (with_reducible exact num_Neg.mono _ _ _)
   | (with_reducible exact LeO.refl _)
   | (with_reducible exact LeO.none _)
   | (with_reducible refine LeO.ite ?_ ?_)
   | (with_reducible refine LeO.bind ?_ (fun _ => ?_))
   | exact num_Add.mono _ _ _ _ _
   | exact num_Neg.mono _ _ _
   | exact LeO.none _
   | refine LeO.ite ?_ ?_
   | refine LeO.bind ?_ (fun _ => ?_)
def num_Sub.T1 : Bool × List (List Nat × List Nat) := (true, [([], []), ([], []), ([1], [1]), ([0, 2, 2], [0, 2]), ([3], [3]), ([3], [3]), ([4, 3, 0, 1, 2, 3, 4, 5], [4]), ([5, 6, 0, 1, 2, 3, 4, 5, 6], [5])])
def num_Sub.B1 : List Nat := [0, 0, 2, 7, 15, 15, 63, 127]
theorem num_Sub.tab1 : rtab .any (opsOf Tryd.f46 1) = num_Sub.T1 := by kernel_rfl
theorem num_Sub.bits1 : waitsOk num_Sub.T1.2 num_Sub.B1 = true := by kernel_rfl
set_option maxHeartbeats 8000000 in
set_option maxRecDepth 100000 in
theorem num_Sub.calls (k : Nat) (a0_0 : Int) (a0_1 : Int) (a1_0 : Int) (a1_1 : Int) (r1 : Int) (r2 : Int) (r3 : Bool) (w : World) (h : num_Sub.f k a0_0 a0_1 a1_0 a1_1 = some (r1, r2, r3)) :
  Calls Tryd.prog 46 #[.agg #[.int .i64 a0_0, .int .i64 a0_1], .agg #[.int .i64 a1_0, .int .i64 a1_1]] w fun e w' => e = .returned (.tuple #[.agg #[.int .i64 r1, .int .i64 r2], .bool r3]) ∧ Below w.heap.size w w' := by
 have hu23 := Tryd.underlying23
 have BX := Bx.start w
 have H : ((num_Neg.f k a1_0 a1_1).bind fun bt346 => ((num_Add.f k a0_0 a0_1 bt346.1 bt346.2).bind fun bt348 => (some (bt348.1, bt348.2.1, bt348.2.2)))) = some (r1, r2, r3) := h
 clear h
 replace H := Option.bind_eq_some_iff.mp H
 obtain ⟨⟨t346, t347⟩, A30, H⟩ := H
 have A3 := Aside0.mk A30
 clear A30
 replace H := Option.bind_eq_some_iff.mp H
 obtain ⟨⟨t348, t349, t350⟩, A40, H⟩ := H
 replace H : (some (t348, t349, t350)) = some (r1, r2, r3) := H
 have A4 := Aside0.mk A40
 clear A40
 simp only [Option.some.injEq, Prod.mk.injEq] at H
 obtain ⟨rfl, rfl, rfl⟩ := H
 go_enter Tryd.func46, Tryd.ntmps46
 try go_wp2_with (first | ((with_reducible refine gate_dst (N := 2) rfl ?_); refine bxe 2 #[.int .i64 a0_0, .int .i64 a0_1] 23 rfl rfl gr ?_; clear BX; intro gb343 w5 GE343 BX) | ((with_reducible refine gate_dst (N := 3) rfl ?_); refine bxe 3 #[.int .i64 a1_0, .int .i64 a1_1] 23 rfl rfl gr ?_; clear BX; intro gb344 w6 GE344 BX) | ((with_reducible refine gate_dst (N := 4) rfl ?_); refine bxe 4 #[.int .i64 0, .int .i64 0] 23 rfl rfl gr ?_; clear BX; intro gb345 w7 GE345 BX))
 refine startm [false, true, true] (n := 8) (ds := []) #[false, false, false, false, false, false, false, false] kr rfl rfl (fun BX1 => ?_); refine with_tabW num_Sub.tab1 num_Sub.bits1 (fun HT_ HW_ => ?_)
 clear BX
 have BX := BX1
 clear BX1
 generalize w7.drew = w8 at BX ⊢
 refine take_ (i := 0) (N := some 6) (v := ?_) (a' := ?_) #[true, false, false, false, false, false, false, false] rfl rfl (take_ofW HT_.out HW_.out kr) (fun _ _ _ h => h) (Or.inl ⟨by rfl, ?_⟩) bxs ?_ ?_
 rotate_left
 ·intro w' hS
  go_simp
  with_reducible rfl
 rotate_left
 ·simp only [Act.put, List.setIfInBounds_toArray, List.set_cons_zero, List.set_cons_succ, i64_w, i32_w]
  rfl
 refine take_ (i := 1) (N := some 7) (v := ?_) (a' := ?_) #[true, true, false, false, false, false, false, false] rfl rfl (take_ofW HT_.out HW_.out kr) (fun _ _ _ h => h) (Or.inl ⟨by rfl, ?_⟩) bxs ?_ ?_
 rotate_left
 ·intro w' hS
  go_simp
  with_reducible rfl
 rotate_left
 ·simp only [Act.put, List.setIfInBounds_toArray, List.set_cons_zero, List.set_cons_succ, i64_w, i32_w]
  rfl
 refine one_ (i := 2) (N := some 8) #[true, true, true, false, false, false, false, false] rfl rfl (one_of HT_.out kr) (by decide) (fun K hK => ?_)
 refine goes_ Tryd.func48 kr rfl #[.agg #[.int .i64 a1_0, .int .i64 a1_1]] (by rfl) rfl rfl ga ?_
 with_reducible refine (num_Neg.calls k a1_0 a1_1 t346 t347 _ A3.out).mono ?_
 rintro e w9 ⟨rfl, hb⟩
 refine ⟨_, rfl, ?_⟩
 replace BX := bx_call hb
 clear hb
 refine hK.out _ _ bxs (fun hHeld => ?_)
 clear hK K hHeld
 refine norm_ (a' := ?_) ?_ ?_
 rotate_left
 ·show Act.put _ (some 8) _ = _
  simp only [Act.put, List.setIfInBounds_toArray, List.set_cons_zero, List.set_cons_succ, i64_w, i32_w]
  rfl
 refine one_ (i := 3) (N := some 9) #[true, true, true, true, false, false, false, false] rfl rfl (one_of HT_.out kr) (by decide) (fun K hK => ?_)
 refine goes_ Tryd.func45 kr rfl #[.agg #[.int .i64 a0_0, .int .i64 a0_1], .agg #[.int .i64 t346, .int .i64 t347]] (by rfl) rfl rfl ga ?_
 with_reducible refine (num_Add.calls k a0_0 a0_1 t346 t347 t348 t349 t350 _ A4.out).mono ?_
 rintro e w10 ⟨rfl, hb⟩
 refine ⟨_, rfl, ?_⟩
 replace BX := bx_call hb
 clear hb
 refine hK.out _ _ bxs (fun hHeld => ?_)
 clear hK K hHeld
 refine norm_ (a' := ?_) ?_ ?_
 rotate_left
 ·show Act.put _ (some 9) _ = _
  simp only [Act.put, List.setIfInBounds_toArray, List.set_cons_zero, List.set_cons_succ, i64_w, i32_w]
  rfl
 refine pure_ (i := 4) (N := some 10) (v := ?_) (a' := ?_) #[true, true, true, true, true, false, false, false] rfl rfl (any_of HT_.out kr) (fun _ _ _ h => h) (Or.inl ⟨by rfl, ?_⟩) ?_ ?_
 rotate_left
 ·intro w'
  go_simp
  with_reducible rfl
 rotate_left
 ·simp only [Act.put, List.setIfInBounds_toArray, List.set_cons_zero, List.set_cons_succ, i64_w, i32_w]
  rfl
 refine pure_ (i := 5) (N := some 11) (v := ?_) (a' := ?_) #[true, true, true, true, true, true, false, false] rfl rfl (any_of HT_.out kr) (fun _ _ _ h => h) (Or.inl ⟨by rfl, ?_⟩) ?_ ?_
 rotate_left
 ·intro w'
  go_simp
  with_reducible rfl
 rotate_left
 ·simp only [Act.put, List.setIfInBounds_toArray, List.set_cons_zero, List.set_cons_succ, i64_w, i32_w]
  rfl
 refine one_ (i := 6) (N := none) #[true, true, true, true, true, true, true, false] rfl rfl (one_of HT_.out kr) (by decide) (fun K hK => ?_)
 refine skip_ (w1 := ?_) (by rfl) rfl ?_ ?_
 rotate_left
 ·go_simp
  rfl
 refine hK.out _ _ bxs (fun hHeld => ?_)
 clear hK K hHeld
 refine pure_ (i := 7) (N := some 5) (v := ?_) (a' := ?_) #[true, true, true, true, true, true, true, true] rfl rfl (any_of HT_.out kr) (fun _ _ _ h => h) (Or.inl ⟨by rfl, ?_⟩) ?_ ?_
 rotate_left
 ·intro w'
  go_simp
  with_reducible rfl
 rotate_left
 ·simp only [Act.put, List.setIfInBounds_toArray, List.set_cons_zero, List.set_cons_succ, i64_w, i32_w]
  rfl
 refine done_ (done_of HT_.out kr) ?_
 try go_wp2
 refine bodyPost_ret (results_ct rfl _ _ gb345 23 #[.int .i64 t348, .int .i64 t349] (0, 0) _ rfl bx_get Tryd.underlying23 rfl kr) rfl ?_
 exact ⟨er2, bx_bl⟩
end
section
/-! ### num_product: function 81 -/
def num_product.j0 : Nat → Int → Int → Int → Int → Bool → Option (Int × Int × Bool)
 | 0, _, _, _, _, _ => none
 | k + 1, x0, x1, x2, x3, x51 => if x51 = true then (some (0, 0, false)) else (if (wrap64 (x0 * x2)) = 0 then (some (0, 1, true)) else (some (wrap64 (x0 * x2), wrap64 (x1 * x3), true)))
def num_product.f (k : Nat) (a0 : Int) (a1 : Int) (a2 : Int) (a3 : Int) : Option (Int × Int × Bool) := (num_size.f a0).bind fun t352 => ((num_gcd.f k t352 (IntKind.u64.wrap (a3))).bind fun t353 => ((num_size.f a2).bind fun t354 => ((num_gcd.f k t354 (IntKind.u64.wrap (a1))).bind fun t355 => (if (wrap64 (t353)) = 0 then (none) else (if (wrap64 (t355)) = 0 then (none) else (if (wrap64 (Int.tdiv a2 (wrap64 (t355)))) = 0 then (num_product.j0 k (wrap64 (Int.tdiv a0 (wrap64 (t353)))) (wrap64 (Int.tdiv a1 (wrap64 (t355)))) (wrap64 (Int.tdiv a2 (wrap64 (t355)))) (wrap64 (Int.tdiv a3 (wrap64 (t353)))) (decide ((wrap64 ((wrap64 (Int.tdiv a1 (wrap64 (t355)))) * (wrap64 (Int.tdiv a3 (wrap64 (t353)))))) > 1000000))) else ((num_size.f (wrap64 (Int.tdiv a0 (wrap64 (t353))))).bind fun t356 => ((num_size.f (wrap64 (Int.tdiv a2 (wrap64 (t355))))).bind fun t357 => (if t357 = 0 then (none) else (if t356 > (IntKind.u64.wrap (Int.tdiv (1000000000000 : Int) t357)) then (num_product.j0 k (wrap64 (Int.tdiv a0 (wrap64 (t353)))) (wrap64 (Int.tdiv a1 (wrap64 (t355)))) (wrap64 (Int.tdiv a2 (wrap64 (t355)))) (wrap64 (Int.tdiv a3 (wrap64 (t353)))) true) else (num_product.j0 k (wrap64 (Int.tdiv a0 (wrap64 (t353)))) (wrap64 (Int.tdiv a1 (wrap64 (t355)))) (wrap64 (Int.tdiv a2 (wrap64 (t355)))) (wrap64 (Int.tdiv a3 (wrap64 (t353)))) (decide ((wrap64 ((wrap64 (Int.tdiv a1 (wrap64 (t355)))) * (wrap64 (Int.tdiv a3 (wrap64 (t353)))))) > 1000000)))))))))))))
theorem num_product.mono_l : ∀ k, (∀ y0 y1 y2 y3 y4, LeO (num_product.j0 k y0 y1 y2 y3 y4) (num_product.j0 (k + 1) y0 y1 y2 y3 y4))
 | 0 => fun _ _ _ _ _ r h => by simp [num_product.j0] at h
 | k + 1 => by
  have ih0 := num_product.mono_l k
  ·intro y0 y1 y2 y3 y4
   unfold num_product.j0
   repeat' first
   | (with_reducible exact ih0 _ _ _ _ _)
   | (with_reducible exact num_gcd.mono _ _ _)
   | (with_reducible exact LeO.refl _)
   | (with_reducible exact LeO.none _)
   | (with_reducible refine LeO.ite ?_ ?_)
   | (with_reducible refine LeO.bind ?_ (fun _ => ?_))
   | exact ih0 _ _ _ _ _
   | exact num_gcd.mono _ _ _
   | exact LeO.none _
   | refine LeO.ite ?_ ?_
   | refine LeO.bind ?_ (fun _ => ?_)
theorem num_product.mono : ∀ a0 a1 a2 a3 k, LeO (num_product.f k a0 a1 a2 a3) (num_product.f (k + 1) a0 a1 a2 a3) := by
 intro a0 a1 a2 a3 k
 have ih0 := num_product.mono_l k
 unfold num_product.f
 repeat' first
   | (with_reducible exact ih0 _ _ _ _ _)
   | (with_reducible exact num_gcd.mono _ _ _)
   | (with_reducible exact LeO.refl _)
   | (with_reducible exact LeO.none _)
   | (with_reducible refine LeO.ite ?_ ?_)
   | (with_reducible refine LeO.bind ?_ (fun _ => ?_))
   | exact ih0 _ _ _ _ _
   | exact num_gcd.mono _ _ _
   | exact LeO.none _
   | refine LeO.ite ?_ ?_
   | refine LeO.bind ?_ (fun _ => ?_)
set_option maxHeartbeats 8000000 in
set_option maxRecDepth 100000 in
theorem num_product.calls (k : Nat) (a0 : Int) (a1 : Int) (a2 : Int) (a3 : Int) (r1 : Int) (r2 : Int) (r3 : Bool) (w : World) (h : num_product.f k a0 a1 a2 a3 = some (r1, r2, r3)) :
  Calls Tryd.prog 81 #[.int .i64 a0, .int .i64 a1, .int .i64 a2, .int .i64 a3] w fun e w' => e = .returned (.tuple #[.agg #[.int .i64 r1, .int .i64 r2], .bool r3]) ∧ Below w.heap.size w w' := by
 have hu23 := Tryd.underlying23
 have BX := Bx.start w
 have H : ((num_size.f a0).bind fun t352 => ((num_gcd.f k t352 (IntKind.u64.wrap (a3))).bind fun t353 => ((num_size.f a2).bind fun t354 => ((num_gcd.f k t354 (IntKind.u64.wrap (a1))).bind fun t355 => (if (wrap64 (t353)) = 0 then (none) else (if (wrap64 (t355)) = 0 then (none) else (if (wrap64 (Int.tdiv a2 (wrap64 (t355)))) = 0 then (num_product.j0 k (wrap64 (Int.tdiv a0 (wrap64 (t353)))) (wrap64 (Int.tdiv a1 (wrap64 (t355)))) (wrap64 (Int.tdiv a2 (wrap64 (t355)))) (wrap64 (Int.tdiv a3 (wrap64 (t353)))) (decide ((wrap64 ((wrap64 (Int.tdiv a1 (wrap64 (t355)))) * (wrap64 (Int.tdiv a3 (wrap64 (t353)))))) > 1000000))) else ((num_size.f (wrap64 (Int.tdiv a0 (wrap64 (t353))))).bind fun t356 => ((num_size.f (wrap64 (Int.tdiv a2 (wrap64 (t355))))).bind fun t357 => (if t357 = 0 then (none) else (if t356 > (IntKind.u64.wrap (Int.tdiv (1000000000000 : Int) t357)) then (num_product.j0 k (wrap64 (Int.tdiv a0 (wrap64 (t353)))) (wrap64 (Int.tdiv a1 (wrap64 (t355)))) (wrap64 (Int.tdiv a2 (wrap64 (t355)))) (wrap64 (Int.tdiv a3 (wrap64 (t353)))) true) else (num_product.j0 k (wrap64 (Int.tdiv a0 (wrap64 (t353)))) (wrap64 (Int.tdiv a1 (wrap64 (t355)))) (wrap64 (Int.tdiv a2 (wrap64 (t355)))) (wrap64 (Int.tdiv a3 (wrap64 (t353)))) (decide ((wrap64 ((wrap64 (Int.tdiv a1 (wrap64 (t355)))) * (wrap64 (Int.tdiv a3 (wrap64 (t353)))))) > 1000000)))))))))))))) = some (r1, r2, r3) := h
 clear h
 replace H := Option.bind_eq_some_iff.mp H
 obtain ⟨t352, A50, H⟩ := H
 have A5 := Aside0.mk A50
 clear A50
 replace H := Option.bind_eq_some_iff.mp H
 obtain ⟨t353, A60, H⟩ := H
 have A6 := Aside0.mk A60
 clear A60
 replace H := Option.bind_eq_some_iff.mp H
 obtain ⟨t354, A70, H⟩ := H
 have A7 := Aside0.mk A70
 clear A70
 replace H := Option.bind_eq_some_iff.mp H
 obtain ⟨t355, A80, H⟩ := H
 replace H : (if (wrap64 (t353)) = 0 then (none) else (if (wrap64 (t355)) = 0 then (none) else (if (wrap64 (Int.tdiv a2 (wrap64 (t355)))) = 0 then (num_product.j0 k (wrap64 (Int.tdiv a0 (wrap64 (t353)))) (wrap64 (Int.tdiv a1 (wrap64 (t355)))) (wrap64 (Int.tdiv a2 (wrap64 (t355)))) (wrap64 (Int.tdiv a3 (wrap64 (t353)))) (decide ((wrap64 ((wrap64 (Int.tdiv a1 (wrap64 (t355)))) * (wrap64 (Int.tdiv a3 (wrap64 (t353)))))) > 1000000))) else ((num_size.f (wrap64 (Int.tdiv a0 (wrap64 (t353))))).bind fun t356 => ((num_size.f (wrap64 (Int.tdiv a2 (wrap64 (t355))))).bind fun t357 => (if t357 = 0 then (none) else (if t356 > (IntKind.u64.wrap (Int.tdiv (1000000000000 : Int) t357)) then (num_product.j0 k (wrap64 (Int.tdiv a0 (wrap64 (t353)))) (wrap64 (Int.tdiv a1 (wrap64 (t355)))) (wrap64 (Int.tdiv a2 (wrap64 (t355)))) (wrap64 (Int.tdiv a3 (wrap64 (t353)))) true) else (num_product.j0 k (wrap64 (Int.tdiv a0 (wrap64 (t353)))) (wrap64 (Int.tdiv a1 (wrap64 (t355)))) (wrap64 (Int.tdiv a2 (wrap64 (t355)))) (wrap64 (Int.tdiv a3 (wrap64 (t353)))) (decide ((wrap64 ((wrap64 (Int.tdiv a1 (wrap64 (t355)))) * (wrap64 (Int.tdiv a3 (wrap64 (t353)))))) > 1000000)))))))))) = some (r1, r2, r3) := H
 have A8 := Aside0.mk A80
 clear A80
 by_cases c9 : (wrap64 (t353)) = 0
 ·rw [if_pos c9] at H
  exact absurd H (by simp)
 ·rw [if_neg c9] at H
  have c9b0 : ((wrap64 (t353)) == 0) = false := beq_eq_false_iff_ne.mpr c9
  have c9b1 : ((wrap64 (t353)) != 0) = true := bne_iff_ne.mpr c9
  by_cases c10 : (wrap64 (t355)) = 0
  ·rw [if_pos c10] at H
   exact absurd H (by simp)
  ·rw [if_neg c10] at H
   have c10b0 : ((wrap64 (t355)) == 0) = false := beq_eq_false_iff_ne.mpr c10
   have c10b1 : ((wrap64 (t355)) != 0) = true := bne_iff_ne.mpr c10
   have HC11 := Aside0.mk H
   clear H
   go_enter Tryd.func81, Tryd.ntmps81
   go_upto_region 3 with (first | ((with_reducible refine gate_dst (N := 8) rfl ?_); refine bxe 8 #[.int .i64 0, .int .i64 0] 23 rfl rfl gr ?_; clear BX; intro gb351 w12 GE351 BX) | (go_at_call 83; (with_reducible refine (num_size.calls a0 t352 _ A5.out).mono ?_); rintro e w' ⟨rfl, ⟨nd, rfl⟩⟩; (try first | exact ⟨rfl, _, World.drewN_drewN _ _ _⟩ | exact ⟨rfl, _, Eq.trans (World.drewN_drewN _ _ _) (congrArg (World.drewN _) (Nat.add_assoc _ _ _))⟩)) | (go_at_call 82; (with_reducible refine (num_gcd.calls k t352 (IntKind.u64.wrap (a3)) t353 _ A6.out).mono ?_); rintro e w' ⟨rfl, ⟨nd, rfl⟩⟩; (try first | exact ⟨rfl, _, World.drewN_drewN _ _ _⟩ | exact ⟨rfl, _, Eq.trans (World.drewN_drewN _ _ _) (congrArg (World.drewN _) (Nat.add_assoc _ _ _))⟩)) | (go_at_call 83; (with_reducible refine (num_size.calls a2 t354 _ A7.out).mono ?_); rintro e w' ⟨rfl, ⟨nd, rfl⟩⟩; (try first | exact ⟨rfl, _, World.drewN_drewN _ _ _⟩ | exact ⟨rfl, _, Eq.trans (World.drewN_drewN _ _ _) (congrArg (World.drewN _) (Nat.add_assoc _ _ _))⟩)) | (go_at_call 82; (with_reducible refine (num_gcd.calls k t354 (IntKind.u64.wrap (a1)) t355 _ A8.out).mono ?_); rintro e w' ⟨rfl, ⟨nd, rfl⟩⟩; (try first | exact ⟨rfl, _, World.drewN_drewN _ _ _⟩ | exact ⟨rfl, _, Eq.trans (World.drewN_drewN _ _ _) (congrArg (World.drewN _) (Nat.add_assoc _ _ _))⟩)))
   repeat (go_quiet (first | ((with_reducible refine gate_dst (N := 8) rfl ?_); refine bxe 8 #[.int .i64 0, .int .i64 0] 23 rfl rfl gr ?_; clear BX; intro gb351 w12 GE351 BX) | (go_at_call 83; (with_reducible refine (num_size.calls a0 t352 _ A5.out).mono ?_); rintro e w' ⟨rfl, ⟨nd, rfl⟩⟩; (try first | exact ⟨rfl, _, World.drewN_drewN _ _ _⟩ | exact ⟨rfl, _, Eq.trans (World.drewN_drewN _ _ _) (congrArg (World.drewN _) (Nat.add_assoc _ _ _))⟩)) | (go_at_call 82; (with_reducible refine (num_gcd.calls k t352 (IntKind.u64.wrap (a3)) t353 _ A6.out).mono ?_); rintro e w' ⟨rfl, ⟨nd, rfl⟩⟩; (try first | exact ⟨rfl, _, World.drewN_drewN _ _ _⟩ | exact ⟨rfl, _, Eq.trans (World.drewN_drewN _ _ _) (congrArg (World.drewN _) (Nat.add_assoc _ _ _))⟩)) | (go_at_call 83; (with_reducible refine (num_size.calls a2 t354 _ A7.out).mono ?_); rintro e w' ⟨rfl, ⟨nd, rfl⟩⟩; (try first | exact ⟨rfl, _, World.drewN_drewN _ _ _⟩ | exact ⟨rfl, _, Eq.trans (World.drewN_drewN _ _ _) (congrArg (World.drewN _) (Nat.add_assoc _ _ _))⟩)) | (go_at_call 82; (with_reducible refine (num_gcd.calls k t354 (IntKind.u64.wrap (a1)) t355 _ A8.out).mono ?_); rintro e w' ⟨rfl, ⟨nd, rfl⟩⟩; (try first | exact ⟨rfl, _, World.drewN_drewN _ _ _⟩ | exact ⟨rfl, _, Eq.trans (World.drewN_drewN _ _ _) (congrArg (World.drewN _) (Nat.add_assoc _ _ _))⟩))); go_upto_region 3 with (first | ((with_reducible refine gate_dst (N := 8) rfl ?_); refine bxe 8 #[.int .i64 0, .int .i64 0] 23 rfl rfl gr ?_; clear BX; intro gb351 w12 GE351 BX) | (go_at_call 83; (with_reducible refine (num_size.calls a0 t352 _ A5.out).mono ?_); rintro e w' ⟨rfl, ⟨nd, rfl⟩⟩; (try first | exact ⟨rfl, _, World.drewN_drewN _ _ _⟩ | exact ⟨rfl, _, Eq.trans (World.drewN_drewN _ _ _) (congrArg (World.drewN _) (Nat.add_assoc _ _ _))⟩)) | (go_at_call 82; (with_reducible refine (num_gcd.calls k t352 (IntKind.u64.wrap (a3)) t353 _ A6.out).mono ?_); rintro e w' ⟨rfl, ⟨nd, rfl⟩⟩; (try first | exact ⟨rfl, _, World.drewN_drewN _ _ _⟩ | exact ⟨rfl, _, Eq.trans (World.drewN_drewN _ _ _) (congrArg (World.drewN _) (Nat.add_assoc _ _ _))⟩)) | (go_at_call 83; (with_reducible refine (num_size.calls a2 t354 _ A7.out).mono ?_); rintro e w' ⟨rfl, ⟨nd, rfl⟩⟩; (try first | exact ⟨rfl, _, World.drewN_drewN _ _ _⟩ | exact ⟨rfl, _, Eq.trans (World.drewN_drewN _ _ _) (congrArg (World.drewN _) (Nat.add_assoc _ _ _))⟩)) | (go_at_call 82; (with_reducible refine (num_gcd.calls k t354 (IntKind.u64.wrap (a1)) t355 _ A8.out).mono ?_); rintro e w' ⟨rfl, ⟨nd, rfl⟩⟩; (try first | exact ⟨rfl, _, World.drewN_drewN _ _ _⟩ | exact ⟨rfl, _, Eq.trans (World.drewN_drewN _ _ _) (congrArg (World.drewN _) (Nat.add_assoc _ _ _))⟩))))
   (try simp only [Act.put, List.setIfInBounds_toArray, List.set_cons_zero, List.set_cons_succ])
   go_cut [51] (fun v51 wc => ∃ (kq : Nat) (x51_10 : Bool), v51 = .bool x51_10 ∧ Aside0 (num_product.j0 kq (wrap64 (Int.tdiv a0 (wrap64 (t353)))) (wrap64 (Int.tdiv a1 (wrap64 (t355)))) (wrap64 (Int.tdiv a2 (wrap64 (t355)))) (wrap64 (Int.tdiv a3 (wrap64 (t353)))) x51_10 = some (r1, r2, r3)) ∧ Aside0 (kq ≤ k) ∧ Bx w wc [(gb351, 23, #[.int .i64 0, .int .i64 0])])
   case first =>
    have H := HC11.out
    clear HC11
    by_cases c13 : (wrap64 (Int.tdiv a2 (wrap64 (t355)))) = 0
    ·rw [if_pos c13] at H
     have c13b0 : ((wrap64 (Int.tdiv a2 (wrap64 (t355)))) == 0) = true := beq_iff_eq.mpr c13
     have c13b1 : ((wrap64 (Int.tdiv a2 (wrap64 (t355)))) != 0) = false := bne_eq_false_iff_eq.mpr c13
     clear c13
     (first | rw [c13b0] | (simp only [i64_w, i32_w]; rw [c13b0]) | skip)
     have H' := Aside0.mk H
     clear H
     go_wp2
     repeat (go_quiet (fail); try go_wp2)
     go_meet
     case rel => exact ⟨_, (decide ((wrap64 ((wrap64 (Int.tdiv a1 (wrap64 (t355)))) * (wrap64 (Int.tdiv a3 (wrap64 (t353)))))) > 1000000)), er, H', ⟨by first | omega | exact Nat.le_refl _⟩, bxs⟩
    ·rw [if_neg c13] at H
     have c13b0 : ((wrap64 (Int.tdiv a2 (wrap64 (t355)))) == 0) = false := beq_eq_false_iff_ne.mpr c13
     have c13b1 : ((wrap64 (Int.tdiv a2 (wrap64 (t355)))) != 0) = true := bne_iff_ne.mpr c13
     (first | rw [c13b0] | (simp only [i64_w, i32_w]; rw [c13b0]) | skip)
     replace H := Option.bind_eq_some_iff.mp H
     obtain ⟨t356, A140, H⟩ := H
     have A14 := Aside0.mk A140
     clear A140
     replace H := Option.bind_eq_some_iff.mp H
     obtain ⟨t357, A150, H⟩ := H
     replace H : (if t357 = 0 then (none) else (if t356 > (IntKind.u64.wrap (Int.tdiv (1000000000000 : Int) t357)) then (num_product.j0 k (wrap64 (Int.tdiv a0 (wrap64 (t353)))) (wrap64 (Int.tdiv a1 (wrap64 (t355)))) (wrap64 (Int.tdiv a2 (wrap64 (t355)))) (wrap64 (Int.tdiv a3 (wrap64 (t353)))) true) else (num_product.j0 k (wrap64 (Int.tdiv a0 (wrap64 (t353)))) (wrap64 (Int.tdiv a1 (wrap64 (t355)))) (wrap64 (Int.tdiv a2 (wrap64 (t355)))) (wrap64 (Int.tdiv a3 (wrap64 (t353)))) (decide ((wrap64 ((wrap64 (Int.tdiv a1 (wrap64 (t355)))) * (wrap64 (Int.tdiv a3 (wrap64 (t353)))))) > 1000000))))) = some (r1, r2, r3) := H
     have A15 := Aside0.mk A150
     clear A150
     by_cases c16 : t357 = 0
     ·rw [if_pos c16] at H
      exact absurd H (by simp)
     ·rw [if_neg c16] at H
      have c16b0 : (t357 == 0) = false := beq_eq_false_iff_ne.mpr c16
      have c16b1 : (t357 != 0) = true := bne_iff_ne.mpr c16
      by_cases c17 : t356 > (IntKind.u64.wrap (Int.tdiv (1000000000000 : Int) t357))
      ·rw [if_pos c17] at H
       have c17b0 : decide ((IntKind.u64.wrap (Int.tdiv (1000000000000 : Int) t357)) < t356) = true := decide_eq_true c17
       clear c17
       have H' := Aside0.mk H
       clear H
       go_wp2_with (first | (go_at_call 83; (with_reducible refine (num_size.calls (wrap64 (Int.tdiv a0 (wrap64 (t353)))) t356 _ A14.out).mono ?_); rintro e w' ⟨rfl, ⟨nd, rfl⟩⟩; (try first | exact ⟨rfl, _, World.drewN_drewN _ _ _⟩ | exact ⟨rfl, _, Eq.trans (World.drewN_drewN _ _ _) (congrArg (World.drewN _) (Nat.add_assoc _ _ _))⟩)) | (go_at_call 83; (with_reducible refine (num_size.calls (wrap64 (Int.tdiv a2 (wrap64 (t355)))) t357 _ A15.out).mono ?_); rintro e w' ⟨rfl, ⟨nd, rfl⟩⟩; (try first | exact ⟨rfl, _, World.drewN_drewN _ _ _⟩ | exact ⟨rfl, _, Eq.trans (World.drewN_drewN _ _ _) (congrArg (World.drewN _) (Nat.add_assoc _ _ _))⟩)))
       repeat (go_quiet (first | (go_at_call 83; (with_reducible refine (num_size.calls (wrap64 (Int.tdiv a0 (wrap64 (t353)))) t356 _ A14.out).mono ?_); rintro e w' ⟨rfl, ⟨nd, rfl⟩⟩; (try first | exact ⟨rfl, _, World.drewN_drewN _ _ _⟩ | exact ⟨rfl, _, Eq.trans (World.drewN_drewN _ _ _) (congrArg (World.drewN _) (Nat.add_assoc _ _ _))⟩)) | (go_at_call 83; (with_reducible refine (num_size.calls (wrap64 (Int.tdiv a2 (wrap64 (t355)))) t357 _ A15.out).mono ?_); rintro e w' ⟨rfl, ⟨nd, rfl⟩⟩; (try first | exact ⟨rfl, _, World.drewN_drewN _ _ _⟩ | exact ⟨rfl, _, Eq.trans (World.drewN_drewN _ _ _) (congrArg (World.drewN _) (Nat.add_assoc _ _ _))⟩))); try go_wp2_with (first | (go_at_call 83; (with_reducible refine (num_size.calls (wrap64 (Int.tdiv a0 (wrap64 (t353)))) t356 _ A14.out).mono ?_); rintro e w' ⟨rfl, ⟨nd, rfl⟩⟩; (try first | exact ⟨rfl, _, World.drewN_drewN _ _ _⟩ | exact ⟨rfl, _, Eq.trans (World.drewN_drewN _ _ _) (congrArg (World.drewN _) (Nat.add_assoc _ _ _))⟩)) | (go_at_call 83; (with_reducible refine (num_size.calls (wrap64 (Int.tdiv a2 (wrap64 (t355)))) t357 _ A15.out).mono ?_); rintro e w' ⟨rfl, ⟨nd, rfl⟩⟩; (try first | exact ⟨rfl, _, World.drewN_drewN _ _ _⟩ | exact ⟨rfl, _, Eq.trans (World.drewN_drewN _ _ _) (congrArg (World.drewN _) (Nat.add_assoc _ _ _))⟩))))
       go_meet
       case rel => exact ⟨_, (true), er, H', ⟨by first | omega | exact Nat.le_refl _⟩, bxs⟩
      ·rw [if_neg c17] at H
       have c17b0 : decide ((IntKind.u64.wrap (Int.tdiv (1000000000000 : Int) t357)) < t356) = false := decide_eq_false c17
       clear c17
       have H' := Aside0.mk H
       clear H
       go_wp2_with (first | (go_at_call 83; (with_reducible refine (num_size.calls (wrap64 (Int.tdiv a0 (wrap64 (t353)))) t356 _ A14.out).mono ?_); rintro e w' ⟨rfl, ⟨nd, rfl⟩⟩; (try first | exact ⟨rfl, _, World.drewN_drewN _ _ _⟩ | exact ⟨rfl, _, Eq.trans (World.drewN_drewN _ _ _) (congrArg (World.drewN _) (Nat.add_assoc _ _ _))⟩)) | (go_at_call 83; (with_reducible refine (num_size.calls (wrap64 (Int.tdiv a2 (wrap64 (t355)))) t357 _ A15.out).mono ?_); rintro e w' ⟨rfl, ⟨nd, rfl⟩⟩; (try first | exact ⟨rfl, _, World.drewN_drewN _ _ _⟩ | exact ⟨rfl, _, Eq.trans (World.drewN_drewN _ _ _) (congrArg (World.drewN _) (Nat.add_assoc _ _ _))⟩)))
       repeat (go_quiet (first | (go_at_call 83; (with_reducible refine (num_size.calls (wrap64 (Int.tdiv a0 (wrap64 (t353)))) t356 _ A14.out).mono ?_); rintro e w' ⟨rfl, ⟨nd, rfl⟩⟩; (try first | exact ⟨rfl, _, World.drewN_drewN _ _ _⟩ | exact ⟨rfl, _, Eq.trans (World.drewN_drewN _ _ _) (congrArg (World.drewN _) (Nat.add_assoc _ _ _))⟩)) | (go_at_call 83; (with_reducible refine (num_size.calls (wrap64 (Int.tdiv a2 (wrap64 (t355)))) t357 _ A15.out).mono ?_); rintro e w' ⟨rfl, ⟨nd, rfl⟩⟩; (try first | exact ⟨rfl, _, World.drewN_drewN _ _ _⟩ | exact ⟨rfl, _, Eq.trans (World.drewN_drewN _ _ _) (congrArg (World.drewN _) (Nat.add_assoc _ _ _))⟩))); try go_wp2_with (first | (go_at_call 83; (with_reducible refine (num_size.calls (wrap64 (Int.tdiv a0 (wrap64 (t353)))) t356 _ A14.out).mono ?_); rintro e w' ⟨rfl, ⟨nd, rfl⟩⟩; (try first | exact ⟨rfl, _, World.drewN_drewN _ _ _⟩ | exact ⟨rfl, _, Eq.trans (World.drewN_drewN _ _ _) (congrArg (World.drewN _) (Nat.add_assoc _ _ _))⟩)) | (go_at_call 83; (with_reducible refine (num_size.calls (wrap64 (Int.tdiv a2 (wrap64 (t355)))) t357 _ A15.out).mono ?_); rintro e w' ⟨rfl, ⟨nd, rfl⟩⟩; (try first | exact ⟨rfl, _, World.drewN_drewN _ _ _⟩ | exact ⟨rfl, _, Eq.trans (World.drewN_drewN _ _ _) (congrArg (World.drewN _) (Nat.add_assoc _ _ _))⟩))))
       go_meet
       case rel => exact ⟨_, (decide ((wrap64 ((wrap64 (Int.tdiv a1 (wrap64 (t355)))) * (wrap64 (Int.tdiv a3 (wrap64 (t353)))))) > 1000000)), er, H', ⟨by first | omega | exact Nat.le_refl _⟩, bxs⟩
   case rest =>
    clear HC11
    try clear c1
    try clear p2
    try clear p6
    try clear c8
    try clear c9
    try clear c9b0
    try clear c9b1
    try clear c10
    try clear c10b0
    try clear c10b1
    try clear c13
    try clear c13b0
    try clear c13b1
    try clear c16
    try clear c16b0
    try clear c16b1
    try clear c17
    try clear c17b0
    obtain ⟨kq, x51_10, rfl, HA, HJ10, BX⟩ := hcut
    cases kq with
    | zero => exact absurd HA.out (by simp [num_product.j0])
    | succ kj10 =>
     have H := HA.out
     clear HA
     simp only [num_product.j0] at H
     by_cases c18 : x51_10 = true
     ·subst c18
      have H1 : (some (0, 0, false)) = some (r1, r2, r3) := by rw [if_pos rfl] at H; exact H
      clear H
      have H := H1
      clear H1
      simp only [Option.some.injEq, Prod.mk.injEq] at H
      obtain ⟨rfl, rfl, rfl⟩ := H
      go_wp2
      repeat (go_quiet (fail); try go_wp2)
      refine bodyPost_ret (results_ct rfl _ _ gb351 23 #[.int .i64 0, .int .i64 0] (0, 0) _ rfl bx_get Tryd.underlying23 rfl kr) rfl ?_
      exact ⟨er2, bx_bl⟩
     ·replace c18 := Bool.eq_false_iff.mpr c18
      subst c18
      have H1 : (if (wrap64 ((wrap64 (Int.tdiv a0 (wrap64 (t353)))) * (wrap64 (Int.tdiv a2 (wrap64 (t355)))))) = 0 then (some (0, 1, true)) else (some (wrap64 ((wrap64 (Int.tdiv a0 (wrap64 (t353)))) * (wrap64 (Int.tdiv a2 (wrap64 (t355))))), wrap64 ((wrap64 (Int.tdiv a1 (wrap64 (t355)))) * (wrap64 (Int.tdiv a3 (wrap64 (t353))))), true))) = some (r1, r2, r3) := by rw [if_neg (show ¬ (false = true) by decide)] at H; exact H
      clear H
      have H := H1
      clear H1
      by_cases c20 : (wrap64 ((wrap64 (Int.tdiv a0 (wrap64 (t353)))) * (wrap64 (Int.tdiv a2 (wrap64 (t355)))))) = 0
      ·rw [if_pos c20] at H
       have c20b0 : ((wrap64 ((wrap64 (Int.tdiv a0 (wrap64 (t353)))) * (wrap64 (Int.tdiv a2 (wrap64 (t355)))))) == 0) = true := beq_iff_eq.mpr c20
       have c20b1 : ((wrap64 ((wrap64 (Int.tdiv a0 (wrap64 (t353)))) * (wrap64 (Int.tdiv a2 (wrap64 (t355)))))) != 0) = false := bne_eq_false_iff_eq.mpr c20
       clear c20
       simp only [Option.some.injEq, Prod.mk.injEq] at H
       obtain ⟨rfl, rfl, rfl⟩ := H
       go_wp2
       repeat (go_quiet (fail); try go_wp2)
       refine bodyPost_ret (results_ct rfl _ _ gb351 23 #[.int .i64 0, .int .i64 1] (0, 0) _ rfl bx_get Tryd.underlying23 rfl kr) rfl ?_
       exact ⟨er2, bx_bl⟩
      ·rw [if_neg c20] at H
       have c20b0 : ((wrap64 ((wrap64 (Int.tdiv a0 (wrap64 (t353)))) * (wrap64 (Int.tdiv a2 (wrap64 (t355)))))) == 0) = false := beq_eq_false_iff_ne.mpr c20
       have c20b1 : ((wrap64 ((wrap64 (Int.tdiv a0 (wrap64 (t353)))) * (wrap64 (Int.tdiv a2 (wrap64 (t355)))))) != 0) = true := bne_iff_ne.mpr c20
       simp only [Option.some.injEq, Prod.mk.injEq] at H
       obtain ⟨rfl, rfl, rfl⟩ := H
       go_wp2
       repeat (go_quiet (fail); try go_wp2)
       refine bodyPost_ret (results_ct rfl _ _ gb351 23 #[.int .i64 (wrap64 ((wrap64 (Int.tdiv a0 (wrap64 (t353)))) * (wrap64 (Int.tdiv a2 (wrap64 (t355)))))), .int .i64 (wrap64 ((wrap64 (Int.tdiv a1 (wrap64 (t355)))) * (wrap64 (Int.tdiv a3 (wrap64 (t353))))))] (0, 0) _ rfl bx_get Tryd.underlying23 rfl kr) rfl ?_
       exact ⟨er2, bx_bl⟩
end
section
/-! ### num_Mul: function 47 -/
def num_Mul.f (k : Nat) (a0_0 : Int) (a0_1 : Int) (a1_0 : Int) (a1_1 : Int) : Option (Int × Int × Bool) := (num_taken.f k a0_0 a0_1).bind fun bt361 => ((num_taken.f k a1_0 a1_1).bind fun bt363 => ((num_product.f k bt361.1 bt361.2 bt363.1 bt363.2).bind fun bt365 => (some (bt365.1, bt365.2.1, bt365.2.2))))
theorem num_Mul.mono : ∀ a0 a1 a2 a3 k, LeO (num_Mul.f k a0 a1 a2 a3) (num_Mul.f (k + 1) a0 a1 a2 a3) := by
 intro a0 a1 a2 a3 k
 unfold num_Mul.f
 repeat' first
   | (with_reducible exact num_product.mono _ _ _ _ _)
   | (with_reducible exact num_taken.mono _ _ _)
   | (with_reducible exact LeO.refl _)
   | (with_reducible exact LeO.none _)
   | (with_reducible refine LeO.ite ?_ ?_)
   | (with_reducible refine LeO.bind ?_ (fun _ => ?_))
   | exact num_product.mono _ _ _ _ _
   | exact num_taken.mono _ _ _
   | exact LeO.none _
   | refine LeO.ite ?_ ?_
   | refine LeO.bind ?_ (fun _ => ?_)
set_option maxHeartbeats 8000000 in
set_option maxRecDepth 100000 in
theorem num_Mul.calls (k : Nat) (a0_0 : Int) (a0_1 : Int) (a1_0 : Int) (a1_1 : Int) (r1 : Int) (r2 : Int) (r3 : Bool) (w : World) (h : num_Mul.f k a0_0 a0_1 a1_0 a1_1 = some (r1, r2, r3)) :
  Calls Tryd.prog 47 #[.agg #[.int .i64 a0_0, .int .i64 a0_1], .agg #[.int .i64 a1_0, .int .i64 a1_1]] w fun e w' => e = .returned (.tuple #[.agg #[.int .i64 r1, .int .i64 r2], .bool r3]) ∧ Below w.heap.size w w' := by
 have hu23 := Tryd.underlying23
 have BX := Bx.start w
 have H : ((num_taken.f k a0_0 a0_1).bind fun bt361 => ((num_taken.f k a1_0 a1_1).bind fun bt363 => ((num_product.f k bt361.1 bt361.2 bt363.1 bt363.2).bind fun bt365 => (some (bt365.1, bt365.2.1, bt365.2.2))))) = some (r1, r2, r3) := h
 clear h
 replace H := Option.bind_eq_some_iff.mp H
 obtain ⟨⟨t361, t362⟩, A30, H⟩ := H
 have A3 := Aside0.mk A30
 clear A30
 replace H := Option.bind_eq_some_iff.mp H
 obtain ⟨⟨t363, t364⟩, A40, H⟩ := H
 have A4 := Aside0.mk A40
 clear A40
 replace H := Option.bind_eq_some_iff.mp H
 obtain ⟨⟨t365, t366, t367⟩, A50, H⟩ := H
 replace H : (some (t365, t366, t367)) = some (r1, r2, r3) := H
 have A5 := Aside0.mk A50
 clear A50
 simp only [Option.some.injEq, Prod.mk.injEq] at H
 obtain ⟨rfl, rfl, rfl⟩ := H
 go_enter Tryd.func47, Tryd.ntmps47
 try go_wp2_with (first | ((with_reducible refine gate_dst (N := 2) rfl ?_); refine bxe 2 #[.int .i64 a0_0, .int .i64 a0_1] 23 rfl rfl gr ?_; clear BX; intro gb358 w6 GE358 BX) | ((with_reducible refine gate_dst (N := 3) rfl ?_); refine bxe 3 #[.int .i64 a1_0, .int .i64 a1_1] 23 rfl rfl gr ?_; clear BX; intro gb359 w7 GE359 BX) | ((with_reducible refine gate_dst (N := 4) rfl ?_); refine bxe 4 #[.int .i64 0, .int .i64 0] 23 rfl rfl gr ?_; clear BX; intro gb360 w8 GE360 BX))
 refine startm [false, true, true] (n := 6) (ds := [4, 5]) #[false, false, false, false, false, false] kr rfl rfl (fun BX1 => ?_)
 clear BX
 have BX := BX1
 clear BX1
 generalize w8.drew = w9 at BX ⊢
 refine take_ (i := 0) (N := some 6) (v := ?_) (a' := ?_) #[true, false, false, false, false, false] rfl rfl kr (fun _ _ _ h => h) (Or.inl ⟨by rfl, ?_⟩) bxs ?_ ?_
 rotate_left
 ·intro w' hS
  go_simp
  with_reducible rfl
 rotate_left
 ·simp only [Act.put, List.setIfInBounds_toArray, List.set_cons_zero, List.set_cons_succ, i64_w, i32_w]
  rfl
 refine take_ (i := 2) (N := some 8) (v := ?_) (a' := ?_) #[true, false, true, false, false, false] rfl rfl kr (fun _ _ _ h => h) (Or.inl ⟨by rfl, ?_⟩) bxs ?_ ?_
 rotate_left
 ·intro w' hS
  go_simp
  with_reducible rfl
 rotate_left
 ·simp only [Act.put, List.setIfInBounds_toArray, List.set_cons_zero, List.set_cons_succ, i64_w, i32_w]
  rfl
 refine one_ (i := 1) (N := some 7) #[true, true, true, false, false, false] rfl rfl kr (by decide) (fun K hK => ?_)
 refine goes_ Tryd.func79 kr rfl #[.agg #[.int .i64 a0_0, .int .i64 a0_1]] (by rfl) rfl rfl ga ?_
 with_reducible refine (num_taken.calls k a0_0 a0_1 t361 t362 _ A3.out).mono ?_
 rintro e w10 ⟨rfl, hb⟩
 refine ⟨_, rfl, ?_⟩
 replace BX := bx_call hb
 clear hb
 refine hK.out _ _ bxs (fun hHeld => ?_)
 clear hK K hHeld
 refine norm_ (a' := ?_) ?_ ?_
 rotate_left
 ·show Act.put _ (some 7) _ = _
  simp only [Act.put, List.setIfInBounds_toArray, List.set_cons_zero, List.set_cons_succ, i64_w, i32_w]
  rfl
 refine one_ (i := 3) (N := some 9) #[true, true, true, true, false, false] rfl rfl kr (by decide) (fun K hK => ?_)
 refine goes_ Tryd.func79 kr rfl #[.agg #[.int .i64 a1_0, .int .i64 a1_1]] (by rfl) rfl rfl ga ?_
 with_reducible refine (num_taken.calls k a1_0 a1_1 t363 t364 _ A4.out).mono ?_
 rintro e w11 ⟨rfl, hb⟩
 refine ⟨_, rfl, ?_⟩
 replace BX := bx_call hb
 clear hb
 refine hK.out _ _ bxs (fun hHeld => ?_)
 clear hK K hHeld
 refine norm_ (a' := ?_) ?_ ?_
 rotate_left
 ·show Act.put _ (some 9) _ = _
  simp only [Act.put, List.setIfInBounds_toArray, List.set_cons_zero, List.set_cons_succ, i64_w, i32_w]
  rfl
 refine last_ (i := 4) (N := none) #[true, true, true, true, true, false] rfl rfl kr (by decide) (fun K hK => ?_)
 refine skip_ (w1 := ?_) (by rfl) rfl ?_ ?_
 rotate_left
 ·go_simp
  rfl
 refine hK.out _ _ (name_any fun wq BXq => ?_)
 clear hK K BX
 have BX := BXq
 clear BXq
 refine last_ (i := 5) (N := none) #[true, true, true, true, true, true] rfl rfl kr (by decide) (fun K hK => ?_)
 refine skip_ (w1 := ?_) (by rfl) rfl ?_ ?_
 rotate_left
 ·go_simp
  rfl
 refine hK.out _ _ (name_any fun wq BXq => ?_)
 clear hK K BX
 have BX := BXq
 clear BXq
 refine done_ kr ?_
 try go_wp2_with (first | ((with_reducible refine gate_callee (f := 81) rfl ?_); refine goesL_ (some 18) rfl rfl Tryd.func81 kr rfl #[.int .i64 t361, .int .i64 t362, .int .i64 t363, .int .i64 t364] rfl ga ?_; (with_reducible refine (num_product.calls k t361 t362 t363 t364 t365 t366 t367 _ A5.out).mono ?_); rintro e w21 ⟨rfl, hb⟩; refine ⟨_, rfl, ?_⟩; replace BX := bx_call hb; clear hb))
 refine bodyPost_ret (results_ct rfl _ _ gb360 23 #[.int .i64 t365, .int .i64 t366] (0, 0) _ rfl bx_get Tryd.underlying23 rfl kr) rfl ?_
 exact ⟨er2, bx_bl⟩
end
section
/-! ### num_Div: function 75 -/
def num_Div.f (k : Nat) (a0_0 : Int) (a0_1 : Int) (a1_0 : Int) (a1_1 : Int) : Option (Int × Int × Bool) := (num_taken.f k a0_0 a0_1).bind fun bt385 => ((num_taken.f k a1_0 a1_1).bind fun bt387 => (if bt387.1 = 0 then (some (0, 0, false)) else (if bt387.1 < 0 then ((num_product.f k bt385.1 bt385.2 (wrap64 (-bt387.2)) (wrap64 (-bt387.1))).bind fun bt389 => (some (bt389.1, bt389.2.1, bt389.2.2))) else ((num_product.f k bt385.1 bt385.2 bt387.2 bt387.1).bind fun bt392 => (some (bt392.1, bt392.2.1, bt392.2.2))))))
theorem num_Div.mono : ∀ a0 a1 a2 a3 k, LeO (num_Div.f k a0 a1 a2 a3) (num_Div.f (k + 1) a0 a1 a2 a3) := by
 intro a0 a1 a2 a3 k
 unfold num_Div.f
 repeat' first
   | (with_reducible exact num_product.mono _ _ _ _ _)
   | (with_reducible exact num_taken.mono _ _ _)
   | (with_reducible exact LeO.refl _)
   | (with_reducible exact LeO.none _)
   | (with_reducible refine LeO.ite ?_ ?_)
   | (with_reducible refine LeO.bind ?_ (fun _ => ?_))
   | exact num_product.mono _ _ _ _ _
   | exact num_taken.mono _ _ _
   | exact LeO.none _
   | refine LeO.ite ?_ ?_
   | refine LeO.bind ?_ (fun _ => ?_)
set_option maxHeartbeats 8000000 in
set_option maxRecDepth 100000 in
theorem num_Div.calls (k : Nat) (a0_0 : Int) (a0_1 : Int) (a1_0 : Int) (a1_1 : Int) (r1 : Int) (r2 : Int) (r3 : Bool) (w : World) (h : num_Div.f k a0_0 a0_1 a1_0 a1_1 = some (r1, r2, r3)) :
  Calls Tryd.prog 75 #[.agg #[.int .i64 a0_0, .int .i64 a0_1], .agg #[.int .i64 a1_0, .int .i64 a1_1]] w fun e w' => e = .returned (.tuple #[.agg #[.int .i64 r1, .int .i64 r2], .bool r3]) ∧ Below w.heap.size w w' := by
 have hu23 := Tryd.underlying23
 have BX := Bx.start w
 have H : ((num_taken.f k a0_0 a0_1).bind fun bt385 => ((num_taken.f k a1_0 a1_1).bind fun bt387 => (if bt387.1 = 0 then (some (0, 0, false)) else (if bt387.1 < 0 then ((num_product.f k bt385.1 bt385.2 (wrap64 (-bt387.2)) (wrap64 (-bt387.1))).bind fun bt389 => (some (bt389.1, bt389.2.1, bt389.2.2))) else ((num_product.f k bt385.1 bt385.2 bt387.2 bt387.1).bind fun bt392 => (some (bt392.1, bt392.2.1, bt392.2.2))))))) = some (r1, r2, r3) := h
 clear h
 replace H := Option.bind_eq_some_iff.mp H
 obtain ⟨⟨t385, t386⟩, A30, H⟩ := H
 have A3 := Aside0.mk A30
 clear A30
 replace H := Option.bind_eq_some_iff.mp H
 obtain ⟨⟨t387, t388⟩, A40, H⟩ := H
 replace H : (if t387 = 0 then (some (0, 0, false)) else (if t387 < 0 then ((num_product.f k t385 t386 (wrap64 (-t388)) (wrap64 (-t387))).bind fun bt389 => (some (bt389.1, bt389.2.1, bt389.2.2))) else ((num_product.f k t385 t386 t388 t387).bind fun bt392 => (some (bt392.1, bt392.2.1, bt392.2.2))))) = some (r1, r2, r3) := H
 have A4 := Aside0.mk A40
 clear A40
 by_cases c5 : t387 = 0
 ·rw [if_pos c5] at H
  have c5b0 : (t387 == 0) = true := beq_iff_eq.mpr c5
  have c5b1 : (t387 != 0) = false := bne_eq_false_iff_eq.mpr c5
  clear c5
  simp only [Option.some.injEq, Prod.mk.injEq] at H
  obtain ⟨rfl, rfl, rfl⟩ := H
  go_enter Tryd.func75, Tryd.ntmps75
  try go_wp2_with (first | ((with_reducible refine gate_dst (N := 2) rfl ?_); refine bxe 2 #[.int .i64 a0_0, .int .i64 a0_1] 23 rfl rfl gr ?_; clear BX; intro gb382 w6 GE382 BX) | ((with_reducible refine gate_dst (N := 3) rfl ?_); refine bxe 3 #[.int .i64 a1_0, .int .i64 a1_1] 23 rfl rfl gr ?_; clear BX; intro gb383 w7 GE383 BX) | ((with_reducible refine gate_dst (N := 4) rfl ?_); refine bxe 4 #[.int .i64 0, .int .i64 0] 23 rfl rfl gr ?_; clear BX; intro gb384 w8 GE384 BX))
  refine startm [false, true, true] (n := 6) (ds := [4, 5]) #[false, false, false, false, false, false] kr rfl rfl (fun BX1 => ?_)
  clear BX
  have BX := BX1
  clear BX1
  generalize w8.drew = w9 at BX ⊢
  refine take_ (i := 0) (N := some 6) (v := ?_) (a' := ?_) #[true, false, false, false, false, false] rfl rfl kr (fun _ _ _ h => h) (Or.inl ⟨by rfl, ?_⟩) bxs ?_ ?_
  rotate_left
  ·intro w' hS
   go_simp
   with_reducible rfl
  rotate_left
  ·simp only [Act.put, List.setIfInBounds_toArray, List.set_cons_zero, List.set_cons_succ, i64_w, i32_w]
   rfl
  refine take_ (i := 2) (N := some 8) (v := ?_) (a' := ?_) #[true, false, true, false, false, false] rfl rfl kr (fun _ _ _ h => h) (Or.inl ⟨by rfl, ?_⟩) bxs ?_ ?_
  rotate_left
  ·intro w' hS
   go_simp
   with_reducible rfl
  rotate_left
  ·simp only [Act.put, List.setIfInBounds_toArray, List.set_cons_zero, List.set_cons_succ, i64_w, i32_w]
   rfl
  refine one_ (i := 1) (N := some 7) #[true, true, true, false, false, false] rfl rfl kr (by decide) (fun K hK => ?_)
  refine goes_ Tryd.func79 kr rfl #[.agg #[.int .i64 a0_0, .int .i64 a0_1]] (by rfl) rfl rfl ga ?_
  with_reducible refine (num_taken.calls k a0_0 a0_1 t385 t386 _ A3.out).mono ?_
  rintro e w10 ⟨rfl, hb⟩
  refine ⟨_, rfl, ?_⟩
  replace BX := bx_call hb
  clear hb
  refine hK.out _ _ bxs (fun hHeld => ?_)
  clear hK K hHeld
  refine norm_ (a' := ?_) ?_ ?_
  rotate_left
  ·show Act.put _ (some 7) _ = _
   simp only [Act.put, List.setIfInBounds_toArray, List.set_cons_zero, List.set_cons_succ, i64_w, i32_w]
   rfl
  refine one_ (i := 3) (N := some 9) #[true, true, true, true, false, false] rfl rfl kr (by decide) (fun K hK => ?_)
  refine goes_ Tryd.func79 kr rfl #[.agg #[.int .i64 a1_0, .int .i64 a1_1]] (by rfl) rfl rfl ga ?_
  with_reducible refine (num_taken.calls k a1_0 a1_1 t387 t388 _ A4.out).mono ?_
  rintro e w11 ⟨rfl, hb⟩
  refine ⟨_, rfl, ?_⟩
  replace BX := bx_call hb
  clear hb
  refine hK.out _ _ bxs (fun hHeld => ?_)
  clear hK K hHeld
  refine norm_ (a' := ?_) ?_ ?_
  rotate_left
  ·show Act.put _ (some 9) _ = _
   simp only [Act.put, List.setIfInBounds_toArray, List.set_cons_zero, List.set_cons_succ, i64_w, i32_w]
   rfl
  refine last_ (i := 4) (N := none) #[true, true, true, true, true, false] rfl rfl kr (by decide) (fun K hK => ?_)
  refine skip_ (w1 := ?_) (by rfl) rfl ?_ ?_
  rotate_left
  ·go_simp
   rfl
  refine hK.out _ _ (name_any fun wq BXq => ?_)
  clear hK K BX
  have BX := BXq
  clear BXq
  refine last_ (i := 5) (N := none) #[true, true, true, true, true, true] rfl rfl kr (by decide) (fun K hK => ?_)
  refine skip_ (w1 := ?_) (by rfl) rfl ?_ ?_
  rotate_left
  ·go_simp
   rfl
  refine hK.out _ _ (name_any fun wq BXq => ?_)
  clear hK K BX
  have BX := BXq
  clear BXq
  refine done_ kr ?_
  try go_wp2
  refine bodyPost_ret (results_ct rfl _ _ gb384 23 #[.int .i64 0, .int .i64 0] (0, 0) _ rfl bx_get Tryd.underlying23 rfl kr) rfl ?_
  exact ⟨er2, bx_bl⟩
 ·rw [if_neg c5] at H
  have c5b0 : (t387 == 0) = false := beq_eq_false_iff_ne.mpr c5
  have c5b1 : (t387 != 0) = true := bne_iff_ne.mpr c5
  by_cases c21 : t387 < 0
  ·rw [if_pos c21] at H
   have c21b0 : decide (t387 < 0) = true := decide_eq_true c21
   clear c21
   replace H := Option.bind_eq_some_iff.mp H
   obtain ⟨⟨t389, t390, t391⟩, A220, H⟩ := H
   replace H : (some (t389, t390, t391)) = some (r1, r2, r3) := H
   have A22 := Aside0.mk A220
   clear A220
   simp only [Option.some.injEq, Prod.mk.injEq] at H
   obtain ⟨rfl, rfl, rfl⟩ := H
   go_enter Tryd.func75, Tryd.ntmps75
   try go_wp2_with (first | ((with_reducible refine gate_dst (N := 2) rfl ?_); refine bxe 2 #[.int .i64 a0_0, .int .i64 a0_1] 23 rfl rfl gr ?_; clear BX; intro gb382 w23 GE382 BX) | ((with_reducible refine gate_dst (N := 3) rfl ?_); refine bxe 3 #[.int .i64 a1_0, .int .i64 a1_1] 23 rfl rfl gr ?_; clear BX; intro gb383 w24 GE383 BX) | ((with_reducible refine gate_dst (N := 4) rfl ?_); refine bxe 4 #[.int .i64 0, .int .i64 0] 23 rfl rfl gr ?_; clear BX; intro gb384 w25 GE384 BX))
   refine startm [false, true, true] (n := 6) (ds := [4, 5]) #[false, false, false, false, false, false] kr rfl rfl (fun BX1 => ?_)
   clear BX
   have BX := BX1
   clear BX1
   generalize w25.drew = w26 at BX ⊢
   refine take_ (i := 0) (N := some 6) (v := ?_) (a' := ?_) #[true, false, false, false, false, false] rfl rfl kr (fun _ _ _ h => h) (Or.inl ⟨by rfl, ?_⟩) bxs ?_ ?_
   rotate_left
   ·intro w' hS
    go_simp
    with_reducible rfl
   rotate_left
   ·simp only [Act.put, List.setIfInBounds_toArray, List.set_cons_zero, List.set_cons_succ, i64_w, i32_w]
    rfl
   refine take_ (i := 2) (N := some 8) (v := ?_) (a' := ?_) #[true, false, true, false, false, false] rfl rfl kr (fun _ _ _ h => h) (Or.inl ⟨by rfl, ?_⟩) bxs ?_ ?_
   rotate_left
   ·intro w' hS
    go_simp
    with_reducible rfl
   rotate_left
   ·simp only [Act.put, List.setIfInBounds_toArray, List.set_cons_zero, List.set_cons_succ, i64_w, i32_w]
    rfl
   refine one_ (i := 1) (N := some 7) #[true, true, true, false, false, false] rfl rfl kr (by decide) (fun K hK => ?_)
   refine goes_ Tryd.func79 kr rfl #[.agg #[.int .i64 a0_0, .int .i64 a0_1]] (by rfl) rfl rfl ga ?_
   with_reducible refine (num_taken.calls k a0_0 a0_1 t385 t386 _ A3.out).mono ?_
   rintro e w27 ⟨rfl, hb⟩
   refine ⟨_, rfl, ?_⟩
   replace BX := bx_call hb
   clear hb
   refine hK.out _ _ bxs (fun hHeld => ?_)
   clear hK K hHeld
   refine norm_ (a' := ?_) ?_ ?_
   rotate_left
   ·show Act.put _ (some 7) _ = _
    simp only [Act.put, List.setIfInBounds_toArray, List.set_cons_zero, List.set_cons_succ, i64_w, i32_w]
    rfl
   refine one_ (i := 3) (N := some 9) #[true, true, true, true, false, false] rfl rfl kr (by decide) (fun K hK => ?_)
   refine goes_ Tryd.func79 kr rfl #[.agg #[.int .i64 a1_0, .int .i64 a1_1]] (by rfl) rfl rfl ga ?_
   with_reducible refine (num_taken.calls k a1_0 a1_1 t387 t388 _ A4.out).mono ?_
   rintro e w28 ⟨rfl, hb⟩
   refine ⟨_, rfl, ?_⟩
   replace BX := bx_call hb
   clear hb
   refine hK.out _ _ bxs (fun hHeld => ?_)
   clear hK K hHeld
   refine norm_ (a' := ?_) ?_ ?_
   rotate_left
   ·show Act.put _ (some 9) _ = _
    simp only [Act.put, List.setIfInBounds_toArray, List.set_cons_zero, List.set_cons_succ, i64_w, i32_w]
    rfl
   refine last_ (i := 4) (N := none) #[true, true, true, true, true, false] rfl rfl kr (by decide) (fun K hK => ?_)
   refine skip_ (w1 := ?_) (by rfl) rfl ?_ ?_
   rotate_left
   ·go_simp
    rfl
   refine hK.out _ _ (name_any fun wq BXq => ?_)
   clear hK K BX
   have BX := BXq
   clear BXq
   refine last_ (i := 5) (N := none) #[true, true, true, true, true, true] rfl rfl kr (by decide) (fun K hK => ?_)
   refine skip_ (w1 := ?_) (by rfl) rfl ?_ ?_
   rotate_left
   ·go_simp
    rfl
   refine hK.out _ _ (name_any fun wq BXq => ?_)
   clear hK K BX
   have BX := BXq
   clear BXq
   refine done_ kr ?_
   try go_wp2_with (first | ((with_reducible refine gate_callee (f := 81) rfl ?_); refine goesL_ (some 29) rfl rfl Tryd.func81 kr rfl #[.int .i64 t385, .int .i64 t386, .int .i64 (wrap64 (-t388)), .int .i64 (wrap64 (-t387))] rfl ga ?_; (with_reducible refine (num_product.calls k t385 t386 (wrap64 (-t388)) (wrap64 (-t387)) t389 t390 t391 _ A22.out).mono ?_); rintro e w38 ⟨rfl, hb⟩; refine ⟨_, rfl, ?_⟩; replace BX := bx_call hb; clear hb))
   refine bodyPost_ret (results_ct rfl _ _ gb384 23 #[.int .i64 t389, .int .i64 t390] (0, 0) _ rfl bx_get Tryd.underlying23 rfl kr) rfl ?_
   exact ⟨er2, bx_bl⟩
  ·rw [if_neg c21] at H
   have c21b0 : decide (t387 < 0) = false := decide_eq_false c21
   clear c21
   replace H := Option.bind_eq_some_iff.mp H
   obtain ⟨⟨t392, t393, t394⟩, A400, H⟩ := H
   replace H : (some (t392, t393, t394)) = some (r1, r2, r3) := H
   have A40 := Aside0.mk A400
   clear A400
   simp only [Option.some.injEq, Prod.mk.injEq] at H
   obtain ⟨rfl, rfl, rfl⟩ := H
   go_enter Tryd.func75, Tryd.ntmps75
   try go_wp2_with (first | ((with_reducible refine gate_dst (N := 2) rfl ?_); refine bxe 2 #[.int .i64 a0_0, .int .i64 a0_1] 23 rfl rfl gr ?_; clear BX; intro gb382 w41 GE382 BX) | ((with_reducible refine gate_dst (N := 3) rfl ?_); refine bxe 3 #[.int .i64 a1_0, .int .i64 a1_1] 23 rfl rfl gr ?_; clear BX; intro gb383 w42 GE383 BX) | ((with_reducible refine gate_dst (N := 4) rfl ?_); refine bxe 4 #[.int .i64 0, .int .i64 0] 23 rfl rfl gr ?_; clear BX; intro gb384 w43 GE384 BX))
   refine startm [false, true, true] (n := 6) (ds := [4, 5]) #[false, false, false, false, false, false] kr rfl rfl (fun BX1 => ?_)
   clear BX
   have BX := BX1
   clear BX1
   generalize w43.drew = w44 at BX ⊢
   refine take_ (i := 0) (N := some 6) (v := ?_) (a' := ?_) #[true, false, false, false, false, false] rfl rfl kr (fun _ _ _ h => h) (Or.inl ⟨by rfl, ?_⟩) bxs ?_ ?_
   rotate_left
   ·intro w' hS
    go_simp
    with_reducible rfl
   rotate_left
   ·simp only [Act.put, List.setIfInBounds_toArray, List.set_cons_zero, List.set_cons_succ, i64_w, i32_w]
    rfl
   refine take_ (i := 2) (N := some 8) (v := ?_) (a' := ?_) #[true, false, true, false, false, false] rfl rfl kr (fun _ _ _ h => h) (Or.inl ⟨by rfl, ?_⟩) bxs ?_ ?_
   rotate_left
   ·intro w' hS
    go_simp
    with_reducible rfl
   rotate_left
   ·simp only [Act.put, List.setIfInBounds_toArray, List.set_cons_zero, List.set_cons_succ, i64_w, i32_w]
    rfl
   refine one_ (i := 1) (N := some 7) #[true, true, true, false, false, false] rfl rfl kr (by decide) (fun K hK => ?_)
   refine goes_ Tryd.func79 kr rfl #[.agg #[.int .i64 a0_0, .int .i64 a0_1]] (by rfl) rfl rfl ga ?_
   with_reducible refine (num_taken.calls k a0_0 a0_1 t385 t386 _ A3.out).mono ?_
   rintro e w45 ⟨rfl, hb⟩
   refine ⟨_, rfl, ?_⟩
   replace BX := bx_call hb
   clear hb
   refine hK.out _ _ bxs (fun hHeld => ?_)
   clear hK K hHeld
   refine norm_ (a' := ?_) ?_ ?_
   rotate_left
   ·show Act.put _ (some 7) _ = _
    simp only [Act.put, List.setIfInBounds_toArray, List.set_cons_zero, List.set_cons_succ, i64_w, i32_w]
    rfl
   refine one_ (i := 3) (N := some 9) #[true, true, true, true, false, false] rfl rfl kr (by decide) (fun K hK => ?_)
   refine goes_ Tryd.func79 kr rfl #[.agg #[.int .i64 a1_0, .int .i64 a1_1]] (by rfl) rfl rfl ga ?_
   with_reducible refine (num_taken.calls k a1_0 a1_1 t387 t388 _ A4.out).mono ?_
   rintro e w46 ⟨rfl, hb⟩
   refine ⟨_, rfl, ?_⟩
   replace BX := bx_call hb
   clear hb
   refine hK.out _ _ bxs (fun hHeld => ?_)
   clear hK K hHeld
   refine norm_ (a' := ?_) ?_ ?_
   rotate_left
   ·show Act.put _ (some 9) _ = _
    simp only [Act.put, List.setIfInBounds_toArray, List.set_cons_zero, List.set_cons_succ, i64_w, i32_w]
    rfl
   refine last_ (i := 4) (N := none) #[true, true, true, true, true, false] rfl rfl kr (by decide) (fun K hK => ?_)
   refine skip_ (w1 := ?_) (by rfl) rfl ?_ ?_
   rotate_left
   ·go_simp
    rfl
   refine hK.out _ _ (name_any fun wq BXq => ?_)
   clear hK K BX
   have BX := BXq
   clear BXq
   refine last_ (i := 5) (N := none) #[true, true, true, true, true, true] rfl rfl kr (by decide) (fun K hK => ?_)
   refine skip_ (w1 := ?_) (by rfl) rfl ?_ ?_
   rotate_left
   ·go_simp
    rfl
   refine hK.out _ _ (name_any fun wq BXq => ?_)
   clear hK K BX
   have BX := BXq
   clear BXq
   refine done_ kr ?_
   try go_wp2_with (first | ((with_reducible refine gate_callee (f := 81) rfl ?_); refine goesL_ (some 40) rfl rfl Tryd.func81 kr rfl #[.int .i64 t385, .int .i64 t386, .int .i64 t388, .int .i64 t387] rfl ga ?_; (with_reducible refine (num_product.calls k t385 t386 t388 t387 t392 t393 t394 _ A40.out).mono ?_); rintro e w56 ⟨rfl, hb⟩; refine ⟨_, rfl, ?_⟩; replace BX := bx_call hb; clear hb))
   refine bodyPost_ret (results_ct rfl _ _ gb384 23 #[.int .i64 t392, .int .i64 t393] (0, 0) _ rfl bx_get Tryd.underlying23 rfl kr) rfl ?_
   exact ⟨er2, bx_bl⟩
end
section
/-! ### num_Whole: function 93 -/
def num_Whole.f (k : Nat) (a0_0 : Int) (a0_1 : Int) : Option (Int × Bool) := (num_taken.f k a0_0 a0_1).bind fun bt396 => (if bt396.2 = 1 then (some (bt396.1, true)) else (some (0, false)))
theorem num_Whole.mono : ∀ a0 a1 k, LeO (num_Whole.f k a0 a1) (num_Whole.f (k + 1) a0 a1) := by
 intro a0 a1 k
 unfold num_Whole.f
 repeat' first
   | (with_reducible exact num_taken.mono _ _ _)
   | (with_reducible exact LeO.refl _)
   | (with_reducible exact LeO.none _)
   | (with_reducible refine LeO.ite ?_ ?_)
   | (with_reducible refine LeO.bind ?_ (fun _ => ?_))
   | exact num_taken.mono _ _ _
   | exact LeO.none _
   | refine LeO.ite ?_ ?_
   | refine LeO.bind ?_ (fun _ => ?_)
set_option maxHeartbeats 8000000 in
set_option maxRecDepth 100000 in
theorem num_Whole.calls (k : Nat) (a0_0 : Int) (a0_1 : Int) (r1 : Int) (r2 : Bool) (w : World) (h : num_Whole.f k a0_0 a0_1 = some (r1, r2)) :
  Calls Tryd.prog 93 #[.agg #[.int .i64 a0_0, .int .i64 a0_1]] w fun e w' => e = .returned (.tuple #[.int .i64 r1, .bool r2]) ∧ Below w.heap.size w w' := by
 have hu23 := Tryd.underlying23
 have BX := Bx.start w
 have H : ((num_taken.f k a0_0 a0_1).bind fun bt396 => (if bt396.2 = 1 then (some (bt396.1, true)) else (some (0, false)))) = some (r1, r2) := h
 clear h
 replace H := Option.bind_eq_some_iff.mp H
 obtain ⟨⟨t396, t397⟩, A20, H⟩ := H
 replace H : (if t397 = 1 then (some (t396, true)) else (some (0, false))) = some (r1, r2) := H
 have A2 := Aside0.mk A20
 clear A20
 by_cases c3 : t397 = 1
 ·rw [if_pos c3] at H
  have c3b0 : (t397 == 1) = true := beq_iff_eq.mpr c3
  have c3b1 : (t397 != 1) = false := bne_eq_false_iff_eq.mpr c3
  clear c3
  simp only [Option.some.injEq, Prod.mk.injEq] at H
  obtain ⟨rfl, rfl⟩ := H
  go_enter Tryd.func93, Tryd.ntmps93
  go_wp2_with (first | ((with_reducible refine gate_dst (N := 1) rfl ?_); refine bxe 1 #[.int .i64 a0_0, .int .i64 a0_1] 23 rfl rfl gr ?_; clear BX; intro gb395 w4 GE395 BX) | ((with_reducible refine gate_callee (f := 79) rfl ?_); refine goesL_ (some 5) rfl rfl Tryd.func79 kr rfl #[.agg #[.int .i64 a0_0, .int .i64 a0_1]] rfl ga ?_; (with_reducible refine (num_taken.calls k a0_0 a0_1 t396 t397 _ A2.out).mono ?_); rintro e w6 ⟨rfl, hb⟩; refine ⟨_, rfl, ?_⟩; replace BX := bx_call hb; clear hb))
  go_ret2
  exact ⟨er2, bx_bl⟩
 ·rw [if_neg c3] at H
  have c3b0 : (t397 == 1) = false := beq_eq_false_iff_ne.mpr c3
  have c3b1 : (t397 != 1) = true := bne_iff_ne.mpr c3
  simp only [Option.some.injEq, Prod.mk.injEq] at H
  obtain ⟨rfl, rfl⟩ := H
  go_enter Tryd.func93, Tryd.ntmps93
  go_wp2_with (first | ((with_reducible refine gate_dst (N := 1) rfl ?_); refine bxe 1 #[.int .i64 a0_0, .int .i64 a0_1] 23 rfl rfl gr ?_; clear BX; intro gb395 w8 GE395 BX) | ((with_reducible refine gate_callee (f := 79) rfl ?_); refine goesL_ (some 5) rfl rfl Tryd.func79 kr rfl #[.agg #[.int .i64 a0_0, .int .i64 a0_1]] rfl ga ?_; (with_reducible refine (num_taken.calls k a0_0 a0_1 t396 t397 _ A2.out).mono ?_); rintro e w10 ⟨rfl, hb⟩; refine ⟨_, rfl, ?_⟩; replace BX := bx_call hb; clear hb))
  go_ret2
  exact ⟨er2, bx_bl⟩
end
section
/-! ### num_Pow: function 94 -/
mutual
def num_Pow.j0 : Nat → Int → Bool → Bool → Int → Int → Option (Int × Int × Bool)
 | 0, _, _, _, _, _ => none
 | k + 1, x1, x6, x19, x399000, x399001 => if x19 = true then (some (1, 1, true)) else (if x399000 = 0 then (num_Pow.j1 k x1 x6 (decide (x1 < 0)) x399000 x399001) else (num_Pow.j1 k x1 x6 false x399000 x399001))
def num_Pow.j1 : Nat → Int → Bool → Bool → Int → Int → Option (Int × Int × Bool)
 | 0, _, _, _, _, _ => none
 | k + 1, x1, x6, x33, x399000, x399001 => if x33 = true then (some (0, 0, false)) else (if x399000 = 0 then (some (x399000, x399001, true)) else ((num_size.f x399000).bind fun t402 => ((num_size.f x1).bind fun t403 => (if x1 < 0 then (num_Pow.j2 k x6 (IntKind.u64.wrap (x399001)) t402 t403 x399000 x399001) else (num_Pow.j2 k x6 t402 (IntKind.u64.wrap (x399001)) t403 x399000 x399001)))))
def num_Pow.j2 : Nat → Bool → Int → Int → Int → Int → Int → Option (Int × Int × Bool)
 | 0, _, _, _, _, _, _ => none
 | k + 1, x6, x7, x8, x9, x399000, x399001 => num_Pow.l0 k x6 x7 x8 x9 1 1 0 x399000 x399001
def num_Pow.l0 : Nat → Bool → Int → Int → Int → Int → Int → Int → Int → Int → Option (Int × Int × Bool)
 | 0, _, _, _, _, _, _, _, _, _ => none
 | k + 1, x6, x7, x8, x9, x10, x11, x12, x399000, x399001 => if x12 < x9 then (num_Pow.j4 k x6 x7 x8 x9 x10 x11 x12 (decide ((IntKind.u64.wrap (x7 * x8)) > 1)) x399000 x399001) else (num_Pow.j4 k x6 x7 x8 x9 x10 x11 x12 false x399000 x399001)
def num_Pow.j4 : Nat → Bool → Int → Int → Int → Int → Int → Int → Bool → Int → Int → Option (Int × Int × Bool)
 | 0, _, _, _, _, _, _, _, _, _, _ => none
 | k + 1, x6, x7, x8, x9, x10, x11, x12, x67, x399000, x399001 => if x67 = true then (if x7 = 0 then (none) else (if x10 > (IntKind.u64.wrap (Int.tdiv (1000000000000 : Int) x7)) then (some (0, 0, false)) else (if x8 = 0 then (none) else (if x11 > (IntKind.u64.wrap (Int.tdiv (1000000 : Int) x8)) then (some (0, 0, false)) else (num_Pow.l0 k x6 x7 x8 x9 (IntKind.u64.wrap (x10 * x7)) (IntKind.u64.wrap (x11 * x8)) (IntKind.u64.wrap (x12 + 1)) x399000 x399001))))) else (if x399000 < 0 then (if x6 = true then (some (wrap64 (-(wrap64 (x10))), wrap64 (x11), true)) else (some (wrap64 (x10), wrap64 (x11), true))) else (some (wrap64 (x10), wrap64 (x11), true)))
end
def num_Pow.f (k : Nat) (a0_0 : Int) (a0_1 : Int) (a1 : Int) : Option (Int × Int × Bool) := (num_taken.f k a0_0 a0_1).bind fun bt400 => (if a1 = 0 then (num_Pow.j0 k a1 ((Int.tmod a1 2) != 0) true bt400.1 bt400.2) else (if bt400.1 = 1 then (num_Pow.j0 k a1 ((Int.tmod a1 2) != 0) (bt400.2 == 1) bt400.1 bt400.2) else (num_Pow.j0 k a1 ((Int.tmod a1 2) != 0) false bt400.1 bt400.2)))
theorem num_Pow.mono_l : ∀ k, (∀ y0 y1 y2 y3 y4, LeO (num_Pow.j0 k y0 y1 y2 y3 y4) (num_Pow.j0 (k + 1) y0 y1 y2 y3 y4)) ∧ (∀ y0 y1 y2 y3 y4, LeO (num_Pow.j1 k y0 y1 y2 y3 y4) (num_Pow.j1 (k + 1) y0 y1 y2 y3 y4)) ∧ (∀ y0 y1 y2 y3 y4 y5, LeO (num_Pow.j2 k y0 y1 y2 y3 y4 y5) (num_Pow.j2 (k + 1) y0 y1 y2 y3 y4 y5)) ∧ (∀ y0 y1 y2 y3 y4 y5 y6 y7 y8, LeO (num_Pow.l0 k y0 y1 y2 y3 y4 y5 y6 y7 y8) (num_Pow.l0 (k + 1) y0 y1 y2 y3 y4 y5 y6 y7 y8)) ∧ (∀ y0 y1 y2 y3 y4 y5 y6 y7 y8 y9, LeO (num_Pow.j4 k y0 y1 y2 y3 y4 y5 y6 y7 y8 y9) (num_Pow.j4 (k + 1) y0 y1 y2 y3 y4 y5 y6 y7 y8 y9))
 | 0 => ⟨fun _ _ _ _ _ r h => by simp [num_Pow.j0] at h, fun _ _ _ _ _ r h => by simp [num_Pow.j1] at h, fun _ _ _ _ _ _ r h => by simp [num_Pow.j2] at h, fun _ _ _ _ _ _ _ _ _ r h => by simp [num_Pow.l0] at h, fun _ _ _ _ _ _ _ _ _ _ r h => by simp [num_Pow.j4] at h⟩
 | k + 1 => by
  obtain ⟨ih0, ih1, ih2, ih3, ih4⟩ := num_Pow.mono_l k
  refine ⟨?_, ?_, ?_, ?_, ?_⟩
  ·intro y0 y1 y2 y3 y4
   unfold num_Pow.j0
   repeat' first
   | (with_reducible exact ih0 _ _ _ _ _)
   | (with_reducible exact ih1 _ _ _ _ _)
   | (with_reducible exact ih2 _ _ _ _ _ _)
   | (with_reducible exact ih3 _ _ _ _ _ _ _ _ _)
   | (with_reducible exact ih4 _ _ _ _ _ _ _ _ _ _)
   | (with_reducible exact num_taken.mono _ _ _)
   | (with_reducible exact LeO.refl _)
   | (with_reducible exact LeO.none _)
   | (with_reducible refine LeO.ite ?_ ?_)
   | (with_reducible refine LeO.bind ?_ (fun _ => ?_))
   | exact ih0 _ _ _ _ _
   | exact ih1 _ _ _ _ _
   | exact ih2 _ _ _ _ _ _
   | exact ih3 _ _ _ _ _ _ _ _ _
   | exact ih4 _ _ _ _ _ _ _ _ _ _
   | exact num_taken.mono _ _ _
   | exact LeO.none _
   | refine LeO.ite ?_ ?_
   | refine LeO.bind ?_ (fun _ => ?_)
  ·intro y0 y1 y2 y3 y4
   unfold num_Pow.j1
   repeat' first
   | (with_reducible exact ih0 _ _ _ _ _)
   | (with_reducible exact ih1 _ _ _ _ _)
   | (with_reducible exact ih2 _ _ _ _ _ _)
   | (with_reducible exact ih3 _ _ _ _ _ _ _ _ _)
   | (with_reducible exact ih4 _ _ _ _ _ _ _ _ _ _)
   | (with_reducible exact num_taken.mono _ _ _)
   | (with_reducible exact LeO.refl _)
   | (with_reducible exact LeO.none _)
   | (with_reducible refine LeO.ite ?_ ?_)
   | (with_reducible refine LeO.bind ?_ (fun _ => ?_))
   | exact ih0 _ _ _ _ _
   | exact ih1 _ _ _ _ _
   | exact ih2 _ _ _ _ _ _
   | exact ih3 _ _ _ _ _ _ _ _ _
   | exact ih4 _ _ _ _ _ _ _ _ _ _
   | exact num_taken.mono _ _ _
   | exact LeO.none _
   | refine LeO.ite ?_ ?_
   | refine LeO.bind ?_ (fun _ => ?_)
  ·intro y0 y1 y2 y3 y4 y5
   unfold num_Pow.j2
   repeat' first
   | (with_reducible exact ih0 _ _ _ _ _)
   | (with_reducible exact ih1 _ _ _ _ _)
   | (with_reducible exact ih2 _ _ _ _ _ _)
   | (with_reducible exact ih3 _ _ _ _ _ _ _ _ _)
   | (with_reducible exact ih4 _ _ _ _ _ _ _ _ _ _)
   | (with_reducible exact num_taken.mono _ _ _)
   | (with_reducible exact LeO.refl _)
   | (with_reducible exact LeO.none _)
   | (with_reducible refine LeO.ite ?_ ?_)
   | (with_reducible refine LeO.bind ?_ (fun _ => ?_))
   | exact ih0 _ _ _ _ _
   | exact ih1 _ _ _ _ _
   | exact ih2 _ _ _ _ _ _
   | exact ih3 _ _ _ _ _ _ _ _ _
   | exact ih4 _ _ _ _ _ _ _ _ _ _
   | exact num_taken.mono _ _ _
   | exact LeO.none _
   | refine LeO.ite ?_ ?_
   | refine LeO.bind ?_ (fun _ => ?_)
  ·intro y0 y1 y2 y3 y4 y5 y6 y7 y8
   unfold num_Pow.l0
   repeat' first
   | (with_reducible exact ih0 _ _ _ _ _)
   | (with_reducible exact ih1 _ _ _ _ _)
   | (with_reducible exact ih2 _ _ _ _ _ _)
   | (with_reducible exact ih3 _ _ _ _ _ _ _ _ _)
   | (with_reducible exact ih4 _ _ _ _ _ _ _ _ _ _)
   | (with_reducible exact num_taken.mono _ _ _)
   | (with_reducible exact LeO.refl _)
   | (with_reducible exact LeO.none _)
   | (with_reducible refine LeO.ite ?_ ?_)
   | (with_reducible refine LeO.bind ?_ (fun _ => ?_))
   | exact ih0 _ _ _ _ _
   | exact ih1 _ _ _ _ _
   | exact ih2 _ _ _ _ _ _
   | exact ih3 _ _ _ _ _ _ _ _ _
   | exact ih4 _ _ _ _ _ _ _ _ _ _
   | exact num_taken.mono _ _ _
   | exact LeO.none _
   | refine LeO.ite ?_ ?_
   | refine LeO.bind ?_ (fun _ => ?_)
  ·intro y0 y1 y2 y3 y4 y5 y6 y7 y8 y9
   unfold num_Pow.j4
   repeat' first
   | (with_reducible exact ih0 _ _ _ _ _)
   | (with_reducible exact ih1 _ _ _ _ _)
   | (with_reducible exact ih2 _ _ _ _ _ _)
   | (with_reducible exact ih3 _ _ _ _ _ _ _ _ _)
   | (with_reducible exact ih4 _ _ _ _ _ _ _ _ _ _)
   | (with_reducible exact num_taken.mono _ _ _)
   | (with_reducible exact LeO.refl _)
   | (with_reducible exact LeO.none _)
   | (with_reducible refine LeO.ite ?_ ?_)
   | (with_reducible refine LeO.bind ?_ (fun _ => ?_))
   | exact ih0 _ _ _ _ _
   | exact ih1 _ _ _ _ _
   | exact ih2 _ _ _ _ _ _
   | exact ih3 _ _ _ _ _ _ _ _ _
   | exact ih4 _ _ _ _ _ _ _ _ _ _
   | exact num_taken.mono _ _ _
   | exact LeO.none _
   | refine LeO.ite ?_ ?_
   | refine LeO.bind ?_ (fun _ => ?_)
theorem num_Pow.mono : ∀ a0 a1 a2 k, LeO (num_Pow.f k a0 a1 a2) (num_Pow.f (k + 1) a0 a1 a2) := by
 intro a0 a1 a2 k
 obtain ⟨ih0, ih1, ih2, ih3, ih4⟩ := num_Pow.mono_l k
 unfold num_Pow.f
 repeat' first
   | (with_reducible exact ih0 _ _ _ _ _)
   | (with_reducible exact ih1 _ _ _ _ _)
   | (with_reducible exact ih2 _ _ _ _ _ _)
   | (with_reducible exact ih3 _ _ _ _ _ _ _ _ _)
   | (with_reducible exact ih4 _ _ _ _ _ _ _ _ _ _)
   | (with_reducible exact num_taken.mono _ _ _)
   | (with_reducible exact LeO.refl _)
   | (with_reducible exact LeO.none _)
   | (with_reducible refine LeO.ite ?_ ?_)
   | (with_reducible refine LeO.bind ?_ (fun _ => ?_))
   | exact ih0 _ _ _ _ _
   | exact ih1 _ _ _ _ _
   | exact ih2 _ _ _ _ _ _
   | exact ih3 _ _ _ _ _ _ _ _ _
   | exact ih4 _ _ _ _ _ _ _ _ _ _
   | exact num_taken.mono _ _ _
   | exact LeO.none _
   | refine LeO.ite ?_ ?_
   | refine LeO.bind ?_ (fun _ => ?_)
set_option maxHeartbeats 8000000 in
set_option maxRecDepth 100000 in
theorem num_Pow.calls (k : Nat) (a0_0 : Int) (a0_1 : Int) (a1 : Int) (r1 : Int) (r2 : Int) (r3 : Bool) (w : World) (h : num_Pow.f k a0_0 a0_1 a1 = some (r1, r2, r3)) :
  Calls Tryd.prog 94 #[.agg #[.int .i64 a0_0, .int .i64 a0_1], .int .i64 a1] w fun e w' => e = .returned (.tuple #[.agg #[.int .i64 r1, .int .i64 r2], .bool r3]) ∧ Below w.heap.size w w' := by
 have hu23 := Tryd.underlying23
 have BX := Bx.start w
 have H : ((num_taken.f k a0_0 a0_1).bind fun bt400 => (if a1 = 0 then (num_Pow.j0 k a1 ((Int.tmod a1 2) != 0) true bt400.1 bt400.2) else (if bt400.1 = 1 then (num_Pow.j0 k a1 ((Int.tmod a1 2) != 0) (bt400.2 == 1) bt400.1 bt400.2) else (num_Pow.j0 k a1 ((Int.tmod a1 2) != 0) false bt400.1 bt400.2)))) = some (r1, r2, r3) := h
 clear h
 replace H := Option.bind_eq_some_iff.mp H
 obtain ⟨⟨t400, t401⟩, A30, H⟩ := H
 replace H : (if a1 = 0 then (num_Pow.j0 k a1 ((Int.tmod a1 2) != 0) true t400 t401) else (if t400 = 1 then (num_Pow.j0 k a1 ((Int.tmod a1 2) != 0) (t401 == 1) t400 t401) else (num_Pow.j0 k a1 ((Int.tmod a1 2) != 0) false t400 t401))) = some (r1, r2, r3) := H
 have A3 := Aside0.mk A30
 clear A30
 have HC4 := Aside0.mk H
 clear H
 go_enter Tryd.func94, Tryd.ntmps94
 go_upto_region 3 with (first | ((with_reducible refine gate_dst (N := 2) rfl ?_); refine bxe 2 #[.int .i64 a0_0, .int .i64 a0_1] 23 rfl rfl gr ?_; clear BX; intro gb398 w5 GE398 BX) | ((with_reducible refine gate_dst (N := 4) rfl ?_); refine bxe 4 #[.int .i64 0, .int .i64 0] 23 rfl rfl gr ?_; clear BX; intro gb399 w6 GE399 BX) | (go_at_call 79; (with_reducible refine (num_taken.calls k a0_0 a0_1 t400 t401 _ A3.out).mono ?_); rintro e w9 ⟨rfl, hb⟩; replace BX := bx_call hb; clear hb))
 repeat (go_quiet (first | ((with_reducible refine gate_dst (N := 2) rfl ?_); refine bxe 2 #[.int .i64 a0_0, .int .i64 a0_1] 23 rfl rfl gr ?_; clear BX; intro gb398 w5 GE398 BX) | ((with_reducible refine gate_dst (N := 4) rfl ?_); refine bxe 4 #[.int .i64 0, .int .i64 0] 23 rfl rfl gr ?_; clear BX; intro gb399 w6 GE399 BX) | (go_at_call 79; (with_reducible refine (num_taken.calls k a0_0 a0_1 t400 t401 _ A3.out).mono ?_); rintro e w9 ⟨rfl, hb⟩; replace BX := bx_call hb; clear hb)); go_upto_region 3 with (first | ((with_reducible refine gate_dst (N := 2) rfl ?_); refine bxe 2 #[.int .i64 a0_0, .int .i64 a0_1] 23 rfl rfl gr ?_; clear BX; intro gb398 w5 GE398 BX) | ((with_reducible refine gate_dst (N := 4) rfl ?_); refine bxe 4 #[.int .i64 0, .int .i64 0] 23 rfl rfl gr ?_; clear BX; intro gb399 w6 GE399 BX) | (go_at_call 79; (with_reducible refine (num_taken.calls k a0_0 a0_1 t400 t401 _ A3.out).mono ?_); rintro e w9 ⟨rfl, hb⟩; replace BX := bx_call hb; clear hb)))
 (try simp only [Act.put, List.setIfInBounds_toArray, List.set_cons_zero, List.set_cons_succ])
 go_cut [19] (fun v19 wc => ∃ (kq : Nat) (x19_3 : Bool), v19 = .bool x19_3 ∧ Aside0 (num_Pow.j0 kq a1 ((Int.tmod a1 2) != 0) x19_3 t400 t401 = some (r1, r2, r3)) ∧ Aside0 (kq ≤ k) ∧ Bx w wc [(gb399, 23, #[.int .i64 0, .int .i64 0]), (gb398, 23, #[.int .i64 t400, .int .i64 t401])])
 case first =>
  have H := HC4.out
  clear HC4
  by_cases c11 : a1 = 0
  ·rw [if_pos c11] at H
   have c11b0 : (a1 == 0) = true := beq_iff_eq.mpr c11
   have c11b1 : (a1 != 0) = false := bne_eq_false_iff_eq.mpr c11
   clear c11
   (first | rw [c11b0] | (simp only [i64_w, i32_w]; rw [c11b0]) | skip)
   have H' := Aside0.mk H
   clear H
   go_wp2
   repeat (go_quiet (fail); try go_wp2)
   go_meet
   case rel => exact ⟨_, (true), er, H', ⟨by first | omega | exact Nat.le_refl _⟩, bxs⟩
  ·rw [if_neg c11] at H
   have c11b0 : (a1 == 0) = false := beq_eq_false_iff_ne.mpr c11
   have c11b1 : (a1 != 0) = true := bne_iff_ne.mpr c11
   (first | rw [c11b0] | (simp only [i64_w, i32_w]; rw [c11b0]) | skip)
   by_cases c12 : t400 = 1
   ·rw [if_pos c12] at H
    have c12b0 : (t400 == 1) = true := beq_iff_eq.mpr c12
    have c12b1 : (t400 != 1) = false := bne_eq_false_iff_eq.mpr c12
    clear c12
    have H' := Aside0.mk H
    clear H
    go_wp2
    repeat (go_quiet (fail); try go_wp2)
    go_meet
    case rel => exact ⟨_, ((t401 == 1)), er, H', ⟨by first | omega | exact Nat.le_refl _⟩, bxs⟩
   ·rw [if_neg c12] at H
    have c12b0 : (t400 == 1) = false := beq_eq_false_iff_ne.mpr c12
    have c12b1 : (t400 != 1) = true := bne_iff_ne.mpr c12
    have H' := Aside0.mk H
    clear H
    go_wp2
    repeat (go_quiet (fail); try go_wp2)
    go_meet
    case rel => exact ⟨_, (false), er, H', ⟨by first | omega | exact Nat.le_refl _⟩, bxs⟩
 case rest =>
  clear HC4
  try clear c1
  try clear p2
  try clear c7
  try clear c9
  try clear c11
  try clear c11b0
  try clear c11b1
  try clear c12
  try clear c12b0
  try clear c12b1
  try clear c13
  try clear c15
  obtain ⟨kq, x19_3, rfl, HA, HJ3, BX⟩ := hcut
  cases kq with
  | zero => exact absurd HA.out (by simp [num_Pow.j0])
  | succ kj3 =>
   have H := HA.out
   clear HA
   simp only [num_Pow.j0] at H
   by_cases c17 : x19_3 = true
   ·subst c17
    have H1 : (some (1, 1, true)) = some (r1, r2, r3) := by rw [if_pos rfl] at H; exact H
    clear H
    have H := H1
    clear H1
    simp only [Option.some.injEq, Prod.mk.injEq] at H
    obtain ⟨rfl, rfl, rfl⟩ := H
    go_wp2
    repeat (go_quiet (fail); try go_wp2)
    refine bodyPost_ret (results_ct rfl _ _ gb399 23 #[.int .i64 1, .int .i64 1] (0, 0) _ rfl bx_get Tryd.underlying23 rfl kr) rfl ?_
    exact ⟨er2, bx_bl⟩
   ·replace c17 := Bool.eq_false_iff.mpr c17
    subst c17
    have H1 : (if t400 = 0 then (num_Pow.j1 kj3 a1 ((Int.tmod a1 2) != 0) (decide (a1 < 0)) t400 t401) else (num_Pow.j1 kj3 a1 ((Int.tmod a1 2) != 0) false t400 t401)) = some (r1, r2, r3) := by rw [if_neg (show ¬ (false = true) by decide)] at H; exact H
    clear H
    have H := H1
    clear H1
    have HC20 := Aside0.mk H
    clear H
    go_upto_region 5 with (fail)
    repeat (go_quiet (fail); go_upto_region 5 with (fail))
    go_cut [33] (fun v33 wc => ∃ (kq : Nat) (x33_19 : Bool), v33 = .bool x33_19 ∧ Aside0 (num_Pow.j1 kq a1 ((Int.tmod a1 2) != 0) x33_19 t400 t401 = some (r1, r2, r3)) ∧ Aside0 (kq ≤ kj3) ∧ Bx w wc [(gb399, 23, #[.int .i64 0, .int .i64 0]), (gb398, 23, #[.int .i64 t400, .int .i64 t401])])
    case first =>
     have H := HC20.out
     clear HC20
     by_cases c21 : t400 = 0
     ·rw [if_pos c21] at H
      have c21b0 : (t400 == 0) = true := beq_iff_eq.mpr c21
      have c21b1 : (t400 != 0) = false := bne_eq_false_iff_eq.mpr c21
      clear c21
      (first | rw [c21b0] | (simp only [i64_w, i32_w]; rw [c21b0]) | skip)
      have H' := Aside0.mk H
      clear H
      go_wp2
      repeat (go_quiet (fail); try go_wp2)
      go_meet
      case rel => exact ⟨_, (decide (a1 < 0)), er, H', ⟨by have := HJ3.out; first | omega | exact Nat.le_refl _⟩, bxs⟩
     ·rw [if_neg c21] at H
      have c21b0 : (t400 == 0) = false := beq_eq_false_iff_ne.mpr c21
      have c21b1 : (t400 != 0) = true := bne_iff_ne.mpr c21
      (first | rw [c21b0] | (simp only [i64_w, i32_w]; rw [c21b0]) | skip)
      have H' := Aside0.mk H
      clear H
      go_wp2
      repeat (go_quiet (fail); try go_wp2)
      go_meet
      case rel => exact ⟨_, (false), er, H', ⟨by have := HJ3.out; first | omega | exact Nat.le_refl _⟩, bxs⟩
    case rest =>
     clear HC20
     try clear c1
     try clear c2
     try clear p2
     try clear c7
     try clear c9
     try clear c11
     try clear c11b0
     try clear c11b1
     try clear c12
     try clear c12b0
     try clear c12b1
     try clear c13
     try clear c15
     try clear c17
     try clear c18
     try clear c21
     try clear c21b0
     try clear c21b1
     try clear c22
     try clear c24
     try clear p2
     obtain ⟨kq, x33_19, rfl, HA, HJ19, BX⟩ := hcut
     cases kq with
     | zero => exact absurd HA.out (by simp [num_Pow.j1])
     | succ kj19 =>
      have H := HA.out
      clear HA
      simp only [num_Pow.j1] at H
      by_cases c26 : x33_19 = true
      ·subst c26
       have H1 : (some (0, 0, false)) = some (r1, r2, r3) := by rw [if_pos rfl] at H; exact H
       clear H
       have H := H1
       clear H1
       simp only [Option.some.injEq, Prod.mk.injEq] at H
       obtain ⟨rfl, rfl, rfl⟩ := H
       go_wp2
       repeat (go_quiet (fail); try go_wp2)
       refine bodyPost_ret (results_ct rfl _ _ gb399 23 #[.int .i64 0, .int .i64 0] (0, 0) _ rfl bx_get Tryd.underlying23 rfl kr) rfl ?_
       exact ⟨er2, bx_bl⟩
      ·replace c26 := Bool.eq_false_iff.mpr c26
       subst c26
       have H1 : (if t400 = 0 then (some (t400, t401, true)) else ((num_size.f t400).bind fun t402 => ((num_size.f a1).bind fun t403 => (if a1 < 0 then (num_Pow.j2 kj19 ((Int.tmod a1 2) != 0) (IntKind.u64.wrap (t401)) t402 t403 t400 t401) else (num_Pow.j2 kj19 ((Int.tmod a1 2) != 0) t402 (IntKind.u64.wrap (t401)) t403 t400 t401))))) = some (r1, r2, r3) := by rw [if_neg (show ¬ (false = true) by decide)] at H; exact H
       clear H
       have H := H1
       clear H1
       by_cases c29 : t400 = 0
       ·rw [if_pos c29] at H
        have c29b0 : (t400 == 0) = true := beq_iff_eq.mpr c29
        have c29b1 : (t400 != 0) = false := bne_eq_false_iff_eq.mpr c29
        clear c29
        simp only [Option.some.injEq, Prod.mk.injEq] at H
        obtain ⟨rfl, rfl, rfl⟩ := H
        go_wp2
        repeat (go_quiet (fail); try go_wp2)
        refine bodyPost_ret (results_ct rfl _ _ gb399 23 #[.int .i64 t400, .int .i64 t401] (0, 0) _ rfl bx_get Tryd.underlying23 rfl kr) rfl ?_
        exact ⟨er2, bx_bl⟩
       ·rw [if_neg c29] at H
        have c29b0 : (t400 == 0) = false := beq_eq_false_iff_ne.mpr c29
        have c29b1 : (t400 != 0) = true := bne_iff_ne.mpr c29
        replace H := Option.bind_eq_some_iff.mp H
        obtain ⟨t402, A330, H⟩ := H
        have A33 := Aside0.mk A330
        clear A330
        replace H := Option.bind_eq_some_iff.mp H
        obtain ⟨t403, A340, H⟩ := H
        replace H : (if a1 < 0 then (num_Pow.j2 kj19 ((Int.tmod a1 2) != 0) (IntKind.u64.wrap (t401)) t402 t403 t400 t401) else (num_Pow.j2 kj19 ((Int.tmod a1 2) != 0) t402 (IntKind.u64.wrap (t401)) t403 t400 t401)) = some (r1, r2, r3) := H
        have A34 := Aside0.mk A340
        clear A340
        have HC35 := Aside0.mk H
        clear H
        go_upto_if 56 with (first | (go_at_call 83; (with_reducible refine (num_size.calls t400 t402 _ A33.out).mono ?_); rintro e w' ⟨rfl, ⟨nd, rfl⟩⟩; (try first | exact ⟨rfl, _, World.drewN_drewN _ _ _⟩ | exact ⟨rfl, _, Eq.trans (World.drewN_drewN _ _ _) (congrArg (World.drewN _) (Nat.add_assoc _ _ _))⟩)) | (go_at_call 83; (with_reducible refine (num_size.calls a1 t403 _ A34.out).mono ?_); rintro e w' ⟨rfl, ⟨nd, rfl⟩⟩; (try first | exact ⟨rfl, _, World.drewN_drewN _ _ _⟩ | exact ⟨rfl, _, Eq.trans (World.drewN_drewN _ _ _) (congrArg (World.drewN _) (Nat.add_assoc _ _ _))⟩)))
        repeat (go_quiet (first | (go_at_call 83; (with_reducible refine (num_size.calls t400 t402 _ A33.out).mono ?_); rintro e w' ⟨rfl, ⟨nd, rfl⟩⟩; (try first | exact ⟨rfl, _, World.drewN_drewN _ _ _⟩ | exact ⟨rfl, _, Eq.trans (World.drewN_drewN _ _ _) (congrArg (World.drewN _) (Nat.add_assoc _ _ _))⟩)) | (go_at_call 83; (with_reducible refine (num_size.calls a1 t403 _ A34.out).mono ?_); rintro e w' ⟨rfl, ⟨nd, rfl⟩⟩; (try first | exact ⟨rfl, _, World.drewN_drewN _ _ _⟩ | exact ⟨rfl, _, Eq.trans (World.drewN_drewN _ _ _) (congrArg (World.drewN _) (Nat.add_assoc _ _ _))⟩))); go_upto_if 56 with (first | (go_at_call 83; (with_reducible refine (num_size.calls t400 t402 _ A33.out).mono ?_); rintro e w' ⟨rfl, ⟨nd, rfl⟩⟩; (try first | exact ⟨rfl, _, World.drewN_drewN _ _ _⟩ | exact ⟨rfl, _, Eq.trans (World.drewN_drewN _ _ _) (congrArg (World.drewN _) (Nat.add_assoc _ _ _))⟩)) | (go_at_call 83; (with_reducible refine (num_size.calls a1 t403 _ A34.out).mono ?_); rintro e w' ⟨rfl, ⟨nd, rfl⟩⟩; (try first | exact ⟨rfl, _, World.drewN_drewN _ _ _⟩ | exact ⟨rfl, _, Eq.trans (World.drewN_drewN _ _ _) (congrArg (World.drewN _) (Nat.add_assoc _ _ _))⟩))))
        (try simp only [Act.put, List.setIfInBounds_toArray, List.set_cons_zero, List.set_cons_succ])
        go_cut [7, 8] (fun v7 v8 wc => ∃ (kq : Nat) (x7_34 : Int) (x8_34 : Int), v7 = .int .u64 x7_34 ∧ v8 = .int .u64 x8_34 ∧ Aside0 (num_Pow.j2 kq ((Int.tmod a1 2) != 0) x7_34 x8_34 t403 t400 t401 = some (r1, r2, r3)) ∧ Aside0 (kq ≤ kj19) ∧ Bx w wc [(gb399, 23, #[.int .i64 0, .int .i64 0]), (gb398, 23, #[.int .i64 t400, .int .i64 t401])])
        case first =>
         have H := HC35.out
         clear HC35
         by_cases c38 : a1 < 0
         ·rw [if_pos c38] at H
          have c38b0 : decide (a1 < 0) = true := decide_eq_true c38
          clear c38
          (first | rw [c38b0] | (simp only [i64_w, i32_w]; rw [c38b0]) | skip)
          have H' := Aside0.mk H
          clear H
          go_wp2
          repeat (go_quiet (fail); try go_wp2)
          go_meet
          case rel => exact ⟨_, (IntKind.u64.wrap (t401)), (t402), er, er, H', ⟨by have := HJ3.out; have := HJ19.out; first | omega | exact Nat.le_refl _⟩, bxs⟩
         ·rw [if_neg c38] at H
          have c38b0 : decide (a1 < 0) = false := decide_eq_false c38
          clear c38
          (first | rw [c38b0] | (simp only [i64_w, i32_w]; rw [c38b0]) | skip)
          have H' := Aside0.mk H
          clear H
          go_wp2
          repeat (go_quiet (fail); try go_wp2)
          go_meet
          case rel => exact ⟨_, (t402), (IntKind.u64.wrap (t401)), er, er, H', ⟨by have := HJ3.out; have := HJ19.out; first | omega | exact Nat.le_refl _⟩, bxs⟩
        case rest =>
         clear HC35
         try clear c1
         try clear c2
         try clear p2
         try clear c3
         try clear c7
         try clear c9
         try clear c11
         try clear c11b0
         try clear c11b1
         try clear c12
         try clear c12b0
         try clear c12b1
         try clear c13
         try clear c15
         try clear c17
         try clear c18
         try clear c21
         try clear c21b0
         try clear c21b1
         try clear c22
         try clear c24
         try clear c26
         try clear c27
         try clear c29
         try clear c29b0
         try clear c29b1
         try clear c30
         try clear c36
         try clear c38
         try clear c38b0
         try clear p2
         obtain ⟨kq, x7_34, x8_34, rfl, rfl, HA, HJ34, BX⟩ := hcut
         cases kq with
         | zero => exact absurd HA.out (by simp [num_Pow.j2])
         | succ kj34 =>
          have H := HA.out
          clear HA
          simp only [num_Pow.j2] at H
          have H' := Aside0.mk H
          clear H
          go_wp2
          repeat (go_quiet (fail); try go_wp2)
          go_loopg [10, 11, 12] kj34 (fun kq v10 v11 v12 w' => ∃ (x10_4 : Int) (x11_4 : Int) (x12_4 : Int) (x400000_4 : Int) (x400001_4 : Int), v10 = .int .u64 x10_4 ∧ v11 = .int .u64 x11_4 ∧ v12 = .int .u64 x12_4 ∧ Aside0 (num_Pow.l0 kq ((Int.tmod a1 2) != 0) x7_34 x8_34 t403 x10_4 x11_4 x12_4 t400 t401 = some (r1, r2, r3)) ∧ Aside0 (kq ≤ kj34) ∧ Bx w w' [(gb399, 23, #[.int .i64 x400000_4, .int .i64 x400001_4]), (gb398, 23, #[.int .i64 t400, .int .i64 t401])])
          case atStart => exact ⟨(1), (1), (0), (0), (0), er, er, er, H', ⟨Nat.le_refl _⟩, bxs⟩
          case round =>
           clear H'
           try clear c1
           try clear c2
           try clear p2
           try clear c3
           try clear c7
           try clear c9
           try clear c11
           try clear c11b0
           try clear c11b1
           try clear c12
           try clear c12b0
           try clear c12b1
           try clear c13
           try clear c15
           try clear c17
           try clear c18
           try clear c21
           try clear c21b0
           try clear c21b1
           try clear c22
           try clear c24
           try clear c26
           try clear c27
           try clear c29
           try clear c29b0
           try clear c29b1
           try clear c30
           try clear c36
           try clear c38
           try clear c38b0
           try clear p2
           obtain ⟨x10_4, x11_4, x12_4, x400000_4, x400001_4, rfl, rfl, rfl, HA, HK4, BX⟩ := hrel
           cases gk with
           | zero => exact absurd HA.out (by simp [num_Pow.l0])
           | succ k4 =>
            have H := HA.out
            clear HA
            simp only [num_Pow.l0] at H
            have HC39 := Aside0.mk H
            clear H
            go_upto_region 14 with (fail)
            repeat (go_quiet (fail); go_upto_region 14 with (fail))
            go_cut [67] (fun v67 wc => ∃ (kq : Nat) (x67_38 : Bool), v67 = .bool x67_38 ∧ Aside0 (num_Pow.j4 kq ((Int.tmod a1 2) != 0) x7_34 x8_34 t403 x10_4 x11_4 x12_4 x67_38 t400 t401 = some (r1, r2, r3)) ∧ Aside0 (kq ≤ k4) ∧ Bx w wc [(gb399, 23, #[.int .i64 x400000_4, .int .i64 x400001_4]), (gb398, 23, #[.int .i64 t400, .int .i64 t401])])
            case first =>
             have H := HC39.out
             clear HC39
             by_cases c40 : x12_4 < t403
             ·rw [if_pos c40] at H
              have c40b0 : decide (x12_4 < t403) = true := decide_eq_true c40
              clear c40
              (first | rw [c40b0] | (simp only [i64_w, i32_w]; rw [c40b0]) | skip)
              have H' := Aside0.mk H
              clear H
              go_wp2
              repeat (go_quiet (fail); try go_wp2)
              go_meet
              case rel => exact ⟨_, (decide ((IntKind.u64.wrap (x7_34 * x8_34)) > 1)), er, H', ⟨by have := HJ3.out; have := HJ19.out; have := HJ34.out; have := HK4.out; first | omega | exact Nat.le_refl _⟩, bxs⟩
             ·rw [if_neg c40] at H
              have c40b0 : decide (x12_4 < t403) = false := decide_eq_false c40
              clear c40
              (first | rw [c40b0] | (simp only [i64_w, i32_w]; rw [c40b0]) | skip)
              have H' := Aside0.mk H
              clear H
              go_wp2
              repeat (go_quiet (fail); try go_wp2)
              go_meet
              case rel => exact ⟨_, (false), er, H', ⟨by have := HJ3.out; have := HJ19.out; have := HJ34.out; have := HK4.out; first | omega | exact Nat.le_refl _⟩, bxs⟩
            case rest =>
             clear HC39
             try clear c1
             try clear c2
             try clear p2
             try clear c3
             try clear c4
             try clear c7
             try clear c9
             try clear c11
             try clear c11b0
             try clear c11b1
             try clear c12
             try clear c12b0
             try clear c12b1
             try clear c13
             try clear c15
             try clear c17
             try clear c18
             try clear c21
             try clear c21b0
             try clear c21b1
             try clear c22
             try clear c24
             try clear c26
             try clear c27
             try clear c29
             try clear c29b0
             try clear c29b1
             try clear c30
             try clear c36
             try clear c38
             try clear c38b0
             try clear c40
             try clear c40b0
             try clear p2
             obtain ⟨kq, x67_38, rfl, HA, HJ38, BX⟩ := hcut
             cases kq with
             | zero => exact absurd HA.out (by simp [num_Pow.j4])
             | succ kj38 =>
              have H := HA.out
              clear HA
              simp only [num_Pow.j4] at H
              by_cases c41 : x67_38 = true
              ·subst c41
               have H1 : (if x7_34 = 0 then (none) else (if x10_4 > (IntKind.u64.wrap (Int.tdiv (1000000000000 : Int) x7_34)) then (some (0, 0, false)) else (if x8_34 = 0 then (none) else (if x11_4 > (IntKind.u64.wrap (Int.tdiv (1000000 : Int) x8_34)) then (some (0, 0, false)) else (num_Pow.l0 kj38 ((Int.tmod a1 2) != 0) x7_34 x8_34 t403 (IntKind.u64.wrap (x10_4 * x7_34)) (IntKind.u64.wrap (x11_4 * x8_34)) (IntKind.u64.wrap (x12_4 + 1)) t400 t401))))) = some (r1, r2, r3) := by rw [if_pos rfl] at H; exact H
               clear H
               have H := H1
               clear H1
               by_cases c42 : x7_34 = 0
               ·rw [if_pos c42] at H
                exact absurd H (by simp)
               ·rw [if_neg c42] at H
                have c42b0 : (x7_34 == 0) = false := beq_eq_false_iff_ne.mpr c42
                have c42b1 : (x7_34 != 0) = true := bne_iff_ne.mpr c42
                by_cases c43 : x10_4 > (IntKind.u64.wrap (Int.tdiv (1000000000000 : Int) x7_34))
                ·rw [if_pos c43] at H
                 have c43b0 : decide ((IntKind.u64.wrap (Int.tdiv (1000000000000 : Int) x7_34)) < x10_4) = true := decide_eq_true c43
                 clear c43
                 simp only [Option.some.injEq, Prod.mk.injEq] at H
                 obtain ⟨rfl, rfl, rfl⟩ := H
                 go_wp2
                 repeat (go_quiet (fail); try go_wp2)
                 refine bodyPost_ret (results_ct rfl _ _ gb399 23 #[.int .i64 0, .int .i64 0] (0, 0) _ rfl bx_get Tryd.underlying23 rfl kr) rfl ?_
                 exact ⟨er2, bx_bl⟩
                ·rw [if_neg c43] at H
                 have c43b0 : decide ((IntKind.u64.wrap (Int.tdiv (1000000000000 : Int) x7_34)) < x10_4) = false := decide_eq_false c43
                 clear c43
                 by_cases c46 : x8_34 = 0
                 ·rw [if_pos c46] at H
                  exact absurd H (by simp)
                 ·rw [if_neg c46] at H
                  have c46b0 : (x8_34 == 0) = false := beq_eq_false_iff_ne.mpr c46
                  have c46b1 : (x8_34 != 0) = true := bne_iff_ne.mpr c46
                  by_cases c47 : x11_4 > (IntKind.u64.wrap (Int.tdiv (1000000 : Int) x8_34))
                  ·rw [if_pos c47] at H
                   have c47b0 : decide ((IntKind.u64.wrap (Int.tdiv (1000000 : Int) x8_34)) < x11_4) = true := decide_eq_true c47
                   clear c47
                   simp only [Option.some.injEq, Prod.mk.injEq] at H
                   obtain ⟨rfl, rfl, rfl⟩ := H
                   go_wp2
                   repeat (go_quiet (fail); try go_wp2)
                   refine bodyPost_ret (results_ct rfl _ _ gb399 23 #[.int .i64 0, .int .i64 0] (0, 0) _ rfl bx_get Tryd.underlying23 rfl kr) rfl ?_
                   exact ⟨er2, bx_bl⟩
                  ·rw [if_neg c47] at H
                   have c47b0 : decide ((IntKind.u64.wrap (Int.tdiv (1000000 : Int) x8_34)) < x11_4) = false := decide_eq_false c47
                   clear c47
                   have H' := Aside0.mk H
                   clear H
                   go_wp2
                   repeat (go_quiet (fail); try go_wp2)
                   go_roundg kj38
                   case measure => have := HJ3.out; have := HJ19.out; have := HJ34.out; have := HK4.out; have := HJ38.out; omega
                   case rel => exact ⟨(IntKind.u64.wrap (x10_4 * x7_34)), (IntKind.u64.wrap (x11_4 * x8_34)), (IntKind.u64.wrap (x12_4 + 1)), (x400000_4), (x400001_4), er, er, er, H', ⟨by have := HJ3.out; have := HJ19.out; have := HJ34.out; have := HK4.out; have := HJ38.out; omega⟩, bxs⟩
              ·replace c41 := Bool.eq_false_iff.mpr c41
               subst c41
               have H1 : (if t400 < 0 then (if ((Int.tmod a1 2) != 0) = true then (some (wrap64 (-(wrap64 (x10_4))), wrap64 (x11_4), true)) else (some (wrap64 (x10_4), wrap64 (x11_4), true))) else (some (wrap64 (x10_4), wrap64 (x11_4), true))) = some (r1, r2, r3) := by rw [if_neg (show ¬ (false = true) by decide)] at H; exact H
               clear H
               have H := H1
               clear H1
               by_cases c50 : t400 < 0
               ·rw [if_pos c50] at H
                have c50b0 : decide (t400 < 0) = true := decide_eq_true c50
                clear c50
                by_cases c51 : ((Int.tmod a1 2) != 0) = true
                ·rw [if_pos c51] at H
                 have c51b0 : ((Int.tmod a1 2) != 0) = true := c51
                 (try (have c51b1 : decide ((Int.tmod a1 2) = 0) = false := by simpa using c51))
                 (try (have c51b2 : ((Int.tmod a1 2) == 0) = false := by simpa using c51))
                 (try (have c51b3 : ¬ ((Int.tmod a1 2) = 0) := by simpa using c51))
                 clear c51
                 simp only [Option.some.injEq, Prod.mk.injEq] at H
                 obtain ⟨rfl, rfl, rfl⟩ := H
                 go_wp2_with (first | ((with_reducible refine gate_dst (N := 13) rfl ?_); refine bxe 13 #[.int .i64 0, .int .i64 0] 23 rfl rfl gr ?_; clear BX; intro gb404 w52 GE404 BX))
                 repeat (go_quiet (first | ((with_reducible refine gate_dst (N := 13) rfl ?_); refine bxe 13 #[.int .i64 0, .int .i64 0] 23 rfl rfl gr ?_; clear BX; intro gb404 w52 GE404 BX)); try go_wp2_with (first | ((with_reducible refine gate_dst (N := 13) rfl ?_); refine bxe 13 #[.int .i64 0, .int .i64 0] 23 rfl rfl gr ?_; clear BX; intro gb404 w52 GE404 BX)))
                 refine bodyPost_ret (results_ct rfl _ _ gb399 23 #[.int .i64 (wrap64 (-(wrap64 (x10_4)))), .int .i64 (wrap64 (x11_4))] (0, 0) _ rfl bx_get Tryd.underlying23 rfl kr) rfl ?_
                 exact ⟨er2, bx_bl⟩
                ·rw [if_neg c51] at H
                 have c51b0 : ((Int.tmod a1 2) != 0) = false := by simpa using c51
                 (try (have c51b1 : decide ((Int.tmod a1 2) = 0) = true := by simpa using c51))
                 (try (have c51b2 : ((Int.tmod a1 2) == 0) = true := by simpa using c51))
                 clear c51
                 simp only [Option.some.injEq, Prod.mk.injEq] at H
                 obtain ⟨rfl, rfl, rfl⟩ := H
                 go_wp2_with (first | ((with_reducible refine gate_dst (N := 13) rfl ?_); refine bxe 13 #[.int .i64 0, .int .i64 0] 23 rfl rfl gr ?_; clear BX; intro gb404 w59 GE404 BX))
                 repeat (go_quiet (first | ((with_reducible refine gate_dst (N := 13) rfl ?_); refine bxe 13 #[.int .i64 0, .int .i64 0] 23 rfl rfl gr ?_; clear BX; intro gb404 w59 GE404 BX)); try go_wp2_with (first | ((with_reducible refine gate_dst (N := 13) rfl ?_); refine bxe 13 #[.int .i64 0, .int .i64 0] 23 rfl rfl gr ?_; clear BX; intro gb404 w59 GE404 BX)))
                 refine bodyPost_ret (results_ct rfl _ _ gb399 23 #[.int .i64 (wrap64 (x10_4)), .int .i64 (wrap64 (x11_4))] (0, 0) _ rfl bx_get Tryd.underlying23 rfl kr) rfl ?_
                 exact ⟨er2, bx_bl⟩
               ·rw [if_neg c50] at H
                have c50b0 : decide (t400 < 0) = false := decide_eq_false c50
                clear c50
                simp only [Option.some.injEq, Prod.mk.injEq] at H
                obtain ⟨rfl, rfl, rfl⟩ := H
                go_wp2_with (first | ((with_reducible refine gate_dst (N := 13) rfl ?_); refine bxe 13 #[.int .i64 0, .int .i64 0] 23 rfl rfl gr ?_; clear BX; intro gb404 w66 GE404 BX))
                repeat (go_quiet (first | ((with_reducible refine gate_dst (N := 13) rfl ?_); refine bxe 13 #[.int .i64 0, .int .i64 0] 23 rfl rfl gr ?_; clear BX; intro gb404 w66 GE404 BX)); try go_wp2_with (first | ((with_reducible refine gate_dst (N := 13) rfl ?_); refine bxe 13 #[.int .i64 0, .int .i64 0] 23 rfl rfl gr ?_; clear BX; intro gb404 w66 GE404 BX)))
                refine bodyPost_ret (results_ct rfl _ _ gb399 23 #[.int .i64 (wrap64 (x10_4)), .int .i64 (wrap64 (x11_4))] (0, 0) _ rfl bx_get Tryd.underlying23 rfl kr) rfl ?_
                exact ⟨er2, bx_bl⟩
end
end Go.Proofs.YtmakkdlkgfgaoaaDoor.F
