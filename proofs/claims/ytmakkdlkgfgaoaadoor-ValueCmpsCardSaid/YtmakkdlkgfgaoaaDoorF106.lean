-- Laid by program (wip/tools/genv.sh, pack.py, merge.py of this repo) out of the translation; Lean checks it.
import Derived.Test.YtmakkdlkgfgaoaaDoorF0
import Derived.Test.YtmakkdlkgfgaoaaDoorC0
namespace Go.Proofs.YtmakkdlkgfgaoaaDoor.F
open Go.RowKit Go.Proofs.YtmakkdlkgfgaoaaDoorW.PrintWords Go.Proofs.YtmakkdlkgfgaoaaDoorW.PrintLast Go.Proofs.YtmakkdlkgfgaoaaDoorW.PrintMore
attribute [local go_sem] max2_int min2_int max_two min_two max_three min_three max_four min_four
attribute [local go_sem high] bx_cell bx_frozen
set_option linter.unusedVariables false
set_option linter.unusedSimpArgs false

section
/-! ### whittleref1_gcd: function 84 -/
def whittleref1_gcd.l0 : Nat → Int → Int → Option (Int)
 | 0, _, _ => none
 | k + 1, x0, x1 => if x1 = 0 then (some x0) else (whittleref1_gcd.l0 k x1 (Int.tmod x0 x1))
def whittleref1_gcd.f (k : Nat) (a0 : Int) (a1 : Int) : Option (Int) := whittleref1_gcd.l0 k a0 a1
theorem whittleref1_gcd.mono_l : ∀ k, (∀ y0 y1, LeO (whittleref1_gcd.l0 k y0 y1) (whittleref1_gcd.l0 (k + 1) y0 y1))
 | 0 => fun _ _ r h => by simp [whittleref1_gcd.l0] at h
 | k + 1 => by
  have ih0 := whittleref1_gcd.mono_l k
  ·intro y0 y1
   unfold whittleref1_gcd.l0
   repeat' first
   | (with_reducible exact ih0 _ _)
   | (with_reducible exact LeO.refl _)
   | (with_reducible exact LeO.none _)
   | (with_reducible refine LeO.ite ?_ ?_)
   | (with_reducible refine LeO.bind ?_ (fun _ => ?_))
   | exact ih0 _ _
   | exact LeO.none _
   | refine LeO.ite ?_ ?_
   | refine LeO.bind ?_ (fun _ => ?_)
theorem whittleref1_gcd.mono : ∀ a0 a1 k, LeO (whittleref1_gcd.f k a0 a1) (whittleref1_gcd.f (k + 1) a0 a1) := by
 intro a0 a1 k
 have ih0 := whittleref1_gcd.mono_l k
 unfold whittleref1_gcd.f
 repeat' first
   | (with_reducible exact ih0 _ _)
   | (with_reducible exact LeO.refl _)
   | (with_reducible exact LeO.none _)
   | (with_reducible refine LeO.ite ?_ ?_)
   | (with_reducible refine LeO.bind ?_ (fun _ => ?_))
   | exact ih0 _ _
   | exact LeO.none _
   | refine LeO.ite ?_ ?_
   | refine LeO.bind ?_ (fun _ => ?_)
set_option maxHeartbeats 8000000 in
set_option maxRecDepth 100000 in
theorem whittleref1_gcd.calls (k : Nat) (a0 : Int) (a1 : Int) (r : Int) (w : World) (h : whittleref1_gcd.f k a0 a1 = some r) :
  Calls Tryd.prog 84 #[.int .u64 a0, .int .u64 a1] w fun e w' => e = .returned (.int .u64 r) ∧ Drawn0 w w' := by
 have H : (whittleref1_gcd.l0 k a0 a1) = some r := h
 clear h
 have H' := Aside0.mk H
 clear H
 go_enter Tryd.func84, Tryd.ntmps84
 go_wp2
 go_loopg [0, 1] k (fun kq v0 v1 w' => ∃ (x0_1 : Int) (x1_1 : Int), v0 = .int .u64 x0_1 ∧ v1 = .int .u64 x1_1 ∧ Aside0 (whittleref1_gcd.l0 kq x0_1 x1_1 = some r) ∧ Aside0 (kq ≤ k) ∧ Drawn0 w w')
 case atStart => exact ⟨(a0), (a1), er, er, H', ⟨Nat.le_refl _⟩, dr⟩
 case round =>
  clear H'
  try clear p2
  obtain ⟨x0_1, x1_1, rfl, rfl, HA, HK1, ⟨m1, rfl⟩⟩ := hrel
  cases gk with
  | zero => exact absurd HA.out (by simp [whittleref1_gcd.l0])
  | succ k1 =>
   have H := HA.out
   clear HA
   simp only [whittleref1_gcd.l0] at H
   by_cases c3 : x1_1 = 0
   ·rw [if_pos c3] at H
    have c3b0 : (x1_1 == 0) = true := beq_iff_eq.mpr c3
    have c3b1 : (x1_1 != 0) = false := bne_eq_false_iff_eq.mpr c3
    clear c3
    obtain rfl := Option.some.inj H
    go_wp2
    go_ret
    exact ⟨er, dr⟩
   ·rw [if_neg c3] at H
    have c3b0 : (x1_1 == 0) = false := beq_eq_false_iff_ne.mpr c3
    have c3b1 : (x1_1 != 0) = true := bne_iff_ne.mpr c3
    have H' := Aside0.mk H
    clear H
    go_wp2
    go_roundg k1
    case measure => have := HK1.out; omega
    case rel => exact ⟨(x1_1), (Int.tmod x0_1 x1_1), er, er, H', ⟨by have := HK1.out; omega⟩, dr⟩
end
section
/-! ### whittleref1_far: function 85 -/
def whittleref1_far.f (a0 : Int) : Option (Int) := if a0 < 0 then (some (IntKind.u64.wrap ((IntKind.u64.wrap (wrap64 (-(wrap64 (a0 + 1))))) + 1))) else (some (IntKind.u64.wrap (a0)))
set_option maxHeartbeats 8000000 in
set_option maxRecDepth 100000 in
theorem whittleref1_far.calls (a0 : Int) (r : Int) (w : World) (h : whittleref1_far.f a0 = some r) :
  Calls Tryd.prog 85 #[.int .i64 a0] w fun e w' => e = .returned (.int .u64 r) ∧ Drawn0 w w' := by
 have H : (if a0 < 0 then (some (IntKind.u64.wrap ((IntKind.u64.wrap (wrap64 (-(wrap64 (a0 + 1))))) + 1))) else (some (IntKind.u64.wrap (a0)))) = some r := h
 clear h
 by_cases c2 : a0 < 0
 ·rw [if_pos c2] at H
  have c2b0 : decide (a0 < 0) = true := decide_eq_true c2
  clear c2
  obtain rfl := Option.some.inj H
  go_enter Tryd.func85, Tryd.ntmps85
  go_wp2
  go_ret
  exact ⟨er, dr⟩
 ·rw [if_neg c2] at H
  have c2b0 : decide (a0 < 0) = false := decide_eq_false c2
  clear c2
  obtain rfl := Option.some.inj H
  go_enter Tryd.func85, Tryd.ntmps85
  go_wp2
  go_ret
  exact ⟨er, dr⟩
end
section
/-! ### whittleref1_Right: function 51 -/
def whittleref1_Right.j0 : Nat → Bool → Int → Int → Option (Bool)
 | 0, _, _, _ => none
 | k + 1, x20, x577000, x577001 => if x20 = true then (some false) else ((whittleref1_far.f x577000).bind fun t577 => ((whittleref1_gcd.f k t577 (IntKind.u64.wrap (x577001))).bind fun t578 => (some (t578 == 1))))
def whittleref1_Right.f (k : Nat) (a0_0 : Int) (a0_1 : Int) : Option (Bool) := if a0_1 < 1 then (whittleref1_Right.j0 k true a0_0 a0_1) else (if a0_1 > 1000000 then (whittleref1_Right.j0 k true a0_0 a0_1) else (if a0_0 < (-1000000000000) then (whittleref1_Right.j0 k true a0_0 a0_1) else (whittleref1_Right.j0 k (decide (a0_0 > 1000000000000)) a0_0 a0_1)))
theorem whittleref1_Right.mono_l : ∀ k, (∀ y0 y1 y2, LeO (whittleref1_Right.j0 k y0 y1 y2) (whittleref1_Right.j0 (k + 1) y0 y1 y2))
 | 0 => fun _ _ _ r h => by simp [whittleref1_Right.j0] at h
 | k + 1 => by
  have ih0 := whittleref1_Right.mono_l k
  ·intro y0 y1 y2
   unfold whittleref1_Right.j0
   repeat' first
   | (with_reducible exact ih0 _ _ _)
   | (with_reducible exact whittleref1_gcd.mono _ _ _)
   | (with_reducible exact LeO.refl _)
   | (with_reducible exact LeO.none _)
   | (with_reducible refine LeO.ite ?_ ?_)
   | (with_reducible refine LeO.bind ?_ (fun _ => ?_))
   | exact ih0 _ _ _
   | exact whittleref1_gcd.mono _ _ _
   | exact LeO.none _
   | refine LeO.ite ?_ ?_
   | refine LeO.bind ?_ (fun _ => ?_)
theorem whittleref1_Right.mono : ∀ a0 a1 k, LeO (whittleref1_Right.f k a0 a1) (whittleref1_Right.f (k + 1) a0 a1) := by
 intro a0 a1 k
 have ih0 := whittleref1_Right.mono_l k
 unfold whittleref1_Right.f
 repeat' first
   | (with_reducible exact ih0 _ _ _)
   | (with_reducible exact whittleref1_gcd.mono _ _ _)
   | (with_reducible exact LeO.refl _)
   | (with_reducible exact LeO.none _)
   | (with_reducible refine LeO.ite ?_ ?_)
   | (with_reducible refine LeO.bind ?_ (fun _ => ?_))
   | exact ih0 _ _ _
   | exact whittleref1_gcd.mono _ _ _
   | exact LeO.none _
   | refine LeO.ite ?_ ?_
   | refine LeO.bind ?_ (fun _ => ?_)
set_option maxHeartbeats 8000000 in
set_option maxRecDepth 100000 in
theorem whittleref1_Right.calls (k : Nat) (a0_0 : Int) (a0_1 : Int) (r : Bool) (w : World) (h : whittleref1_Right.f k a0_0 a0_1 = some r) :
  Calls Tryd.prog 51 #[.agg #[.int .i64 a0_0, .int .i64 a0_1]] w fun e w' => e = .returned (.bool r) ∧ Below w.heap.size w w' := by
 have hu23 := Tryd.underlying23
 have BX := Bx.start w
 have H : (if a0_1 < 1 then (whittleref1_Right.j0 k true a0_0 a0_1) else (if a0_1 > 1000000 then (whittleref1_Right.j0 k true a0_0 a0_1) else (if a0_0 < (-1000000000000) then (whittleref1_Right.j0 k true a0_0 a0_1) else (whittleref1_Right.j0 k (decide (a0_0 > 1000000000000)) a0_0 a0_1)))) = some r := h
 clear h
 have HC2 := Aside0.mk H
 clear H
 go_enter Tryd.func51, Tryd.ntmps51
 go_upto_region 1 with (first | ((with_reducible refine gate_dst (N := 1) rfl ?_); refine bxe 1 #[.int .i64 a0_0, .int .i64 a0_1] 23 rfl rfl gr ?_; clear BX; intro gb576 w3 GE576 BX))
 repeat (go_quiet (first | ((with_reducible refine gate_dst (N := 1) rfl ?_); refine bxe 1 #[.int .i64 a0_0, .int .i64 a0_1] 23 rfl rfl gr ?_; clear BX; intro gb576 w3 GE576 BX)); go_upto_region 1 with (first | ((with_reducible refine gate_dst (N := 1) rfl ?_); refine bxe 1 #[.int .i64 a0_0, .int .i64 a0_1] 23 rfl rfl gr ?_; clear BX; intro gb576 w3 GE576 BX)))
 (try simp only [Act.put, List.setIfInBounds_toArray, List.set_cons_zero, List.set_cons_succ])
 go_cut [20] (fun v20 wc => ∃ (kq : Nat) (x20_1 : Bool), v20 = .bool x20_1 ∧ Aside0 (whittleref1_Right.j0 kq x20_1 a0_0 a0_1 = some r) ∧ Aside0 (kq ≤ k) ∧ Bx w wc [(gb576, 23, #[.int .i64 a0_0, .int .i64 a0_1])])
 case first =>
  have H := HC2.out
  clear HC2
  by_cases c4 : a0_1 < 1
  ·rw [if_pos c4] at H
   have c4b0 : decide (a0_1 < 1) = true := decide_eq_true c4
   clear c4
   (first | rw [c4b0] | (simp only [i64_w, i32_w]; rw [c4b0]) | skip)
   have H' := Aside0.mk H
   clear H
   go_wp2
   repeat (go_quiet (fail); try go_wp2)
   go_meet
   case rel => exact ⟨_, (true), er, H', ⟨by first | omega | exact Nat.le_refl _⟩, bxs⟩
  ·rw [if_neg c4] at H
   have c4b0 : decide (a0_1 < 1) = false := decide_eq_false c4
   clear c4
   (first | rw [c4b0] | (simp only [i64_w, i32_w]; rw [c4b0]) | skip)
   by_cases c6 : a0_1 > 1000000
   ·rw [if_pos c6] at H
    have c6b0 : decide (1000000 < a0_1) = true := decide_eq_true c6
    clear c6
    have H' := Aside0.mk H
    clear H
    go_wp2
    repeat (go_quiet (fail); try go_wp2)
    go_meet
    case rel => exact ⟨_, (true), er, H', ⟨by first | omega | exact Nat.le_refl _⟩, bxs⟩
   ·rw [if_neg c6] at H
    have c6b0 : decide (1000000 < a0_1) = false := decide_eq_false c6
    clear c6
    by_cases c8 : a0_0 < (-1000000000000)
    ·rw [if_pos c8] at H
     have c8b0 : decide (a0_0 < (-1000000000000)) = true := decide_eq_true c8
     clear c8
     have H' := Aside0.mk H
     clear H
     go_wp2
     repeat (go_quiet (fail); try go_wp2)
     go_meet
     case rel => exact ⟨_, (true), er, H', ⟨by first | omega | exact Nat.le_refl _⟩, bxs⟩
    ·rw [if_neg c8] at H
     have c8b0 : decide (a0_0 < (-1000000000000)) = false := decide_eq_false c8
     clear c8
     have H' := Aside0.mk H
     clear H
     go_wp2
     repeat (go_quiet (fail); try go_wp2)
     go_meet
     case rel => exact ⟨_, (decide (a0_0 > 1000000000000)), er, H', ⟨by first | omega | exact Nat.le_refl _⟩, bxs⟩
 case rest =>
  clear HC2
  try clear p2
  try clear c4
  try clear c4b0
  try clear c5
  try clear c6
  try clear c6b0
  try clear c8
  try clear c8b0
  obtain ⟨kq, x20_1, rfl, HA, HJ1, BX⟩ := hcut
  cases kq with
  | zero => exact absurd HA.out (by simp [whittleref1_Right.j0])
  | succ kj1 =>
   have H := HA.out
   clear HA
   simp only [whittleref1_Right.j0] at H
   by_cases c11 : x20_1 = true
   ·subst c11
    have H1 : (some false) = some r := by rw [if_pos rfl] at H; exact H
    clear H
    have H := H1
    clear H1
    obtain rfl := Option.some.inj H
    go_wp2
    repeat (go_quiet (fail); try go_wp2)
    go_ret
    exact ⟨er2, bx_bl⟩
   ·replace c11 := Bool.eq_false_iff.mpr c11
    subst c11
    have H1 : ((whittleref1_far.f a0_0).bind fun t577 => ((whittleref1_gcd.f kj1 t577 (IntKind.u64.wrap (a0_1))).bind fun t578 => (some (t578 == 1)))) = some r := by rw [if_neg (show ¬ (false = true) by decide)] at H; exact H
    clear H
    have H := H1
    clear H1
    replace H := Option.bind_eq_some_iff.mp H
    obtain ⟨t577, A120, H⟩ := H
    have A12 := Aside0.mk A120
    clear A120
    replace H := Option.bind_eq_some_iff.mp H
    obtain ⟨t578, A130, H⟩ := H
    replace H : (some (t578 == 1)) = some r := H
    have A13 := Aside0.mk A130
    clear A130
    obtain rfl := Option.some.inj H
    go_wp2_with (first | (go_at_call 85; (with_reducible refine (whittleref1_far.calls a0_0 t577 _ A12.out).mono ?_); rintro e w' ⟨rfl, ⟨nd, rfl⟩⟩; (try first | exact ⟨rfl, _, World.drewN_drewN _ _ _⟩ | exact ⟨rfl, _, Eq.trans (World.drewN_drewN _ _ _) (congrArg (World.drewN _) (Nat.add_assoc _ _ _))⟩)) | (go_at_call 84; (with_reducible refine (whittleref1_gcd.calls kj1 t577 (IntKind.u64.wrap (a0_1)) t578 _ A13.out).mono ?_); rintro e w' ⟨rfl, ⟨nd, rfl⟩⟩; (try first | exact ⟨rfl, _, World.drewN_drewN _ _ _⟩ | exact ⟨rfl, _, Eq.trans (World.drewN_drewN _ _ _) (congrArg (World.drewN _) (Nat.add_assoc _ _ _))⟩)))
    repeat (go_quiet (first | (go_at_call 85; (with_reducible refine (whittleref1_far.calls a0_0 t577 _ A12.out).mono ?_); rintro e w' ⟨rfl, ⟨nd, rfl⟩⟩; (try first | exact ⟨rfl, _, World.drewN_drewN _ _ _⟩ | exact ⟨rfl, _, Eq.trans (World.drewN_drewN _ _ _) (congrArg (World.drewN _) (Nat.add_assoc _ _ _))⟩)) | (go_at_call 84; (with_reducible refine (whittleref1_gcd.calls kj1 t577 (IntKind.u64.wrap (a0_1)) t578 _ A13.out).mono ?_); rintro e w' ⟨rfl, ⟨nd, rfl⟩⟩; (try first | exact ⟨rfl, _, World.drewN_drewN _ _ _⟩ | exact ⟨rfl, _, Eq.trans (World.drewN_drewN _ _ _) (congrArg (World.drewN _) (Nat.add_assoc _ _ _))⟩))); try go_wp2_with (first | (go_at_call 85; (with_reducible refine (whittleref1_far.calls a0_0 t577 _ A12.out).mono ?_); rintro e w' ⟨rfl, ⟨nd, rfl⟩⟩; (try first | exact ⟨rfl, _, World.drewN_drewN _ _ _⟩ | exact ⟨rfl, _, Eq.trans (World.drewN_drewN _ _ _) (congrArg (World.drewN _) (Nat.add_assoc _ _ _))⟩)) | (go_at_call 84; (with_reducible refine (whittleref1_gcd.calls kj1 t577 (IntKind.u64.wrap (a0_1)) t578 _ A13.out).mono ?_); rintro e w' ⟨rfl, ⟨nd, rfl⟩⟩; (try first | exact ⟨rfl, _, World.drewN_drewN _ _ _⟩ | exact ⟨rfl, _, Eq.trans (World.drewN_drewN _ _ _) (congrArg (World.drewN _) (Nat.add_assoc _ _ _))⟩))))
    go_ret
    exact ⟨er2, bx_bl⟩
end
section
/-! ### whittleref1_Of: function 53 -/
def whittleref1_Of.f (k : Nat) (a0_0 : Int) (a0_1 : Int) : Option (Int × Int) := (whittleref1_Right.f k a0_0 a0_1).bind fun t584 => (if t584 = true then (some (a0_0, a0_1)) else (some (0, 1)))
theorem whittleref1_Of.mono : ∀ a0 a1 k, LeO (whittleref1_Of.f k a0 a1) (whittleref1_Of.f (k + 1) a0 a1) := by
 intro a0 a1 k
 unfold whittleref1_Of.f
 repeat' first
   | (with_reducible exact whittleref1_Right.mono _ _ _)
   | (with_reducible exact LeO.refl _)
   | (with_reducible exact LeO.none _)
   | (with_reducible refine LeO.ite ?_ ?_)
   | (with_reducible refine LeO.bind ?_ (fun _ => ?_))
   | exact whittleref1_Right.mono _ _ _
   | exact LeO.none _
   | refine LeO.ite ?_ ?_
   | refine LeO.bind ?_ (fun _ => ?_)
set_option maxHeartbeats 8000000 in
set_option maxRecDepth 100000 in
theorem whittleref1_Of.calls (k : Nat) (a0_0 : Int) (a0_1 : Int) (r1 : Int) (r2 : Int) (w : World) (h : whittleref1_Of.f k a0_0 a0_1 = some (r1, r2)) :
  Calls Tryd.prog 53 #[.agg #[.int .i64 a0_0, .int .i64 a0_1]] w fun e w' => e = .returned (.agg #[.int .i64 r1, .int .i64 r2]) ∧ Below w.heap.size w w' := by
 have hu23 := Tryd.underlying23
 have BX := Bx.start w
 have H : ((whittleref1_Right.f k a0_0 a0_1).bind fun t584 => (if t584 = true then (some (a0_0, a0_1)) else (some (0, 1)))) = some (r1, r2) := h
 clear h
 replace H := Option.bind_eq_some_iff.mp H
 obtain ⟨t584, A20, H⟩ := H
 replace H : (if t584 = true then (some (a0_0, a0_1)) else (some (0, 1))) = some (r1, r2) := H
 have A2 := Aside0.mk A20
 clear A20
 by_cases c3 : t584 = true
 ·subst c3
  have H1 : (some (a0_0, a0_1)) = some (r1, r2) := by rw [if_pos rfl] at H; exact H
  clear H
  have H := H1
  clear H1
  simp only [Option.some.injEq, Prod.mk.injEq] at H
  obtain ⟨rfl, rfl⟩ := H
  go_enter Tryd.func53, Tryd.ntmps53
  go_wp2_with (first | ((with_reducible refine gate_dst (N := 1) rfl ?_); refine bxe 1 #[.int .i64 a0_0, .int .i64 a0_1] 23 rfl rfl gr ?_; clear BX; intro gb582 w4 GE582 BX) | ((with_reducible refine gate_dst (N := 2) rfl ?_); refine bxe 2 #[.int .i64 0, .int .i64 0] 23 rfl rfl gr ?_; clear BX; intro gb583 w5 GE583 BX) | ((with_reducible refine gate_callee (f := 51) rfl ?_); refine goesL_ (some 5) rfl rfl Tryd.func51 kr rfl #[.agg #[.int .i64 a0_0, .int .i64 a0_1]] rfl ga ?_; (with_reducible refine (whittleref1_Right.calls k a0_0 a0_1 true _ A2.out).mono ?_); rintro e w8 ⟨rfl, hb⟩; refine ⟨_, rfl, ?_⟩; replace BX := bx_call hb; clear hb))
  refine bodyPost_ret (results_cell_row rfl _ _ gb583 23 #[.int .i64 a0_0, .int .i64 a0_1] (0, 0) _ rfl bx_get Tryd.underlying23 rfl kr) rfl ?_
  exact ⟨er2, bx_bl⟩
 ·replace c3 := Bool.eq_false_iff.mpr c3
  subst c3
  have H1 : (some (0, 1)) = some (r1, r2) := by rw [if_neg (show ¬ (false = true) by decide)] at H; exact H
  clear H
  have H := H1
  clear H1
  simp only [Option.some.injEq, Prod.mk.injEq] at H
  obtain ⟨rfl, rfl⟩ := H
  go_enter Tryd.func53, Tryd.ntmps53
  go_wp2_with (first | ((with_reducible refine gate_dst (N := 1) rfl ?_); refine bxe 1 #[.int .i64 a0_0, .int .i64 a0_1] 23 rfl rfl gr ?_; clear BX; intro gb582 w11 GE582 BX) | ((with_reducible refine gate_dst (N := 2) rfl ?_); refine bxe 2 #[.int .i64 0, .int .i64 0] 23 rfl rfl gr ?_; clear BX; intro gb583 w12 GE583 BX) | ((with_reducible refine gate_callee (f := 51) rfl ?_); refine goesL_ (some 5) rfl rfl Tryd.func51 kr rfl #[.agg #[.int .i64 a0_0, .int .i64 a0_1]] rfl ga ?_; (with_reducible refine (whittleref1_Right.calls k a0_0 a0_1 false _ A2.out).mono ?_); rintro e w15 ⟨rfl, hb⟩; refine ⟨_, rfl, ?_⟩; replace BX := bx_call hb; clear hb))
  refine bodyPost_ret (results_cell_row rfl _ _ gb583 23 #[.int .i64 0, .int .i64 1] (0, 0) _ rfl bx_get Tryd.underlying23 rfl kr) rfl ?_
  exact ⟨er2, bx_bl⟩
end
section
/-! ### whittleref1_made: function 90 -/
def whittleref1_made.j0 : Nat → Bool → Int → Int → Bool → Option (Int × Int × Bool)
 | 0, _, _, _, _ => none
 | k + 1, x0, x1, x2, x23 => if x23 = true then (some (0, 0, false)) else (if x0 = true then (some (wrap64 (-(wrap64 (x1))), wrap64 (x2), true)) else (some (wrap64 (x1), wrap64 (x2), true)))
def whittleref1_made.f (k : Nat) (a0 : Bool) (a1 : Int) (a2 : Int) : Option (Int × Int × Bool) := (whittleref1_gcd.f k a1 a2).bind fun t677 => (if t677 = 0 then (none) else (if (IntKind.u64.wrap (Int.tdiv a1 t677)) > 1000000000000 then (whittleref1_made.j0 k a0 (IntKind.u64.wrap (Int.tdiv a1 t677)) (IntKind.u64.wrap (Int.tdiv a2 t677)) true) else (whittleref1_made.j0 k a0 (IntKind.u64.wrap (Int.tdiv a1 t677)) (IntKind.u64.wrap (Int.tdiv a2 t677)) (decide ((IntKind.u64.wrap (Int.tdiv a2 t677)) > 1000000)))))
theorem whittleref1_made.mono_l : ∀ k, (∀ y0 y1 y2 y3, LeO (whittleref1_made.j0 k y0 y1 y2 y3) (whittleref1_made.j0 (k + 1) y0 y1 y2 y3))
 | 0 => fun _ _ _ _ r h => by simp [whittleref1_made.j0] at h
 | k + 1 => by
  have ih0 := whittleref1_made.mono_l k
  ·intro y0 y1 y2 y3
   unfold whittleref1_made.j0
   repeat' first
   | (with_reducible exact ih0 _ _ _ _)
   | (with_reducible exact whittleref1_gcd.mono _ _ _)
   | (with_reducible exact LeO.refl _)
   | (with_reducible exact LeO.none _)
   | (with_reducible refine LeO.ite ?_ ?_)
   | (with_reducible refine LeO.bind ?_ (fun _ => ?_))
   | exact ih0 _ _ _ _
   | exact whittleref1_gcd.mono _ _ _
   | exact LeO.none _
   | refine LeO.ite ?_ ?_
   | refine LeO.bind ?_ (fun _ => ?_)
theorem whittleref1_made.mono : ∀ a0 a1 a2 k, LeO (whittleref1_made.f k a0 a1 a2) (whittleref1_made.f (k + 1) a0 a1 a2) := by
 intro a0 a1 a2 k
 have ih0 := whittleref1_made.mono_l k
 unfold whittleref1_made.f
 repeat' first
   | (with_reducible exact ih0 _ _ _ _)
   | (with_reducible exact whittleref1_gcd.mono _ _ _)
   | (with_reducible exact LeO.refl _)
   | (with_reducible exact LeO.none _)
   | (with_reducible refine LeO.ite ?_ ?_)
   | (with_reducible refine LeO.bind ?_ (fun _ => ?_))
   | exact ih0 _ _ _ _
   | exact whittleref1_gcd.mono _ _ _
   | exact LeO.none _
   | refine LeO.ite ?_ ?_
   | refine LeO.bind ?_ (fun _ => ?_)
set_option maxHeartbeats 8000000 in
set_option maxRecDepth 100000 in
theorem whittleref1_made.calls (k : Nat) (a0 : Bool) (a1 : Int) (a2 : Int) (r1 : Int) (r2 : Int) (r3 : Bool) (w : World) (h : whittleref1_made.f k a0 a1 a2 = some (r1, r2, r3)) :
  Calls Tryd.prog 90 #[.bool a0, .int .u64 a1, .int .u64 a2] w fun e w' => e = .returned (.tuple #[.agg #[.int .i64 r1, .int .i64 r2], .bool r3]) ∧ Below w.heap.size w w' := by
 have hu23 := Tryd.underlying23
 have BX := Bx.start w
 have H : ((whittleref1_gcd.f k a1 a2).bind fun t677 => (if t677 = 0 then (none) else (if (IntKind.u64.wrap (Int.tdiv a1 t677)) > 1000000000000 then (whittleref1_made.j0 k a0 (IntKind.u64.wrap (Int.tdiv a1 t677)) (IntKind.u64.wrap (Int.tdiv a2 t677)) true) else (whittleref1_made.j0 k a0 (IntKind.u64.wrap (Int.tdiv a1 t677)) (IntKind.u64.wrap (Int.tdiv a2 t677)) (decide ((IntKind.u64.wrap (Int.tdiv a2 t677)) > 1000000)))))) = some (r1, r2, r3) := h
 clear h
 replace H := Option.bind_eq_some_iff.mp H
 obtain ⟨t677, A40, H⟩ := H
 replace H : (if t677 = 0 then (none) else (if (IntKind.u64.wrap (Int.tdiv a1 t677)) > 1000000000000 then (whittleref1_made.j0 k a0 (IntKind.u64.wrap (Int.tdiv a1 t677)) (IntKind.u64.wrap (Int.tdiv a2 t677)) true) else (whittleref1_made.j0 k a0 (IntKind.u64.wrap (Int.tdiv a1 t677)) (IntKind.u64.wrap (Int.tdiv a2 t677)) (decide ((IntKind.u64.wrap (Int.tdiv a2 t677)) > 1000000))))) = some (r1, r2, r3) := H
 have A4 := Aside0.mk A40
 clear A40
 by_cases c5 : t677 = 0
 ·rw [if_pos c5] at H
  exact absurd H (by simp)
 ·rw [if_neg c5] at H
  have c5b0 : (t677 == 0) = false := beq_eq_false_iff_ne.mpr c5
  have c5b1 : (t677 != 0) = true := bne_iff_ne.mpr c5
  have HC6 := Aside0.mk H
  clear H
  go_enter Tryd.func90, Tryd.ntmps90
  go_upto_region 4 with (first | ((with_reducible refine gate_dst (N := 6) rfl ?_); refine bxe 6 #[.int .i64 0, .int .i64 0] 23 rfl rfl gr ?_; clear BX; intro gb676 w7 GE676 BX) | ((with_reducible refine gate_callee (f := 84) rfl ?_); refine goesL_ (some 11) rfl rfl Tryd.func84 kr rfl #[.int .u64 a1, .int .u64 a2] rfl ga ?_; (with_reducible refine (whittleref1_gcd.calls k a1 a2 t677 _ A4.out).mono ?_); rintro e w' ⟨rfl, ⟨nd, rfl⟩⟩; refine ⟨_, rfl, ?_⟩))
  (try simp only [Act.put, List.setIfInBounds_toArray, List.set_cons_zero, List.set_cons_succ])
  go_cut [23] (fun v23 wc => ∃ (kq : Nat) (x23_5 : Bool), v23 = .bool x23_5 ∧ Aside0 (whittleref1_made.j0 kq a0 (IntKind.u64.wrap (Int.tdiv a1 t677)) (IntKind.u64.wrap (Int.tdiv a2 t677)) x23_5 = some (r1, r2, r3)) ∧ Aside0 (kq ≤ k) ∧ Bx w wc [(gb676, 23, #[.int .i64 0, .int .i64 0])])
  case first =>
   have H := HC6.out
   clear HC6
   by_cases c8 : (IntKind.u64.wrap (Int.tdiv a1 t677)) > 1000000000000
   ·rw [if_pos c8] at H
    have c8b0 : decide (1000000000000 < (IntKind.u64.wrap (Int.tdiv a1 t677))) = true := decide_eq_true c8
    clear c8
    (first | rw [c8b0] | (simp only [i64_w, i32_w]; rw [c8b0]) | skip)
    have H' := Aside0.mk H
    clear H
    go_wp2
    go_meet
    case rel => exact ⟨_, (true), er, H', ⟨by first | omega | exact Nat.le_refl _⟩, bxs⟩
   ·rw [if_neg c8] at H
    have c8b0 : decide (1000000000000 < (IntKind.u64.wrap (Int.tdiv a1 t677))) = false := decide_eq_false c8
    clear c8
    (first | rw [c8b0] | (simp only [i64_w, i32_w]; rw [c8b0]) | skip)
    have H' := Aside0.mk H
    clear H
    go_wp2
    go_meet
    case rel => exact ⟨_, (decide ((IntKind.u64.wrap (Int.tdiv a2 t677)) > 1000000)), er, H', ⟨by first | omega | exact Nat.le_refl _⟩, bxs⟩
  case rest =>
   clear HC6
   try clear p2
   try clear c5
   try clear c5b0
   try clear c5b1
   try clear c8
   try clear c8b0
   obtain ⟨kq, x23_5, rfl, HA, HJ5, BX⟩ := hcut
   cases kq with
   | zero => exact absurd HA.out (by simp [whittleref1_made.j0])
   | succ kj5 =>
    have H := HA.out
    clear HA
    simp only [whittleref1_made.j0] at H
    by_cases c9 : x23_5 = true
    ·subst c9
     have H1 : (some (0, 0, false)) = some (r1, r2, r3) := by rw [if_pos rfl] at H; exact H
     clear H
     have H := H1
     clear H1
     simp only [Option.some.injEq, Prod.mk.injEq] at H
     obtain ⟨rfl, rfl, rfl⟩ := H
     go_wp2
     refine bodyPost_ret (results_ct rfl _ _ gb676 23 #[.int .i64 0, .int .i64 0] (0, 0) _ rfl bx_get Tryd.underlying23 rfl kr) rfl ?_
     exact ⟨er2, bx_bl⟩
    ·replace c9 := Bool.eq_false_iff.mpr c9
     subst c9
     have H1 : (if a0 = true then (some (wrap64 (-(wrap64 ((IntKind.u64.wrap (Int.tdiv a1 t677))))), wrap64 ((IntKind.u64.wrap (Int.tdiv a2 t677))), true)) else (some (wrap64 ((IntKind.u64.wrap (Int.tdiv a1 t677))), wrap64 ((IntKind.u64.wrap (Int.tdiv a2 t677))), true))) = some (r1, r2, r3) := by rw [if_neg (show ¬ (false = true) by decide)] at H; exact H
     clear H
     have H := H1
     clear H1
     by_cases c11 : a0 = true
     ·subst c11
      have H1 : (some (wrap64 (-(wrap64 ((IntKind.u64.wrap (Int.tdiv a1 t677))))), wrap64 ((IntKind.u64.wrap (Int.tdiv a2 t677))), true)) = some (r1, r2, r3) := by rw [if_pos rfl] at H; exact H
      clear H
      have H := H1
      clear H1
      simp only [Option.some.injEq, Prod.mk.injEq] at H
      obtain ⟨rfl, rfl, rfl⟩ := H
      go_wp2
      refine bodyPost_ret (results_ct rfl _ _ gb676 23 #[.int .i64 (wrap64 (-(wrap64 ((IntKind.u64.wrap (Int.tdiv a1 t677)))))), .int .i64 (wrap64 ((IntKind.u64.wrap (Int.tdiv a2 t677))))] (0, 0) _ rfl bx_get Tryd.underlying23 rfl kr) rfl ?_
      exact ⟨er2, bx_bl⟩
     ·replace c11 := Bool.eq_false_iff.mpr c11
      subst c11
      have H1 : (some (wrap64 ((IntKind.u64.wrap (Int.tdiv a1 t677))), wrap64 ((IntKind.u64.wrap (Int.tdiv a2 t677))), true)) = some (r1, r2, r3) := by rw [if_neg (show ¬ (false = true) by decide)] at H; exact H
      clear H
      have H := H1
      clear H1
      simp only [Option.some.injEq, Prod.mk.injEq] at H
      obtain ⟨rfl, rfl, rfl⟩ := H
      go_wp2
      refine bodyPost_ret (results_ct rfl _ _ gb676 23 #[.int .i64 (wrap64 ((IntKind.u64.wrap (Int.tdiv a1 t677)))), .int .i64 (wrap64 ((IntKind.u64.wrap (Int.tdiv a2 t677))))] (0, 0) _ rfl bx_get Tryd.underlying23 rfl kr) rfl ?_
      exact ⟨er2, bx_bl⟩
end
section
/-! ### whittleref1_Cmp: function 71 -/
def whittleref1_Cmp.f (k : Nat) (a0_0 : Int) (a0_1 : Int) (a1_0 : Int) (a1_1 : Int) : Option (Int) := (whittleref1_Of.f k a0_0 a0_1).bind fun bt883 => ((whittleref1_Of.f k a1_0 a1_1).bind fun bt885 => (if (wrap64 (bt883.1 * bt885.2)) < (wrap64 (bt885.1 * bt883.2)) then (some (-1)) else (if (wrap64 (bt883.1 * bt885.2)) > (wrap64 (bt885.1 * bt883.2)) then (some 1) else (some 0))))
theorem whittleref1_Cmp.mono : ∀ a0 a1 a2 a3 k, LeO (whittleref1_Cmp.f k a0 a1 a2 a3) (whittleref1_Cmp.f (k + 1) a0 a1 a2 a3) := by
 intro a0 a1 a2 a3 k
 unfold whittleref1_Cmp.f
 repeat' first
   | (with_reducible exact whittleref1_Of.mono _ _ _)
   | (with_reducible exact LeO.refl _)
   | (with_reducible exact LeO.none _)
   | (with_reducible refine LeO.ite ?_ ?_)
   | (with_reducible refine LeO.bind ?_ (fun _ => ?_))
   | exact whittleref1_Of.mono _ _ _
   | exact LeO.none _
   | refine LeO.ite ?_ ?_
   | refine LeO.bind ?_ (fun _ => ?_)
set_option maxHeartbeats 8000000 in
set_option maxRecDepth 100000 in
theorem whittleref1_Cmp.calls (k : Nat) (a0_0 : Int) (a0_1 : Int) (a1_0 : Int) (a1_1 : Int) (r : Int) (w : World) (h : whittleref1_Cmp.f k a0_0 a0_1 a1_0 a1_1 = some r) :
  Calls Tryd.prog 71 #[.agg #[.int .i64 a0_0, .int .i64 a0_1], .agg #[.int .i64 a1_0, .int .i64 a1_1]] w fun e w' => e = .returned (.int .i64 r) ∧ Below w.heap.size w w' := by
 have hu23 := Tryd.underlying23
 have BX := Bx.start w
 have H : ((whittleref1_Of.f k a0_0 a0_1).bind fun bt883 => ((whittleref1_Of.f k a1_0 a1_1).bind fun bt885 => (if (wrap64 (bt883.1 * bt885.2)) < (wrap64 (bt885.1 * bt883.2)) then (some (-1)) else (if (wrap64 (bt883.1 * bt885.2)) > (wrap64 (bt885.1 * bt883.2)) then (some 1) else (some 0))))) = some r := h
 clear h
 replace H := Option.bind_eq_some_iff.mp H
 obtain ⟨⟨t883, t884⟩, A30, H⟩ := H
 have A3 := Aside0.mk A30
 clear A30
 replace H := Option.bind_eq_some_iff.mp H
 obtain ⟨⟨t885, t886⟩, A40, H⟩ := H
 replace H : (if (wrap64 (t883 * t886)) < (wrap64 (t885 * t884)) then (some (-1)) else (if (wrap64 (t883 * t886)) > (wrap64 (t885 * t884)) then (some 1) else (some 0))) = some r := H
 have A4 := Aside0.mk A40
 clear A40
 by_cases c5 : (wrap64 (t883 * t886)) < (wrap64 (t885 * t884))
 ·rw [if_pos c5] at H
  have c5b0 : decide ((wrap64 (t883 * t886)) < (wrap64 (t885 * t884))) = true := decide_eq_true c5
  clear c5
  obtain rfl := Option.some.inj H
  go_enter Tryd.func71, Tryd.ntmps71
  go_wp2_with (first | ((with_reducible refine gate_dst (N := 2) rfl ?_); refine bxe 2 #[.int .i64 a0_0, .int .i64 a0_1] 23 rfl rfl gr ?_; clear BX; intro gb881 w6 GE881 BX) | ((with_reducible refine gate_dst (N := 3) rfl ?_); refine bxe 3 #[.int .i64 a1_0, .int .i64 a1_1] 23 rfl rfl gr ?_; clear BX; intro gb882 w7 GE882 BX) | ((with_reducible refine gate_callee (f := 53) rfl ?_); refine goesL_ (some 8) rfl rfl Tryd.func53 kr rfl #[.agg #[.int .i64 a0_0, .int .i64 a0_1]] rfl ga ?_; (with_reducible refine (whittleref1_Of.calls k a0_0 a0_1 t883 t884 _ A3.out).mono ?_); rintro e w10 ⟨rfl, hb⟩; refine ⟨_, rfl, ?_⟩; replace BX := bx_call hb; clear hb) | ((with_reducible refine gate_callee (f := 53) rfl ?_); refine goesL_ (some 10) rfl rfl Tryd.func53 kr rfl #[.agg #[.int .i64 a1_0, .int .i64 a1_1]] rfl ga ?_; (with_reducible refine (whittleref1_Of.calls k a1_0 a1_1 t885 t886 _ A4.out).mono ?_); rintro e w13 ⟨rfl, hb⟩; refine ⟨_, rfl, ?_⟩; replace BX := bx_call hb; clear hb))
  go_ret
  exact ⟨er2, bx_bl⟩
 ·rw [if_neg c5] at H
  have c5b0 : decide ((wrap64 (t883 * t886)) < (wrap64 (t885 * t884))) = false := decide_eq_false c5
  clear c5
  by_cases c16 : (wrap64 (t883 * t886)) > (wrap64 (t885 * t884))
  ·rw [if_pos c16] at H
   have c16b0 : decide ((wrap64 (t885 * t884)) < (wrap64 (t883 * t886))) = true := decide_eq_true c16
   clear c16
   obtain rfl := Option.some.inj H
   go_enter Tryd.func71, Tryd.ntmps71
   go_wp2_with (first | ((with_reducible refine gate_dst (N := 2) rfl ?_); refine bxe 2 #[.int .i64 a0_0, .int .i64 a0_1] 23 rfl rfl gr ?_; clear BX; intro gb881 w17 GE881 BX) | ((with_reducible refine gate_dst (N := 3) rfl ?_); refine bxe 3 #[.int .i64 a1_0, .int .i64 a1_1] 23 rfl rfl gr ?_; clear BX; intro gb882 w18 GE882 BX) | ((with_reducible refine gate_callee (f := 53) rfl ?_); refine goesL_ (some 8) rfl rfl Tryd.func53 kr rfl #[.agg #[.int .i64 a0_0, .int .i64 a0_1]] rfl ga ?_; (with_reducible refine (whittleref1_Of.calls k a0_0 a0_1 t883 t884 _ A3.out).mono ?_); rintro e w21 ⟨rfl, hb⟩; refine ⟨_, rfl, ?_⟩; replace BX := bx_call hb; clear hb) | ((with_reducible refine gate_callee (f := 53) rfl ?_); refine goesL_ (some 10) rfl rfl Tryd.func53 kr rfl #[.agg #[.int .i64 a1_0, .int .i64 a1_1]] rfl ga ?_; (with_reducible refine (whittleref1_Of.calls k a1_0 a1_1 t885 t886 _ A4.out).mono ?_); rintro e w24 ⟨rfl, hb⟩; refine ⟨_, rfl, ?_⟩; replace BX := bx_call hb; clear hb))
   go_ret
   exact ⟨er2, bx_bl⟩
  ·rw [if_neg c16] at H
   have c16b0 : decide ((wrap64 (t885 * t884)) < (wrap64 (t883 * t886))) = false := decide_eq_false c16
   clear c16
   obtain rfl := Option.some.inj H
   go_enter Tryd.func71, Tryd.ntmps71
   go_wp2_with (first | ((with_reducible refine gate_dst (N := 2) rfl ?_); refine bxe 2 #[.int .i64 a0_0, .int .i64 a0_1] 23 rfl rfl gr ?_; clear BX; intro gb881 w27 GE881 BX) | ((with_reducible refine gate_dst (N := 3) rfl ?_); refine bxe 3 #[.int .i64 a1_0, .int .i64 a1_1] 23 rfl rfl gr ?_; clear BX; intro gb882 w28 GE882 BX) | ((with_reducible refine gate_callee (f := 53) rfl ?_); refine goesL_ (some 8) rfl rfl Tryd.func53 kr rfl #[.agg #[.int .i64 a0_0, .int .i64 a0_1]] rfl ga ?_; (with_reducible refine (whittleref1_Of.calls k a0_0 a0_1 t883 t884 _ A3.out).mono ?_); rintro e w31 ⟨rfl, hb⟩; refine ⟨_, rfl, ?_⟩; replace BX := bx_call hb; clear hb) | ((with_reducible refine gate_callee (f := 53) rfl ?_); refine goesL_ (some 10) rfl rfl Tryd.func53 kr rfl #[.agg #[.int .i64 a1_0, .int .i64 a1_1]] rfl ga ?_; (with_reducible refine (whittleref1_Of.calls k a1_0 a1_1 t885 t886 _ A4.out).mono ?_); rintro e w34 ⟨rfl, hb⟩; refine ⟨_, rfl, ?_⟩; replace BX := bx_call hb; clear hb))
   go_ret
   exact ⟨er2, bx_bl⟩
end
section
/-! ### whittleref1_Neg: function 76 -/
def whittleref1_Neg.f (k : Nat) (a0_0 : Int) (a0_1 : Int) : Option (Int × Int) := (whittleref1_Of.f k a0_0 a0_1).bind fun bt1239 => (some (wrap64 (-bt1239.1), bt1239.2))
theorem whittleref1_Neg.mono : ∀ a0 a1 k, LeO (whittleref1_Neg.f k a0 a1) (whittleref1_Neg.f (k + 1) a0 a1) := by
 intro a0 a1 k
 unfold whittleref1_Neg.f
 repeat' first
   | (with_reducible exact whittleref1_Of.mono _ _ _)
   | (with_reducible exact LeO.refl _)
   | (with_reducible exact LeO.none _)
   | (with_reducible refine LeO.ite ?_ ?_)
   | (with_reducible refine LeO.bind ?_ (fun _ => ?_))
   | exact whittleref1_Of.mono _ _ _
   | exact LeO.none _
   | refine LeO.ite ?_ ?_
   | refine LeO.bind ?_ (fun _ => ?_)
set_option maxHeartbeats 8000000 in
set_option maxRecDepth 100000 in
theorem whittleref1_Neg.calls (k : Nat) (a0_0 : Int) (a0_1 : Int) (r1 : Int) (r2 : Int) (w : World) (h : whittleref1_Neg.f k a0_0 a0_1 = some (r1, r2)) :
  Calls Tryd.prog 76 #[.agg #[.int .i64 a0_0, .int .i64 a0_1]] w fun e w' => e = .returned (.agg #[.int .i64 r1, .int .i64 r2]) ∧ Below w.heap.size w w' := by
 have hu23 := Tryd.underlying23
 have BX := Bx.start w
 have H : ((whittleref1_Of.f k a0_0 a0_1).bind fun bt1239 => (some (wrap64 (-bt1239.1), bt1239.2))) = some (r1, r2) := h
 clear h
 replace H := Option.bind_eq_some_iff.mp H
 obtain ⟨⟨t1239, t1240⟩, A20, H⟩ := H
 replace H : (some (wrap64 (-t1239), t1240)) = some (r1, r2) := H
 have A2 := Aside0.mk A20
 clear A20
 simp only [Option.some.injEq, Prod.mk.injEq] at H
 obtain ⟨rfl, rfl⟩ := H
 go_enter Tryd.func76, Tryd.ntmps76
 go_wp2_with (first | ((with_reducible refine gate_dst (N := 1) rfl ?_); refine bxe 1 #[.int .i64 a0_0, .int .i64 a0_1] 23 rfl rfl gr ?_; clear BX; intro gb1237 w3 GE1237 BX) | ((with_reducible refine gate_dst (N := 2) rfl ?_); refine bxe 2 #[.int .i64 0, .int .i64 0] 23 rfl rfl gr ?_; clear BX; intro gb1238 w4 GE1238 BX) | ((with_reducible refine gate_callee (f := 53) rfl ?_); refine goesL_ (some 4) rfl rfl Tryd.func53 kr rfl #[.agg #[.int .i64 a0_0, .int .i64 a0_1]] rfl ga ?_; (with_reducible refine (whittleref1_Of.calls k a0_0 a0_1 t1239 t1240 _ A2.out).mono ?_); rintro e w7 ⟨rfl, hb⟩; refine ⟨_, rfl, ?_⟩; replace BX := bx_call hb; clear hb))
 refine bodyPost_ret (results_cell_row rfl _ _ gb1238 23 #[.int .i64 (wrap64 (-t1239)), .int .i64 t1240] (0, 0) _ rfl bx_get Tryd.underlying23 rfl kr) rfl ?_
 exact ⟨er2, bx_bl⟩
end
section
/-! ### whittleref1_Div: function 77 -/
def whittleref1_Div.f (k : Nat) (a0_0 : Int) (a0_1 : Int) (a1_0 : Int) (a1_1 : Int) : Option (Int × Int × Bool) := (whittleref1_Of.f k a0_0 a0_1).bind fun bt1244 => ((whittleref1_Of.f k a1_0 a1_1).bind fun bt1246 => (if bt1246.1 = 0 then (some (0, 0, false)) else (if bt1244.1 = 0 then (some (bt1244.1, bt1244.2, true)) else ((whittleref1_far.f bt1244.1).bind fun t1248 => ((whittleref1_far.f bt1246.1).bind fun t1249 => ((whittleref1_gcd.f k t1248 t1249).bind fun t1250 => (if t1250 = 0 then (none) else ((whittleref1_gcd.f k (IntKind.u64.wrap (bt1246.2)) (IntKind.u64.wrap (bt1244.2))).bind fun t1251 => (if t1251 = 0 then (none) else (if (IntKind.u64.wrap (Int.tdiv (IntKind.u64.wrap (bt1246.2)) t1251)) = 0 then (none) else (if (IntKind.u64.wrap (Int.tdiv t1248 t1250)) > (IntKind.u64.wrap (Int.tdiv (1000000000000 : Int) (IntKind.u64.wrap (Int.tdiv (IntKind.u64.wrap (bt1246.2)) t1251)))) then (some (0, 0, false)) else (if (IntKind.u64.wrap (Int.tdiv t1249 t1250)) = 0 then (none) else (if (IntKind.u64.wrap (Int.tdiv (IntKind.u64.wrap (bt1244.2)) t1251)) > (IntKind.u64.wrap (Int.tdiv (1000000 : Int) (IntKind.u64.wrap (Int.tdiv t1249 t1250)))) then (some (0, 0, false)) else ((whittleref1_made.f k ((decide (bt1244.1 < 0)) != (decide (bt1246.1 < 0))) (IntKind.u64.wrap ((IntKind.u64.wrap (Int.tdiv t1248 t1250)) * (IntKind.u64.wrap (Int.tdiv (IntKind.u64.wrap (bt1246.2)) t1251)))) (IntKind.u64.wrap ((IntKind.u64.wrap (Int.tdiv (IntKind.u64.wrap (bt1244.2)) t1251)) * (IntKind.u64.wrap (Int.tdiv t1249 t1250))))).bind fun bt1252 => (some (bt1252.1, bt1252.2.1, bt1252.2.2))))))))))))))))
theorem whittleref1_Div.mono : ∀ a0 a1 a2 a3 k, LeO (whittleref1_Div.f k a0 a1 a2 a3) (whittleref1_Div.f (k + 1) a0 a1 a2 a3) := by
 intro a0 a1 a2 a3 k
 unfold whittleref1_Div.f
 repeat' first
   | (with_reducible exact whittleref1_Of.mono _ _ _)
   | (with_reducible exact whittleref1_gcd.mono _ _ _)
   | (with_reducible exact whittleref1_made.mono _ _ _ _)
   | (with_reducible exact LeO.refl _)
   | (with_reducible exact LeO.none _)
   | (with_reducible refine LeO.ite ?_ ?_)
   | (with_reducible refine LeO.bind ?_ (fun _ => ?_))
   | exact whittleref1_Of.mono _ _ _
   | exact whittleref1_gcd.mono _ _ _
   | exact whittleref1_made.mono _ _ _ _
   | exact LeO.none _
   | refine LeO.ite ?_ ?_
   | refine LeO.bind ?_ (fun _ => ?_)
set_option maxHeartbeats 8000000 in
set_option maxRecDepth 100000 in
theorem whittleref1_Div.calls (k : Nat) (a0_0 : Int) (a0_1 : Int) (a1_0 : Int) (a1_1 : Int) (r1 : Int) (r2 : Int) (r3 : Bool) (w : World) (h : whittleref1_Div.f k a0_0 a0_1 a1_0 a1_1 = some (r1, r2, r3)) :
  Calls Tryd.prog 77 #[.agg #[.int .i64 a0_0, .int .i64 a0_1], .agg #[.int .i64 a1_0, .int .i64 a1_1]] w fun e w' => e = .returned (.tuple #[.agg #[.int .i64 r1, .int .i64 r2], .bool r3]) ∧ Below w.heap.size w w' := by
 have hu23 := Tryd.underlying23
 have BX := Bx.start w
 have H : ((whittleref1_Of.f k a0_0 a0_1).bind fun bt1244 => ((whittleref1_Of.f k a1_0 a1_1).bind fun bt1246 => (if bt1246.1 = 0 then (some (0, 0, false)) else (if bt1244.1 = 0 then (some (bt1244.1, bt1244.2, true)) else ((whittleref1_far.f bt1244.1).bind fun t1248 => ((whittleref1_far.f bt1246.1).bind fun t1249 => ((whittleref1_gcd.f k t1248 t1249).bind fun t1250 => (if t1250 = 0 then (none) else ((whittleref1_gcd.f k (IntKind.u64.wrap (bt1246.2)) (IntKind.u64.wrap (bt1244.2))).bind fun t1251 => (if t1251 = 0 then (none) else (if (IntKind.u64.wrap (Int.tdiv (IntKind.u64.wrap (bt1246.2)) t1251)) = 0 then (none) else (if (IntKind.u64.wrap (Int.tdiv t1248 t1250)) > (IntKind.u64.wrap (Int.tdiv (1000000000000 : Int) (IntKind.u64.wrap (Int.tdiv (IntKind.u64.wrap (bt1246.2)) t1251)))) then (some (0, 0, false)) else (if (IntKind.u64.wrap (Int.tdiv t1249 t1250)) = 0 then (none) else (if (IntKind.u64.wrap (Int.tdiv (IntKind.u64.wrap (bt1244.2)) t1251)) > (IntKind.u64.wrap (Int.tdiv (1000000 : Int) (IntKind.u64.wrap (Int.tdiv t1249 t1250)))) then (some (0, 0, false)) else ((whittleref1_made.f k ((decide (bt1244.1 < 0)) != (decide (bt1246.1 < 0))) (IntKind.u64.wrap ((IntKind.u64.wrap (Int.tdiv t1248 t1250)) * (IntKind.u64.wrap (Int.tdiv (IntKind.u64.wrap (bt1246.2)) t1251)))) (IntKind.u64.wrap ((IntKind.u64.wrap (Int.tdiv (IntKind.u64.wrap (bt1244.2)) t1251)) * (IntKind.u64.wrap (Int.tdiv t1249 t1250))))).bind fun bt1252 => (some (bt1252.1, bt1252.2.1, bt1252.2.2))))))))))))))))) = some (r1, r2, r3) := h
 clear h
 replace H := Option.bind_eq_some_iff.mp H
 obtain ⟨⟨t1244, t1245⟩, A30, H⟩ := H
 have A3 := Aside0.mk A30
 clear A30
 replace H := Option.bind_eq_some_iff.mp H
 obtain ⟨⟨t1246, t1247⟩, A40, H⟩ := H
 replace H : (if t1246 = 0 then (some (0, 0, false)) else (if t1244 = 0 then (some (t1244, t1245, true)) else ((whittleref1_far.f t1244).bind fun t1248 => ((whittleref1_far.f t1246).bind fun t1249 => ((whittleref1_gcd.f k t1248 t1249).bind fun t1250 => (if t1250 = 0 then (none) else ((whittleref1_gcd.f k (IntKind.u64.wrap (t1247)) (IntKind.u64.wrap (t1245))).bind fun t1251 => (if t1251 = 0 then (none) else (if (IntKind.u64.wrap (Int.tdiv (IntKind.u64.wrap (t1247)) t1251)) = 0 then (none) else (if (IntKind.u64.wrap (Int.tdiv t1248 t1250)) > (IntKind.u64.wrap (Int.tdiv (1000000000000 : Int) (IntKind.u64.wrap (Int.tdiv (IntKind.u64.wrap (t1247)) t1251)))) then (some (0, 0, false)) else (if (IntKind.u64.wrap (Int.tdiv t1249 t1250)) = 0 then (none) else (if (IntKind.u64.wrap (Int.tdiv (IntKind.u64.wrap (t1245)) t1251)) > (IntKind.u64.wrap (Int.tdiv (1000000 : Int) (IntKind.u64.wrap (Int.tdiv t1249 t1250)))) then (some (0, 0, false)) else ((whittleref1_made.f k ((decide (t1244 < 0)) != (decide (t1246 < 0))) (IntKind.u64.wrap ((IntKind.u64.wrap (Int.tdiv t1248 t1250)) * (IntKind.u64.wrap (Int.tdiv (IntKind.u64.wrap (t1247)) t1251)))) (IntKind.u64.wrap ((IntKind.u64.wrap (Int.tdiv (IntKind.u64.wrap (t1245)) t1251)) * (IntKind.u64.wrap (Int.tdiv t1249 t1250))))).bind fun bt1252 => (some (bt1252.1, bt1252.2.1, bt1252.2.2))))))))))))))) = some (r1, r2, r3) := H
 have A4 := Aside0.mk A40
 clear A40
 by_cases c5 : t1246 = 0
 ·rw [if_pos c5] at H
  have c5b0 : (t1246 == 0) = true := beq_iff_eq.mpr c5
  have c5b1 : (t1246 != 0) = false := bne_eq_false_iff_eq.mpr c5
  clear c5
  simp only [Option.some.injEq, Prod.mk.injEq] at H
  obtain ⟨rfl, rfl, rfl⟩ := H
  go_enter Tryd.func77, Tryd.ntmps77
  go_wp2_with (first | ((with_reducible refine gate_dst (N := 2) rfl ?_); refine bxe 2 #[.int .i64 a0_0, .int .i64 a0_1] 23 rfl rfl gr ?_; clear BX; intro gb1241 w6 GE1241 BX) | ((with_reducible refine gate_dst (N := 3) rfl ?_); refine bxe 3 #[.int .i64 a1_0, .int .i64 a1_1] 23 rfl rfl gr ?_; clear BX; intro gb1242 w7 GE1242 BX) | ((with_reducible refine gate_dst (N := 4) rfl ?_); refine bxe 4 #[.int .i64 0, .int .i64 0] 23 rfl rfl gr ?_; clear BX; intro gb1243 w8 GE1243 BX) | ((with_reducible refine gate_callee (f := 53) rfl ?_); refine goesL_ (some 12) rfl rfl Tryd.func53 kr rfl #[.agg #[.int .i64 a0_0, .int .i64 a0_1]] rfl ga ?_; (with_reducible refine (whittleref1_Of.calls k a0_0 a0_1 t1244 t1245 _ A3.out).mono ?_); rintro e w12 ⟨rfl, hb⟩; refine ⟨_, rfl, ?_⟩; replace BX := bx_call hb; clear hb) | ((with_reducible refine gate_callee (f := 53) rfl ?_); refine goesL_ (some 14) rfl rfl Tryd.func53 kr rfl #[.agg #[.int .i64 a1_0, .int .i64 a1_1]] rfl ga ?_; (with_reducible refine (whittleref1_Of.calls k a1_0 a1_1 t1246 t1247 _ A4.out).mono ?_); rintro e w16 ⟨rfl, hb⟩; refine ⟨_, rfl, ?_⟩; replace BX := bx_call hb; clear hb))
  refine bodyPost_ret (results_ct rfl _ _ gb1243 23 #[.int .i64 0, .int .i64 0] (0, 0) _ rfl bx_get Tryd.underlying23 rfl kr) rfl ?_
  exact ⟨er2, bx_bl⟩
 ·rw [if_neg c5] at H
  have c5b0 : (t1246 == 0) = false := beq_eq_false_iff_ne.mpr c5
  have c5b1 : (t1246 != 0) = true := bne_iff_ne.mpr c5
  by_cases c19 : t1244 = 0
  ·rw [if_pos c19] at H
   have c19b0 : (t1244 == 0) = true := beq_iff_eq.mpr c19
   have c19b1 : (t1244 != 0) = false := bne_eq_false_iff_eq.mpr c19
   clear c19
   simp only [Option.some.injEq, Prod.mk.injEq] at H
   obtain ⟨rfl, rfl, rfl⟩ := H
   go_enter Tryd.func77, Tryd.ntmps77
   go_wp2_with (first | ((with_reducible refine gate_dst (N := 2) rfl ?_); refine bxe 2 #[.int .i64 a0_0, .int .i64 a0_1] 23 rfl rfl gr ?_; clear BX; intro gb1241 w20 GE1241 BX) | ((with_reducible refine gate_dst (N := 3) rfl ?_); refine bxe 3 #[.int .i64 a1_0, .int .i64 a1_1] 23 rfl rfl gr ?_; clear BX; intro gb1242 w21 GE1242 BX) | ((with_reducible refine gate_dst (N := 4) rfl ?_); refine bxe 4 #[.int .i64 0, .int .i64 0] 23 rfl rfl gr ?_; clear BX; intro gb1243 w22 GE1243 BX) | ((with_reducible refine gate_callee (f := 53) rfl ?_); refine goesL_ (some 12) rfl rfl Tryd.func53 kr rfl #[.agg #[.int .i64 a0_0, .int .i64 a0_1]] rfl ga ?_; (with_reducible refine (whittleref1_Of.calls k a0_0 a0_1 t1244 t1245 _ A3.out).mono ?_); rintro e w26 ⟨rfl, hb⟩; refine ⟨_, rfl, ?_⟩; replace BX := bx_call hb; clear hb) | ((with_reducible refine gate_callee (f := 53) rfl ?_); refine goesL_ (some 14) rfl rfl Tryd.func53 kr rfl #[.agg #[.int .i64 a1_0, .int .i64 a1_1]] rfl ga ?_; (with_reducible refine (whittleref1_Of.calls k a1_0 a1_1 t1246 t1247 _ A4.out).mono ?_); rintro e w30 ⟨rfl, hb⟩; refine ⟨_, rfl, ?_⟩; replace BX := bx_call hb; clear hb))
   refine bodyPost_ret (results_ct rfl _ _ gb1243 23 #[.int .i64 t1244, .int .i64 t1245] (0, 0) _ rfl bx_get Tryd.underlying23 rfl kr) rfl ?_
   exact ⟨er2, bx_bl⟩
  ·rw [if_neg c19] at H
   have c19b0 : (t1244 == 0) = false := beq_eq_false_iff_ne.mpr c19
   have c19b1 : (t1244 != 0) = true := bne_iff_ne.mpr c19
   replace H := Option.bind_eq_some_iff.mp H
   obtain ⟨t1248, A340, H⟩ := H
   have A34 := Aside0.mk A340
   clear A340
   replace H := Option.bind_eq_some_iff.mp H
   obtain ⟨t1249, A350, H⟩ := H
   have A35 := Aside0.mk A350
   clear A350
   replace H := Option.bind_eq_some_iff.mp H
   obtain ⟨t1250, A360, H⟩ := H
   replace H : (if t1250 = 0 then (none) else ((whittleref1_gcd.f k (IntKind.u64.wrap (t1247)) (IntKind.u64.wrap (t1245))).bind fun t1251 => (if t1251 = 0 then (none) else (if (IntKind.u64.wrap (Int.tdiv (IntKind.u64.wrap (t1247)) t1251)) = 0 then (none) else (if (IntKind.u64.wrap (Int.tdiv t1248 t1250)) > (IntKind.u64.wrap (Int.tdiv (1000000000000 : Int) (IntKind.u64.wrap (Int.tdiv (IntKind.u64.wrap (t1247)) t1251)))) then (some (0, 0, false)) else (if (IntKind.u64.wrap (Int.tdiv t1249 t1250)) = 0 then (none) else (if (IntKind.u64.wrap (Int.tdiv (IntKind.u64.wrap (t1245)) t1251)) > (IntKind.u64.wrap (Int.tdiv (1000000 : Int) (IntKind.u64.wrap (Int.tdiv t1249 t1250)))) then (some (0, 0, false)) else ((whittleref1_made.f k ((decide (t1244 < 0)) != (decide (t1246 < 0))) (IntKind.u64.wrap ((IntKind.u64.wrap (Int.tdiv t1248 t1250)) * (IntKind.u64.wrap (Int.tdiv (IntKind.u64.wrap (t1247)) t1251)))) (IntKind.u64.wrap ((IntKind.u64.wrap (Int.tdiv (IntKind.u64.wrap (t1245)) t1251)) * (IntKind.u64.wrap (Int.tdiv t1249 t1250))))).bind fun bt1252 => (some (bt1252.1, bt1252.2.1, bt1252.2.2)))))))))) = some (r1, r2, r3) := H
   have A36 := Aside0.mk A360
   clear A360
   by_cases c37 : t1250 = 0
   ·rw [if_pos c37] at H
    exact absurd H (by simp)
   ·rw [if_neg c37] at H
    have c37b0 : (t1250 == 0) = false := beq_eq_false_iff_ne.mpr c37
    have c37b1 : (t1250 != 0) = true := bne_iff_ne.mpr c37
    replace H := Option.bind_eq_some_iff.mp H
    obtain ⟨t1251, A380, H⟩ := H
    replace H : (if t1251 = 0 then (none) else (if (IntKind.u64.wrap (Int.tdiv (IntKind.u64.wrap (t1247)) t1251)) = 0 then (none) else (if (IntKind.u64.wrap (Int.tdiv t1248 t1250)) > (IntKind.u64.wrap (Int.tdiv (1000000000000 : Int) (IntKind.u64.wrap (Int.tdiv (IntKind.u64.wrap (t1247)) t1251)))) then (some (0, 0, false)) else (if (IntKind.u64.wrap (Int.tdiv t1249 t1250)) = 0 then (none) else (if (IntKind.u64.wrap (Int.tdiv (IntKind.u64.wrap (t1245)) t1251)) > (IntKind.u64.wrap (Int.tdiv (1000000 : Int) (IntKind.u64.wrap (Int.tdiv t1249 t1250)))) then (some (0, 0, false)) else ((whittleref1_made.f k ((decide (t1244 < 0)) != (decide (t1246 < 0))) (IntKind.u64.wrap ((IntKind.u64.wrap (Int.tdiv t1248 t1250)) * (IntKind.u64.wrap (Int.tdiv (IntKind.u64.wrap (t1247)) t1251)))) (IntKind.u64.wrap ((IntKind.u64.wrap (Int.tdiv (IntKind.u64.wrap (t1245)) t1251)) * (IntKind.u64.wrap (Int.tdiv t1249 t1250))))).bind fun bt1252 => (some (bt1252.1, bt1252.2.1, bt1252.2.2)))))))) = some (r1, r2, r3) := H
    have A38 := Aside0.mk A380
    clear A380
    by_cases c39 : t1251 = 0
    ·rw [if_pos c39] at H
     exact absurd H (by simp)
    ·rw [if_neg c39] at H
     have c39b0 : (t1251 == 0) = false := beq_eq_false_iff_ne.mpr c39
     have c39b1 : (t1251 != 0) = true := bne_iff_ne.mpr c39
     by_cases c40 : (IntKind.u64.wrap (Int.tdiv (IntKind.u64.wrap (t1247)) t1251)) = 0
     ·rw [if_pos c40] at H
      exact absurd H (by simp)
     ·rw [if_neg c40] at H
      have c40b0 : ((IntKind.u64.wrap (Int.tdiv (IntKind.u64.wrap (t1247)) t1251)) == 0) = false := beq_eq_false_iff_ne.mpr c40
      have c40b1 : ((IntKind.u64.wrap (Int.tdiv (IntKind.u64.wrap (t1247)) t1251)) != 0) = true := bne_iff_ne.mpr c40
      by_cases c41 : (IntKind.u64.wrap (Int.tdiv t1248 t1250)) > (IntKind.u64.wrap (Int.tdiv (1000000000000 : Int) (IntKind.u64.wrap (Int.tdiv (IntKind.u64.wrap (t1247)) t1251))))
      ·rw [if_pos c41] at H
       have c41b0 : decide ((IntKind.u64.wrap (Int.tdiv (1000000000000 : Int) (IntKind.u64.wrap (Int.tdiv (IntKind.u64.wrap (t1247)) t1251)))) < (IntKind.u64.wrap (Int.tdiv t1248 t1250))) = true := decide_eq_true c41
       clear c41
       simp only [Option.some.injEq, Prod.mk.injEq] at H
       obtain ⟨rfl, rfl, rfl⟩ := H
       go_enter Tryd.func77, Tryd.ntmps77
       go_wp2_with (first | ((with_reducible refine gate_dst (N := 2) rfl ?_); refine bxe 2 #[.int .i64 a0_0, .int .i64 a0_1] 23 rfl rfl gr ?_; clear BX; intro gb1241 w42 GE1241 BX) | ((with_reducible refine gate_dst (N := 3) rfl ?_); refine bxe 3 #[.int .i64 a1_0, .int .i64 a1_1] 23 rfl rfl gr ?_; clear BX; intro gb1242 w43 GE1242 BX) | ((with_reducible refine gate_dst (N := 4) rfl ?_); refine bxe 4 #[.int .i64 0, .int .i64 0] 23 rfl rfl gr ?_; clear BX; intro gb1243 w44 GE1243 BX) | ((with_reducible refine gate_callee (f := 53) rfl ?_); refine goesL_ (some 12) rfl rfl Tryd.func53 kr rfl #[.agg #[.int .i64 a0_0, .int .i64 a0_1]] rfl ga ?_; (with_reducible refine (whittleref1_Of.calls k a0_0 a0_1 t1244 t1245 _ A3.out).mono ?_); rintro e w48 ⟨rfl, hb⟩; refine ⟨_, rfl, ?_⟩; replace BX := bx_call hb; clear hb) | ((with_reducible refine gate_callee (f := 53) rfl ?_); refine goesL_ (some 14) rfl rfl Tryd.func53 kr rfl #[.agg #[.int .i64 a1_0, .int .i64 a1_1]] rfl ga ?_; (with_reducible refine (whittleref1_Of.calls k a1_0 a1_1 t1246 t1247 _ A4.out).mono ?_); rintro e w52 ⟨rfl, hb⟩; refine ⟨_, rfl, ?_⟩; replace BX := bx_call hb; clear hb) | ((with_reducible refine gate_callee (f := 85) rfl ?_); refine goesL_ (some 25) rfl rfl Tryd.func85 kr rfl #[.int .i64 t1244] rfl ga ?_; (with_reducible refine (whittleref1_far.calls t1244 t1248 _ A34.out).mono ?_); rintro e w' ⟨rfl, ⟨nd, rfl⟩⟩; refine ⟨_, rfl, ?_⟩) | ((with_reducible refine gate_callee (f := 85) rfl ?_); refine goesL_ (some 34) rfl rfl Tryd.func85 kr rfl #[.int .i64 t1246] rfl ga ?_; (with_reducible refine (whittleref1_far.calls t1246 t1249 _ A35.out).mono ?_); rintro e w' ⟨rfl, ⟨nd, rfl⟩⟩; refine ⟨_, rfl, ?_⟩) | ((with_reducible refine gate_callee (f := 84) rfl ?_); refine goesL_ (some 37) rfl rfl Tryd.func84 kr rfl #[.int .u64 t1248, .int .u64 t1249] rfl ga ?_; (with_reducible refine (whittleref1_gcd.calls k t1248 t1249 t1250 _ A36.out).mono ?_); rintro e w' ⟨rfl, ⟨nd, rfl⟩⟩; refine ⟨_, rfl, ?_⟩) | ((with_reducible refine gate_callee (f := 84) rfl ?_); refine goesL_ (some 46) rfl rfl Tryd.func84 kr rfl #[.int .u64 (IntKind.u64.wrap (t1247)), .int .u64 (IntKind.u64.wrap (t1245))] rfl ga ?_; (with_reducible refine (whittleref1_gcd.calls k (IntKind.u64.wrap (t1247)) (IntKind.u64.wrap (t1245)) t1251 _ A38.out).mono ?_); rintro e w' ⟨rfl, ⟨nd, rfl⟩⟩; refine ⟨_, rfl, ?_⟩))
       refine bodyPost_ret (results_ct rfl _ _ gb1243 23 #[.int .i64 0, .int .i64 0] (0, 0) _ rfl bx_get Tryd.underlying23 rfl kr) rfl ?_
       exact ⟨er2, bx_bl⟩
      ·rw [if_neg c41] at H
       have c41b0 : decide ((IntKind.u64.wrap (Int.tdiv (1000000000000 : Int) (IntKind.u64.wrap (Int.tdiv (IntKind.u64.wrap (t1247)) t1251)))) < (IntKind.u64.wrap (Int.tdiv t1248 t1250))) = false := decide_eq_false c41
       clear c41
       by_cases c56 : (IntKind.u64.wrap (Int.tdiv t1249 t1250)) = 0
       ·rw [if_pos c56] at H
        exact absurd H (by simp)
       ·rw [if_neg c56] at H
        have c56b0 : ((IntKind.u64.wrap (Int.tdiv t1249 t1250)) == 0) = false := beq_eq_false_iff_ne.mpr c56
        have c56b1 : ((IntKind.u64.wrap (Int.tdiv t1249 t1250)) != 0) = true := bne_iff_ne.mpr c56
        by_cases c57 : (IntKind.u64.wrap (Int.tdiv (IntKind.u64.wrap (t1245)) t1251)) > (IntKind.u64.wrap (Int.tdiv (1000000 : Int) (IntKind.u64.wrap (Int.tdiv t1249 t1250))))
        ·rw [if_pos c57] at H
         have c57b0 : decide ((IntKind.u64.wrap (Int.tdiv (1000000 : Int) (IntKind.u64.wrap (Int.tdiv t1249 t1250)))) < (IntKind.u64.wrap (Int.tdiv (IntKind.u64.wrap (t1245)) t1251))) = true := decide_eq_true c57
         clear c57
         simp only [Option.some.injEq, Prod.mk.injEq] at H
         obtain ⟨rfl, rfl, rfl⟩ := H
         go_enter Tryd.func77, Tryd.ntmps77
         go_wp2_with (first | ((with_reducible refine gate_dst (N := 2) rfl ?_); refine bxe 2 #[.int .i64 a0_0, .int .i64 a0_1] 23 rfl rfl gr ?_; clear BX; intro gb1241 w58 GE1241 BX) | ((with_reducible refine gate_dst (N := 3) rfl ?_); refine bxe 3 #[.int .i64 a1_0, .int .i64 a1_1] 23 rfl rfl gr ?_; clear BX; intro gb1242 w59 GE1242 BX) | ((with_reducible refine gate_dst (N := 4) rfl ?_); refine bxe 4 #[.int .i64 0, .int .i64 0] 23 rfl rfl gr ?_; clear BX; intro gb1243 w60 GE1243 BX) | ((with_reducible refine gate_callee (f := 53) rfl ?_); refine goesL_ (some 12) rfl rfl Tryd.func53 kr rfl #[.agg #[.int .i64 a0_0, .int .i64 a0_1]] rfl ga ?_; (with_reducible refine (whittleref1_Of.calls k a0_0 a0_1 t1244 t1245 _ A3.out).mono ?_); rintro e w64 ⟨rfl, hb⟩; refine ⟨_, rfl, ?_⟩; replace BX := bx_call hb; clear hb) | ((with_reducible refine gate_callee (f := 53) rfl ?_); refine goesL_ (some 14) rfl rfl Tryd.func53 kr rfl #[.agg #[.int .i64 a1_0, .int .i64 a1_1]] rfl ga ?_; (with_reducible refine (whittleref1_Of.calls k a1_0 a1_1 t1246 t1247 _ A4.out).mono ?_); rintro e w68 ⟨rfl, hb⟩; refine ⟨_, rfl, ?_⟩; replace BX := bx_call hb; clear hb) | ((with_reducible refine gate_callee (f := 85) rfl ?_); refine goesL_ (some 25) rfl rfl Tryd.func85 kr rfl #[.int .i64 t1244] rfl ga ?_; (with_reducible refine (whittleref1_far.calls t1244 t1248 _ A34.out).mono ?_); rintro e w' ⟨rfl, ⟨nd, rfl⟩⟩; refine ⟨_, rfl, ?_⟩) | ((with_reducible refine gate_callee (f := 85) rfl ?_); refine goesL_ (some 34) rfl rfl Tryd.func85 kr rfl #[.int .i64 t1246] rfl ga ?_; (with_reducible refine (whittleref1_far.calls t1246 t1249 _ A35.out).mono ?_); rintro e w' ⟨rfl, ⟨nd, rfl⟩⟩; refine ⟨_, rfl, ?_⟩) | ((with_reducible refine gate_callee (f := 84) rfl ?_); refine goesL_ (some 37) rfl rfl Tryd.func84 kr rfl #[.int .u64 t1248, .int .u64 t1249] rfl ga ?_; (with_reducible refine (whittleref1_gcd.calls k t1248 t1249 t1250 _ A36.out).mono ?_); rintro e w' ⟨rfl, ⟨nd, rfl⟩⟩; refine ⟨_, rfl, ?_⟩) | ((with_reducible refine gate_callee (f := 84) rfl ?_); refine goesL_ (some 46) rfl rfl Tryd.func84 kr rfl #[.int .u64 (IntKind.u64.wrap (t1247)), .int .u64 (IntKind.u64.wrap (t1245))] rfl ga ?_; (with_reducible refine (whittleref1_gcd.calls k (IntKind.u64.wrap (t1247)) (IntKind.u64.wrap (t1245)) t1251 _ A38.out).mono ?_); rintro e w' ⟨rfl, ⟨nd, rfl⟩⟩; refine ⟨_, rfl, ?_⟩))
         refine bodyPost_ret (results_ct rfl _ _ gb1243 23 #[.int .i64 0, .int .i64 0] (0, 0) _ rfl bx_get Tryd.underlying23 rfl kr) rfl ?_
         exact ⟨er2, bx_bl⟩
        ·rw [if_neg c57] at H
         have c57b0 : decide ((IntKind.u64.wrap (Int.tdiv (1000000 : Int) (IntKind.u64.wrap (Int.tdiv t1249 t1250)))) < (IntKind.u64.wrap (Int.tdiv (IntKind.u64.wrap (t1245)) t1251))) = false := decide_eq_false c57
         clear c57
         replace H := Option.bind_eq_some_iff.mp H
         obtain ⟨⟨t1252, t1253, t1254⟩, A720, H⟩ := H
         replace H : (some (t1252, t1253, t1254)) = some (r1, r2, r3) := H
         have A72 := Aside0.mk A720
         clear A720
         simp only [Option.some.injEq, Prod.mk.injEq] at H
         obtain ⟨rfl, rfl, rfl⟩ := H
         go_enter Tryd.func77, Tryd.ntmps77
         go_wp2_with (first | ((with_reducible refine gate_dst (N := 2) rfl ?_); refine bxe 2 #[.int .i64 a0_0, .int .i64 a0_1] 23 rfl rfl gr ?_; clear BX; intro gb1241 w73 GE1241 BX) | ((with_reducible refine gate_dst (N := 3) rfl ?_); refine bxe 3 #[.int .i64 a1_0, .int .i64 a1_1] 23 rfl rfl gr ?_; clear BX; intro gb1242 w74 GE1242 BX) | ((with_reducible refine gate_dst (N := 4) rfl ?_); refine bxe 4 #[.int .i64 0, .int .i64 0] 23 rfl rfl gr ?_; clear BX; intro gb1243 w75 GE1243 BX) | ((with_reducible refine gate_callee (f := 53) rfl ?_); refine goesL_ (some 12) rfl rfl Tryd.func53 kr rfl #[.agg #[.int .i64 a0_0, .int .i64 a0_1]] rfl ga ?_; (with_reducible refine (whittleref1_Of.calls k a0_0 a0_1 t1244 t1245 _ A3.out).mono ?_); rintro e w79 ⟨rfl, hb⟩; refine ⟨_, rfl, ?_⟩; replace BX := bx_call hb; clear hb) | ((with_reducible refine gate_callee (f := 53) rfl ?_); refine goesL_ (some 14) rfl rfl Tryd.func53 kr rfl #[.agg #[.int .i64 a1_0, .int .i64 a1_1]] rfl ga ?_; (with_reducible refine (whittleref1_Of.calls k a1_0 a1_1 t1246 t1247 _ A4.out).mono ?_); rintro e w83 ⟨rfl, hb⟩; refine ⟨_, rfl, ?_⟩; replace BX := bx_call hb; clear hb) | ((with_reducible refine gate_callee (f := 85) rfl ?_); refine goesL_ (some 25) rfl rfl Tryd.func85 kr rfl #[.int .i64 t1244] rfl ga ?_; (with_reducible refine (whittleref1_far.calls t1244 t1248 _ A34.out).mono ?_); rintro e w' ⟨rfl, ⟨nd, rfl⟩⟩; refine ⟨_, rfl, ?_⟩) | ((with_reducible refine gate_callee (f := 85) rfl ?_); refine goesL_ (some 34) rfl rfl Tryd.func85 kr rfl #[.int .i64 t1246] rfl ga ?_; (with_reducible refine (whittleref1_far.calls t1246 t1249 _ A35.out).mono ?_); rintro e w' ⟨rfl, ⟨nd, rfl⟩⟩; refine ⟨_, rfl, ?_⟩) | ((with_reducible refine gate_callee (f := 84) rfl ?_); refine goesL_ (some 37) rfl rfl Tryd.func84 kr rfl #[.int .u64 t1248, .int .u64 t1249] rfl ga ?_; (with_reducible refine (whittleref1_gcd.calls k t1248 t1249 t1250 _ A36.out).mono ?_); rintro e w' ⟨rfl, ⟨nd, rfl⟩⟩; refine ⟨_, rfl, ?_⟩) | ((with_reducible refine gate_callee (f := 84) rfl ?_); refine goesL_ (some 46) rfl rfl Tryd.func84 kr rfl #[.int .u64 (IntKind.u64.wrap (t1247)), .int .u64 (IntKind.u64.wrap (t1245))] rfl ga ?_; (with_reducible refine (whittleref1_gcd.calls k (IntKind.u64.wrap (t1247)) (IntKind.u64.wrap (t1245)) t1251 _ A38.out).mono ?_); rintro e w' ⟨rfl, ⟨nd, rfl⟩⟩; refine ⟨_, rfl, ?_⟩) | ((with_reducible refine gate_callee (f := 90) rfl ?_); refine goesL_ (some 77) rfl rfl Tryd.func90 kr rfl #[.bool ((decide (t1244 < 0)) != (decide (t1246 < 0))), .int .u64 (IntKind.u64.wrap ((IntKind.u64.wrap (Int.tdiv t1248 t1250)) * (IntKind.u64.wrap (Int.tdiv (IntKind.u64.wrap (t1247)) t1251)))), .int .u64 (IntKind.u64.wrap ((IntKind.u64.wrap (Int.tdiv (IntKind.u64.wrap (t1245)) t1251)) * (IntKind.u64.wrap (Int.tdiv t1249 t1250))))] rfl ga ?_; (with_reducible refine (whittleref1_made.calls k ((decide (t1244 < 0)) != (decide (t1246 < 0))) (IntKind.u64.wrap ((IntKind.u64.wrap (Int.tdiv t1248 t1250)) * (IntKind.u64.wrap (Int.tdiv (IntKind.u64.wrap (t1247)) t1251)))) (IntKind.u64.wrap ((IntKind.u64.wrap (Int.tdiv (IntKind.u64.wrap (t1245)) t1251)) * (IntKind.u64.wrap (Int.tdiv t1249 t1250)))) t1252 t1253 t1254 _ A72.out).mono ?_); rintro e w86 ⟨rfl, hb⟩; refine ⟨_, rfl, ?_⟩; replace BX := bx_call hb; clear hb))
         refine bodyPost_ret (results_ct rfl _ _ gb1243 23 #[.int .i64 t1252, .int .i64 t1253] (0, 0) _ rfl bx_get Tryd.underlying23 rfl kr) rfl ?_
         exact ⟨er2, bx_bl⟩
end
end Go.Proofs.YtmakkdlkgfgaoaaDoor.F
