-- Laid by program (wip/tools/genv.sh, pack.py, merge.py of this repo) out of the translation; Lean checks it.
import Derived.Test.YtmakkdlkgfgaoaaGreatDoorF0
import Derived.Test.YtmakkdlkgfgaoaaGreatDoorC0
namespace Go.Proofs.YtmakkdlkgfgaoaaGreatDoor.F
open Go.RowKit Go.Proofs.YtmakkdlkgfgaoaaGreatDoorW.PrintWords Go.Proofs.YtmakkdlkgfgaoaaGreatDoorW.PrintLast Go.Proofs.YtmakkdlkgfgaoaaGreatDoorW.PrintMore
attribute [local go_sem] max2_int min2_int max_two min_two max_three min_three max_four min_four
attribute [local go_sem high] bx_cell bx_frozen
set_option linter.unusedVariables false
set_option linter.unusedSimpArgs false

section
/-! ### whittleref1_far: function 79 -/
def whittleref1_far.f (a0 : Int) : Option (Int) := if a0 < 0 then (some (IntKind.u64.wrap ((IntKind.u64.wrap (wrap64 (-(wrap64 (a0 + 1))))) + 1))) else (some (IntKind.u64.wrap (a0)))
set_option maxHeartbeats 8000000 in
set_option maxRecDepth 100000 in
theorem whittleref1_far.calls (a0 : Int) (r : Int) (w : World) (h : whittleref1_far.f a0 = some r) :
  Calls Tryz.prog 79 #[.int .i64 a0] w fun e w' => e = .returned (.int .u64 r) ∧ Drawn0 w w' := by
 have H : (if a0 < 0 then (some (IntKind.u64.wrap ((IntKind.u64.wrap (wrap64 (-(wrap64 (a0 + 1))))) + 1))) else (some (IntKind.u64.wrap (a0)))) = some r := h
 clear h
 by_cases c2 : a0 < 0
 ·rw [if_pos c2] at H
  have c2b0 : decide (a0 < 0) = true := decide_eq_true c2
  clear c2
  obtain rfl := Option.some.inj H
  go_enter Tryz.func79, Tryz.ntmps79
  go_wp2
  go_ret
  exact ⟨er, dr⟩
 ·rw [if_neg c2] at H
  have c2b0 : decide (a0 < 0) = false := decide_eq_false c2
  clear c2
  obtain rfl := Option.some.inj H
  go_enter Tryz.func79, Tryz.ntmps79
  go_wp2
  go_ret
  exact ⟨er, dr⟩
end
section
/-! ### whittleref1_gcd: function 86 -/
def whittleref1_gcd.l0 : Nat → Int → Int → Option (Int)
 | 0, _, _ => none
 | k + 1, x0, x1 => if x1 = 0 then (some x0) else (whittleref1_gcd.l0 k x1 (Int.tmod x0 x1))
def whittleref1_gcd.f (k : Nat) (a0 : Int) (a1 : Int) : Option (Int) := whittleref1_gcd.l0 k a0 a1
theorem whittleref1_gcd.mono_l : ∀ k, (∀ y0 y1, LeO (whittleref1_gcd.l0 k y0 y1) (whittleref1_gcd.l0 (k + 1) y0 y1))
 | 0 => fun _ _ r h => by simp [whittleref1_gcd.l0] at h
 | k + 1 => by
  have ih0 := whittleref1_gcd.mono_l k
  ·intro y0 y1
   unfold whittleref1_gcd.l0
   repeat' first
   | (with_reducible exact ih0 _ _)
   | (with_reducible exact LeO.refl _)
   | (with_reducible exact LeO.none _)
   | (with_reducible refine LeO.ite ?_ ?_)
   | (with_reducible refine LeO.bind ?_ (fun _ => ?_))
   | exact ih0 _ _
   | exact LeO.none _
   | refine LeO.ite ?_ ?_
   | refine LeO.bind ?_ (fun _ => ?_)
theorem whittleref1_gcd.mono : ∀ a0 a1 k, LeO (whittleref1_gcd.f k a0 a1) (whittleref1_gcd.f (k + 1) a0 a1) := by
 intro a0 a1 k
 have ih0 := whittleref1_gcd.mono_l k
 unfold whittleref1_gcd.f
 repeat' first
   | (with_reducible exact ih0 _ _)
   | (with_reducible exact LeO.refl _)
   | (with_reducible exact LeO.none _)
   | (with_reducible refine LeO.ite ?_ ?_)
   | (with_reducible refine LeO.bind ?_ (fun _ => ?_))
   | exact ih0 _ _
   | exact LeO.none _
   | refine LeO.ite ?_ ?_
   | refine LeO.bind ?_ (fun _ => ?_)
set_option maxHeartbeats 8000000 in
set_option maxRecDepth 100000 in
theorem whittleref1_gcd.calls (k : Nat) (a0 : Int) (a1 : Int) (r : Int) (w : World) (h : whittleref1_gcd.f k a0 a1 = some r) :
  Calls Tryz.prog 86 #[.int .u64 a0, .int .u64 a1] w fun e w' => e = .returned (.int .u64 r) ∧ Drawn0 w w' := by
 have H : (whittleref1_gcd.l0 k a0 a1) = some r := h
 clear h
 have H' := Aside0.mk H
 clear H
 go_enter Tryz.func86, Tryz.ntmps86
 go_wp2
 go_loopg [0, 1] k (fun kq v0 v1 w' => ∃ (x0_1 : Int) (x1_1 : Int), v0 = .int .u64 x0_1 ∧ v1 = .int .u64 x1_1 ∧ Aside0 (whittleref1_gcd.l0 kq x0_1 x1_1 = some r) ∧ Aside0 (kq ≤ k) ∧ Drawn0 w w')
 case atStart => exact ⟨(a0), (a1), er, er, H', ⟨Nat.le_refl _⟩, dr⟩
 case round =>
  clear H'
  try clear p2
  obtain ⟨x0_1, x1_1, rfl, rfl, HA, HK1, ⟨m1, rfl⟩⟩ := hrel
  cases gk with
  | zero => exact absurd HA.out (by simp [whittleref1_gcd.l0])
  | succ k1 =>
   have H := HA.out
   clear HA
   simp only [whittleref1_gcd.l0] at H
   by_cases c3 : x1_1 = 0
   ·rw [if_pos c3] at H
    have c3b0 : (x1_1 == 0) = true := beq_iff_eq.mpr c3
    have c3b1 : (x1_1 != 0) = false := bne_eq_false_iff_eq.mpr c3
    clear c3
    obtain rfl := Option.some.inj H
    go_wp2
    go_ret
    exact ⟨er, dr⟩
   ·rw [if_neg c3] at H
    have c3b0 : (x1_1 == 0) = false := beq_eq_false_iff_ne.mpr c3
    have c3b1 : (x1_1 != 0) = true := bne_iff_ne.mpr c3
    have H' := Aside0.mk H
    clear H
    go_wp2
    go_roundg k1
    case measure => have := HK1.out; omega
    case rel => exact ⟨(x1_1), (Int.tmod x0_1 x1_1), er, er, H', ⟨by have := HK1.out; omega⟩, dr⟩
end
section
/-! ### whittleref1_Right: function 77 -/
def whittleref1_Right.j0 : Nat → Bool → Int → Int → Option (Bool)
 | 0, _, _, _ => none
 | k + 1, x20, x577000, x577001 => if x20 = true then (some false) else ((whittleref1_far.f x577000).bind fun t577 => ((whittleref1_gcd.f k t577 (IntKind.u64.wrap (x577001))).bind fun t578 => (some (t578 == 1))))
def whittleref1_Right.f (k : Nat) (a0_0 : Int) (a0_1 : Int) : Option (Bool) := if a0_1 < 1 then (whittleref1_Right.j0 k true a0_0 a0_1) else (if a0_1 > 1000000 then (whittleref1_Right.j0 k true a0_0 a0_1) else (if a0_0 < (-1000000000000) then (whittleref1_Right.j0 k true a0_0 a0_1) else (whittleref1_Right.j0 k (decide (a0_0 > 1000000000000)) a0_0 a0_1)))
theorem whittleref1_Right.mono_l : ∀ k, (∀ y0 y1 y2, LeO (whittleref1_Right.j0 k y0 y1 y2) (whittleref1_Right.j0 (k + 1) y0 y1 y2))
 | 0 => fun _ _ _ r h => by simp [whittleref1_Right.j0] at h
 | k + 1 => by
  have ih0 := whittleref1_Right.mono_l k
  ·intro y0 y1 y2
   unfold whittleref1_Right.j0
   repeat' first
   | (with_reducible exact ih0 _ _ _)
   | (with_reducible exact whittleref1_gcd.mono _ _ _)
   | (with_reducible exact LeO.refl _)
   | (with_reducible exact LeO.none _)
   | (with_reducible refine LeO.ite ?_ ?_)
   | (with_reducible refine LeO.bind ?_ (fun _ => ?_))
   | exact ih0 _ _ _
   | exact whittleref1_gcd.mono _ _ _
   | exact LeO.none _
   | refine LeO.ite ?_ ?_
   | refine LeO.bind ?_ (fun _ => ?_)
theorem whittleref1_Right.mono : ∀ a0 a1 k, LeO (whittleref1_Right.f k a0 a1) (whittleref1_Right.f (k + 1) a0 a1) := by
 intro a0 a1 k
 have ih0 := whittleref1_Right.mono_l k
 unfold whittleref1_Right.f
 repeat' first
   | (with_reducible exact ih0 _ _ _)
   | (with_reducible exact whittleref1_gcd.mono _ _ _)
   | (with_reducible exact LeO.refl _)
   | (with_reducible exact LeO.none _)
   | (with_reducible refine LeO.ite ?_ ?_)
   | (with_reducible refine LeO.bind ?_ (fun _ => ?_))
   | exact ih0 _ _ _
   | exact whittleref1_gcd.mono _ _ _
   | exact LeO.none _
   | refine LeO.ite ?_ ?_
   | refine LeO.bind ?_ (fun _ => ?_)
set_option maxHeartbeats 8000000 in
set_option maxRecDepth 100000 in
theorem whittleref1_Right.calls (k : Nat) (a0_0 : Int) (a0_1 : Int) (r : Bool) (w : World) (h : whittleref1_Right.f k a0_0 a0_1 = some r) :
  Calls Tryz.prog 77 #[.agg #[.int .i64 a0_0, .int .i64 a0_1]] w fun e w' => e = .returned (.bool r) ∧ Below w.heap.size w w' := by
 have hu23 := Tryz.underlying23
 have BX := Bx.start w
 have H : (if a0_1 < 1 then (whittleref1_Right.j0 k true a0_0 a0_1) else (if a0_1 > 1000000 then (whittleref1_Right.j0 k true a0_0 a0_1) else (if a0_0 < (-1000000000000) then (whittleref1_Right.j0 k true a0_0 a0_1) else (whittleref1_Right.j0 k (decide (a0_0 > 1000000000000)) a0_0 a0_1)))) = some r := h
 clear h
 have HC2 := Aside0.mk H
 clear H
 go_enter Tryz.func77, Tryz.ntmps77
 go_upto_region 1 with (first | ((with_reducible refine gate_dst (N := 1) rfl ?_); refine bxe 1 #[.int .i64 a0_0, .int .i64 a0_1] 23 rfl rfl gr ?_; clear BX; intro gb576 w3 GE576 BX))
 repeat (go_quiet (first | ((with_reducible refine gate_dst (N := 1) rfl ?_); refine bxe 1 #[.int .i64 a0_0, .int .i64 a0_1] 23 rfl rfl gr ?_; clear BX; intro gb576 w3 GE576 BX)); go_upto_region 1 with (first | ((with_reducible refine gate_dst (N := 1) rfl ?_); refine bxe 1 #[.int .i64 a0_0, .int .i64 a0_1] 23 rfl rfl gr ?_; clear BX; intro gb576 w3 GE576 BX)))
 (try simp only [Act.put, List.setIfInBounds_toArray, List.set_cons_zero, List.set_cons_succ])
 go_cut [20] (fun v20 wc => ∃ (kq : Nat) (x20_1 : Bool), v20 = .bool x20_1 ∧ Aside0 (whittleref1_Right.j0 kq x20_1 a0_0 a0_1 = some r) ∧ Aside0 (kq ≤ k) ∧ Bx w wc [(gb576, 23, #[.int .i64 a0_0, .int .i64 a0_1])])
 case first =>
  have H := HC2.out
  clear HC2
  by_cases c4 : a0_1 < 1
  ·rw [if_pos c4] at H
   have c4b0 : decide (a0_1 < 1) = true := decide_eq_true c4
   clear c4
   (first | rw [c4b0] | (simp only [i64_w, i32_w]; rw [c4b0]) | skip)
   have H' := Aside0.mk H
   clear H
   go_wp2
   repeat (go_quiet (fail); try go_wp2)
   go_meet
   case rel => exact ⟨_, (true), er, H', ⟨by first | omega | exact Nat.le_refl _⟩, bxs⟩
  ·rw [if_neg c4] at H
   have c4b0 : decide (a0_1 < 1) = false := decide_eq_false c4
   clear c4
   (first | rw [c4b0] | (simp only [i64_w, i32_w]; rw [c4b0]) | skip)
   by_cases c6 : a0_1 > 1000000
   ·rw [if_pos c6] at H
    have c6b0 : decide (1000000 < a0_1) = true := decide_eq_true c6
    clear c6
    have H' := Aside0.mk H
    clear H
    go_wp2
    repeat (go_quiet (fail); try go_wp2)
    go_meet
    case rel => exact ⟨_, (true), er, H', ⟨by first | omega | exact Nat.le_refl _⟩, bxs⟩
   ·rw [if_neg c6] at H
    have c6b0 : decide (1000000 < a0_1) = false := decide_eq_false c6
    clear c6
    by_cases c8 : a0_0 < (-1000000000000)
    ·rw [if_pos c8] at H
     have c8b0 : decide (a0_0 < (-1000000000000)) = true := decide_eq_true c8
     clear c8
     have H' := Aside0.mk H
     clear H
     go_wp2
     repeat (go_quiet (fail); try go_wp2)
     go_meet
     case rel => exact ⟨_, (true), er, H', ⟨by first | omega | exact Nat.le_refl _⟩, bxs⟩
    ·rw [if_neg c8] at H
     have c8b0 : decide (a0_0 < (-1000000000000)) = false := decide_eq_false c8
     clear c8
     have H' := Aside0.mk H
     clear H
     go_wp2
     repeat (go_quiet (fail); try go_wp2)
     go_meet
     case rel => exact ⟨_, (decide (a0_0 > 1000000000000)), er, H', ⟨by first | omega | exact Nat.le_refl _⟩, bxs⟩
 case rest =>
  clear HC2
  try clear p2
  try clear c4
  try clear c4b0
  try clear c6
  try clear c6b0
  try clear c7
  try clear c8
  try clear c8b0
  obtain ⟨kq, x20_1, rfl, HA, HJ1, BX⟩ := hcut
  cases kq with
  | zero => exact absurd HA.out (by simp [whittleref1_Right.j0])
  | succ kj1 =>
   have H := HA.out
   clear HA
   simp only [whittleref1_Right.j0] at H
   by_cases c11 : x20_1 = true
   ·subst c11
    have H1 : (some false) = some r := by rw [if_pos rfl] at H; exact H
    clear H
    have H := H1
    clear H1
    obtain rfl := Option.some.inj H
    go_wp2
    repeat (go_quiet (fail); try go_wp2)
    go_ret
    exact ⟨er2, bx_bl⟩
   ·replace c11 := Bool.eq_false_iff.mpr c11
    subst c11
    have H1 : ((whittleref1_far.f a0_0).bind fun t577 => ((whittleref1_gcd.f kj1 t577 (IntKind.u64.wrap (a0_1))).bind fun t578 => (some (t578 == 1)))) = some r := by rw [if_neg (show ¬ (false = true) by decide)] at H; exact H
    clear H
    have H := H1
    clear H1
    replace H := Option.bind_eq_some_iff.mp H
    obtain ⟨t577, A120, H⟩ := H
    have A12 := Aside0.mk A120
    clear A120
    replace H := Option.bind_eq_some_iff.mp H
    obtain ⟨t578, A130, H⟩ := H
    replace H : (some (t578 == 1)) = some r := H
    have A13 := Aside0.mk A130
    clear A130
    obtain rfl := Option.some.inj H
    go_wp2_with (first | (go_at_call 79; (with_reducible refine (whittleref1_far.calls a0_0 t577 _ A12.out).mono ?_); rintro e w' ⟨rfl, ⟨nd, rfl⟩⟩; (try first | exact ⟨rfl, _, World.drewN_drewN _ _ _⟩ | exact ⟨rfl, _, Eq.trans (World.drewN_drewN _ _ _) (congrArg (World.drewN _) (Nat.add_assoc _ _ _))⟩)) | (go_at_call 86; (with_reducible refine (whittleref1_gcd.calls kj1 t577 (IntKind.u64.wrap (a0_1)) t578 _ A13.out).mono ?_); rintro e w' ⟨rfl, ⟨nd, rfl⟩⟩; (try first | exact ⟨rfl, _, World.drewN_drewN _ _ _⟩ | exact ⟨rfl, _, Eq.trans (World.drewN_drewN _ _ _) (congrArg (World.drewN _) (Nat.add_assoc _ _ _))⟩)))
    repeat (go_quiet (first | (go_at_call 79; (with_reducible refine (whittleref1_far.calls a0_0 t577 _ A12.out).mono ?_); rintro e w' ⟨rfl, ⟨nd, rfl⟩⟩; (try first | exact ⟨rfl, _, World.drewN_drewN _ _ _⟩ | exact ⟨rfl, _, Eq.trans (World.drewN_drewN _ _ _) (congrArg (World.drewN _) (Nat.add_assoc _ _ _))⟩)) | (go_at_call 86; (with_reducible refine (whittleref1_gcd.calls kj1 t577 (IntKind.u64.wrap (a0_1)) t578 _ A13.out).mono ?_); rintro e w' ⟨rfl, ⟨nd, rfl⟩⟩; (try first | exact ⟨rfl, _, World.drewN_drewN _ _ _⟩ | exact ⟨rfl, _, Eq.trans (World.drewN_drewN _ _ _) (congrArg (World.drewN _) (Nat.add_assoc _ _ _))⟩))); try go_wp2_with (first | (go_at_call 79; (with_reducible refine (whittleref1_far.calls a0_0 t577 _ A12.out).mono ?_); rintro e w' ⟨rfl, ⟨nd, rfl⟩⟩; (try first | exact ⟨rfl, _, World.drewN_drewN _ _ _⟩ | exact ⟨rfl, _, Eq.trans (World.drewN_drewN _ _ _) (congrArg (World.drewN _) (Nat.add_assoc _ _ _))⟩)) | (go_at_call 86; (with_reducible refine (whittleref1_gcd.calls kj1 t577 (IntKind.u64.wrap (a0_1)) t578 _ A13.out).mono ?_); rintro e w' ⟨rfl, ⟨nd, rfl⟩⟩; (try first | exact ⟨rfl, _, World.drewN_drewN _ _ _⟩ | exact ⟨rfl, _, Eq.trans (World.drewN_drewN _ _ _) (congrArg (World.drewN _) (Nat.add_assoc _ _ _))⟩))))
    go_ret
    exact ⟨er2, bx_bl⟩
end
section
/-! ### whittleref1_Of: function 78 -/
def whittleref1_Of.f (k : Nat) (a0_0 : Int) (a0_1 : Int) : Option (Int × Int) := (whittleref1_Right.f k a0_0 a0_1).bind fun t588 => (if t588 = true then (some (a0_0, a0_1)) else (some (0, 1)))
theorem whittleref1_Of.mono : ∀ a0 a1 k, LeO (whittleref1_Of.f k a0 a1) (whittleref1_Of.f (k + 1) a0 a1) := by
 intro a0 a1 k
 unfold whittleref1_Of.f
 repeat' first
   | (with_reducible exact whittleref1_Right.mono _ _ _)
   | (with_reducible exact LeO.refl _)
   | (with_reducible exact LeO.none _)
   | (with_reducible refine LeO.ite ?_ ?_)
   | (with_reducible refine LeO.bind ?_ (fun _ => ?_))
   | exact whittleref1_Right.mono _ _ _
   | exact LeO.none _
   | refine LeO.ite ?_ ?_
   | refine LeO.bind ?_ (fun _ => ?_)
set_option maxHeartbeats 8000000 in
set_option maxRecDepth 100000 in
theorem whittleref1_Of.calls (k : Nat) (a0_0 : Int) (a0_1 : Int) (r1 : Int) (r2 : Int) (w : World) (h : whittleref1_Of.f k a0_0 a0_1 = some (r1, r2)) :
  Calls Tryz.prog 78 #[.agg #[.int .i64 a0_0, .int .i64 a0_1]] w fun e w' => e = .returned (.agg #[.int .i64 r1, .int .i64 r2]) ∧ Below w.heap.size w w' := by
 have hu23 := Tryz.underlying23
 have BX := Bx.start w
 have H : ((whittleref1_Right.f k a0_0 a0_1).bind fun t588 => (if t588 = true then (some (a0_0, a0_1)) else (some (0, 1)))) = some (r1, r2) := h
 clear h
 replace H := Option.bind_eq_some_iff.mp H
 obtain ⟨t588, A20, H⟩ := H
 replace H : (if t588 = true then (some (a0_0, a0_1)) else (some (0, 1))) = some (r1, r2) := H
 have A2 := Aside0.mk A20
 clear A20
 by_cases c3 : t588 = true
 ·subst c3
  have H1 : (some (a0_0, a0_1)) = some (r1, r2) := by rw [if_pos rfl] at H; exact H
  clear H
  have H := H1
  clear H1
  simp only [Option.some.injEq, Prod.mk.injEq] at H
  obtain ⟨rfl, rfl⟩ := H
  go_enter Tryz.func78, Tryz.ntmps78
  go_wp2_with (first | ((with_reducible refine gate_dst (N := 1) rfl ?_); refine bxe 1 #[.int .i64 a0_0, .int .i64 a0_1] 23 rfl rfl gr ?_; clear BX; intro gb586 w4 GE586 BX) | ((with_reducible refine gate_dst (N := 2) rfl ?_); refine bxe 2 #[.int .i64 0, .int .i64 0] 23 rfl rfl gr ?_; clear BX; intro gb587 w5 GE587 BX) | ((with_reducible refine gate_callee (f := 77) rfl ?_); refine goesL_ (some 5) rfl rfl Tryz.func77 kr rfl #[.agg #[.int .i64 a0_0, .int .i64 a0_1]] rfl ga ?_; (with_reducible refine (whittleref1_Right.calls k a0_0 a0_1 true _ A2.out).mono ?_); rintro e w8 ⟨rfl, hb⟩; refine ⟨_, rfl, ?_⟩; replace BX := bx_call hb; clear hb))
  refine bodyPost_ret (results_cell_row rfl _ _ gb587 23 #[.int .i64 a0_0, .int .i64 a0_1] (0, 0) _ rfl bx_get Tryz.underlying23 rfl kr) rfl ?_
  exact ⟨er2, bx_bl⟩
 ·replace c3 := Bool.eq_false_iff.mpr c3
  subst c3
  have H1 : (some (0, 1)) = some (r1, r2) := by rw [if_neg (show ¬ (false = true) by decide)] at H; exact H
  clear H
  have H := H1
  clear H1
  simp only [Option.some.injEq, Prod.mk.injEq] at H
  obtain ⟨rfl, rfl⟩ := H
  go_enter Tryz.func78, Tryz.ntmps78
  go_wp2_with (first | ((with_reducible refine gate_dst (N := 1) rfl ?_); refine bxe 1 #[.int .i64 a0_0, .int .i64 a0_1] 23 rfl rfl gr ?_; clear BX; intro gb586 w11 GE586 BX) | ((with_reducible refine gate_dst (N := 2) rfl ?_); refine bxe 2 #[.int .i64 0, .int .i64 0] 23 rfl rfl gr ?_; clear BX; intro gb587 w12 GE587 BX) | ((with_reducible refine gate_callee (f := 77) rfl ?_); refine goesL_ (some 5) rfl rfl Tryz.func77 kr rfl #[.agg #[.int .i64 a0_0, .int .i64 a0_1]] rfl ga ?_; (with_reducible refine (whittleref1_Right.calls k a0_0 a0_1 false _ A2.out).mono ?_); rintro e w15 ⟨rfl, hb⟩; refine ⟨_, rfl, ?_⟩; replace BX := bx_call hb; clear hb))
  refine bodyPost_ret (results_cell_row rfl _ _ gb587 23 #[.int .i64 0, .int .i64 1] (0, 0) _ rfl bx_get Tryz.underlying23 rfl kr) rfl ?_
  exact ⟨er2, bx_bl⟩
end
section
/-! ### whittleref1_Cmp: function 56 -/
def whittleref1_Cmp.f (k : Nat) (a0_0 : Int) (a0_1 : Int) (a1_0 : Int) (a1_1 : Int) : Option (Int) := (whittleref1_Of.f k a0_0 a0_1).bind fun bt628 => ((whittleref1_Of.f k a1_0 a1_1).bind fun bt630 => (if (wrap64 (bt628.1 * bt630.2)) < (wrap64 (bt630.1 * bt628.2)) then (some (-1)) else (if (wrap64 (bt628.1 * bt630.2)) > (wrap64 (bt630.1 * bt628.2)) then (some 1) else (some 0))))
theorem whittleref1_Cmp.mono : ∀ a0 a1 a2 a3 k, LeO (whittleref1_Cmp.f k a0 a1 a2 a3) (whittleref1_Cmp.f (k + 1) a0 a1 a2 a3) := by
 intro a0 a1 a2 a3 k
 unfold whittleref1_Cmp.f
 repeat' first
   | (with_reducible exact whittleref1_Of.mono _ _ _)
   | (with_reducible exact LeO.refl _)
   | (with_reducible exact LeO.none _)
   | (with_reducible refine LeO.ite ?_ ?_)
   | (with_reducible refine LeO.bind ?_ (fun _ => ?_))
   | exact whittleref1_Of.mono _ _ _
   | exact LeO.none _
   | refine LeO.ite ?_ ?_
   | refine LeO.bind ?_ (fun _ => ?_)
set_option maxHeartbeats 8000000 in
set_option maxRecDepth 100000 in
theorem whittleref1_Cmp.calls (k : Nat) (a0_0 : Int) (a0_1 : Int) (a1_0 : Int) (a1_1 : Int) (r : Int) (w : World) (h : whittleref1_Cmp.f k a0_0 a0_1 a1_0 a1_1 = some r) :
  Calls Tryz.prog 56 #[.agg #[.int .i64 a0_0, .int .i64 a0_1], .agg #[.int .i64 a1_0, .int .i64 a1_1]] w fun e w' => e = .returned (.int .i64 r) ∧ Below w.heap.size w w' := by
 have hu23 := Tryz.underlying23
 have BX := Bx.start w
 have H : ((whittleref1_Of.f k a0_0 a0_1).bind fun bt628 => ((whittleref1_Of.f k a1_0 a1_1).bind fun bt630 => (if (wrap64 (bt628.1 * bt630.2)) < (wrap64 (bt630.1 * bt628.2)) then (some (-1)) else (if (wrap64 (bt628.1 * bt630.2)) > (wrap64 (bt630.1 * bt628.2)) then (some 1) else (some 0))))) = some r := h
 clear h
 replace H := Option.bind_eq_some_iff.mp H
 obtain ⟨⟨t628, t629⟩, A30, H⟩ := H
 have A3 := Aside0.mk A30
 clear A30
 replace H := Option.bind_eq_some_iff.mp H
 obtain ⟨⟨t630, t631⟩, A40, H⟩ := H
 replace H : (if (wrap64 (t628 * t631)) < (wrap64 (t630 * t629)) then (some (-1)) else (if (wrap64 (t628 * t631)) > (wrap64 (t630 * t629)) then (some 1) else (some 0))) = some r := H
 have A4 := Aside0.mk A40
 clear A40
 by_cases c5 : (wrap64 (t628 * t631)) < (wrap64 (t630 * t629))
 ·rw [if_pos c5] at H
  have c5b0 : decide ((wrap64 (t628 * t631)) < (wrap64 (t630 * t629))) = true := decide_eq_true c5
  clear c5
  obtain rfl := Option.some.inj H
  go_enter Tryz.func56, Tryz.ntmps56
  go_wp2_with (first | ((with_reducible refine gate_dst (N := 2) rfl ?_); refine bxe 2 #[.int .i64 a0_0, .int .i64 a0_1] 23 rfl rfl gr ?_; clear BX; intro gb626 w6 GE626 BX) | ((with_reducible refine gate_dst (N := 3) rfl ?_); refine bxe 3 #[.int .i64 a1_0, .int .i64 a1_1] 23 rfl rfl gr ?_; clear BX; intro gb627 w7 GE627 BX) | ((with_reducible refine gate_callee (f := 78) rfl ?_); refine goesL_ (some 8) rfl rfl Tryz.func78 kr rfl #[.agg #[.int .i64 a0_0, .int .i64 a0_1]] rfl ga ?_; (with_reducible refine (whittleref1_Of.calls k a0_0 a0_1 t628 t629 _ A3.out).mono ?_); rintro e w10 ⟨rfl, hb⟩; refine ⟨_, rfl, ?_⟩; replace BX := bx_call hb; clear hb) | ((with_reducible refine gate_callee (f := 78) rfl ?_); refine goesL_ (some 10) rfl rfl Tryz.func78 kr rfl #[.agg #[.int .i64 a1_0, .int .i64 a1_1]] rfl ga ?_; (with_reducible refine (whittleref1_Of.calls k a1_0 a1_1 t630 t631 _ A4.out).mono ?_); rintro e w13 ⟨rfl, hb⟩; refine ⟨_, rfl, ?_⟩; replace BX := bx_call hb; clear hb))
  go_ret
  exact ⟨er2, bx_bl⟩
 ·rw [if_neg c5] at H
  have c5b0 : decide ((wrap64 (t628 * t631)) < (wrap64 (t630 * t629))) = false := decide_eq_false c5
  clear c5
  by_cases c16 : (wrap64 (t628 * t631)) > (wrap64 (t630 * t629))
  ·rw [if_pos c16] at H
   have c16b0 : decide ((wrap64 (t630 * t629)) < (wrap64 (t628 * t631))) = true := decide_eq_true c16
   clear c16
   obtain rfl := Option.some.inj H
   go_enter Tryz.func56, Tryz.ntmps56
   go_wp2_with (first | ((with_reducible refine gate_dst (N := 2) rfl ?_); refine bxe 2 #[.int .i64 a0_0, .int .i64 a0_1] 23 rfl rfl gr ?_; clear BX; intro gb626 w17 GE626 BX) | ((with_reducible refine gate_dst (N := 3) rfl ?_); refine bxe 3 #[.int .i64 a1_0, .int .i64 a1_1] 23 rfl rfl gr ?_; clear BX; intro gb627 w18 GE627 BX) | ((with_reducible refine gate_callee (f := 78) rfl ?_); refine goesL_ (some 8) rfl rfl Tryz.func78 kr rfl #[.agg #[.int .i64 a0_0, .int .i64 a0_1]] rfl ga ?_; (with_reducible refine (whittleref1_Of.calls k a0_0 a0_1 t628 t629 _ A3.out).mono ?_); rintro e w21 ⟨rfl, hb⟩; refine ⟨_, rfl, ?_⟩; replace BX := bx_call hb; clear hb) | ((with_reducible refine gate_callee (f := 78) rfl ?_); refine goesL_ (some 10) rfl rfl Tryz.func78 kr rfl #[.agg #[.int .i64 a1_0, .int .i64 a1_1]] rfl ga ?_; (with_reducible refine (whittleref1_Of.calls k a1_0 a1_1 t630 t631 _ A4.out).mono ?_); rintro e w24 ⟨rfl, hb⟩; refine ⟨_, rfl, ?_⟩; replace BX := bx_call hb; clear hb))
   go_ret
   exact ⟨er2, bx_bl⟩
  ·rw [if_neg c16] at H
   have c16b0 : decide ((wrap64 (t630 * t629)) < (wrap64 (t628 * t631))) = false := decide_eq_false c16
   clear c16
   obtain rfl := Option.some.inj H
   go_enter Tryz.func56, Tryz.ntmps56
   go_wp2_with (first | ((with_reducible refine gate_dst (N := 2) rfl ?_); refine bxe 2 #[.int .i64 a0_0, .int .i64 a0_1] 23 rfl rfl gr ?_; clear BX; intro gb626 w27 GE626 BX) | ((with_reducible refine gate_dst (N := 3) rfl ?_); refine bxe 3 #[.int .i64 a1_0, .int .i64 a1_1] 23 rfl rfl gr ?_; clear BX; intro gb627 w28 GE627 BX) | ((with_reducible refine gate_callee (f := 78) rfl ?_); refine goesL_ (some 8) rfl rfl Tryz.func78 kr rfl #[.agg #[.int .i64 a0_0, .int .i64 a0_1]] rfl ga ?_; (with_reducible refine (whittleref1_Of.calls k a0_0 a0_1 t628 t629 _ A3.out).mono ?_); rintro e w31 ⟨rfl, hb⟩; refine ⟨_, rfl, ?_⟩; replace BX := bx_call hb; clear hb) | ((with_reducible refine gate_callee (f := 78) rfl ?_); refine goesL_ (some 10) rfl rfl Tryz.func78 kr rfl #[.agg #[.int .i64 a1_0, .int .i64 a1_1]] rfl ga ?_; (with_reducible refine (whittleref1_Of.calls k a1_0 a1_1 t630 t631 _ A4.out).mono ?_); rintro e w34 ⟨rfl, hb⟩; refine ⟨_, rfl, ?_⟩; replace BX := bx_call hb; clear hb))
   go_ret
   exact ⟨er2, bx_bl⟩
end
section
/-! ### whittleref1_made: function 82 -/
def whittleref1_made.j0 : Nat → Bool → Int → Int → Bool → Option (Int × Int × Bool)
 | 0, _, _, _, _ => none
 | k + 1, x0, x1, x2, x23 => if x23 = true then (some (0, 0, false)) else (if x0 = true then (some (wrap64 (-(wrap64 (x1))), wrap64 (x2), true)) else (some (wrap64 (x1), wrap64 (x2), true)))
def whittleref1_made.f (k : Nat) (a0 : Bool) (a1 : Int) (a2 : Int) : Option (Int × Int × Bool) := (whittleref1_gcd.f k a1 a2).bind fun t667 => (if t667 = 0 then (none) else (if (IntKind.u64.wrap (Int.tdiv a1 t667)) > 1000000000000 then (whittleref1_made.j0 k a0 (IntKind.u64.wrap (Int.tdiv a1 t667)) (IntKind.u64.wrap (Int.tdiv a2 t667)) true) else (whittleref1_made.j0 k a0 (IntKind.u64.wrap (Int.tdiv a1 t667)) (IntKind.u64.wrap (Int.tdiv a2 t667)) (decide ((IntKind.u64.wrap (Int.tdiv a2 t667)) > 1000000)))))
theorem whittleref1_made.mono_l : ∀ k, (∀ y0 y1 y2 y3, LeO (whittleref1_made.j0 k y0 y1 y2 y3) (whittleref1_made.j0 (k + 1) y0 y1 y2 y3))
 | 0 => fun _ _ _ _ r h => by simp [whittleref1_made.j0] at h
 | k + 1 => by
  have ih0 := whittleref1_made.mono_l k
  ·intro y0 y1 y2 y3
   unfold whittleref1_made.j0
   repeat' first
   | (with_reducible exact ih0 _ _ _ _)
   | (with_reducible exact whittleref1_gcd.mono _ _ _)
   | (with_reducible exact LeO.refl _)
   | (with_reducible exact LeO.none _)
   | (with_reducible refine LeO.ite ?_ ?_)
   | (with_reducible refine LeO.bind ?_ (fun _ => ?_))
   | exact ih0 _ _ _ _
   | exact whittleref1_gcd.mono _ _ _
   | exact LeO.none _
   | refine LeO.ite ?_ ?_
   | refine LeO.bind ?_ (fun _ => ?_)
theorem whittleref1_made.mono : ∀ a0 a1 a2 k, LeO (whittleref1_made.f k a0 a1 a2) (whittleref1_made.f (k + 1) a0 a1 a2) := by
 intro a0 a1 a2 k
 have ih0 := whittleref1_made.mono_l k
 unfold whittleref1_made.f
 repeat' first
   | (with_reducible exact ih0 _ _ _ _)
   | (with_reducible exact whittleref1_gcd.mono _ _ _)
   | (with_reducible exact LeO.refl _)
   | (with_reducible exact LeO.none _)
   | (with_reducible refine LeO.ite ?_ ?_)
   | (with_reducible refine LeO.bind ?_ (fun _ => ?_))
   | exact ih0 _ _ _ _
   | exact whittleref1_gcd.mono _ _ _
   | exact LeO.none _
   | refine LeO.ite ?_ ?_
   | refine LeO.bind ?_ (fun _ => ?_)
set_option maxHeartbeats 8000000 in
set_option maxRecDepth 100000 in
theorem whittleref1_made.calls (k : Nat) (a0 : Bool) (a1 : Int) (a2 : Int) (r1 : Int) (r2 : Int) (r3 : Bool) (w : World) (h : whittleref1_made.f k a0 a1 a2 = some (r1, r2, r3)) :
  Calls Tryz.prog 82 #[.bool a0, .int .u64 a1, .int .u64 a2] w fun e w' => e = .returned (.tuple #[.agg #[.int .i64 r1, .int .i64 r2], .bool r3]) ∧ Below w.heap.size w w' := by
 have hu23 := Tryz.underlying23
 have BX := Bx.start w
 have H : ((whittleref1_gcd.f k a1 a2).bind fun t667 => (if t667 = 0 then (none) else (if (IntKind.u64.wrap (Int.tdiv a1 t667)) > 1000000000000 then (whittleref1_made.j0 k a0 (IntKind.u64.wrap (Int.tdiv a1 t667)) (IntKind.u64.wrap (Int.tdiv a2 t667)) true) else (whittleref1_made.j0 k a0 (IntKind.u64.wrap (Int.tdiv a1 t667)) (IntKind.u64.wrap (Int.tdiv a2 t667)) (decide ((IntKind.u64.wrap (Int.tdiv a2 t667)) > 1000000)))))) = some (r1, r2, r3) := h
 clear h
 replace H := Option.bind_eq_some_iff.mp H
 obtain ⟨t667, A40, H⟩ := H
 replace H : (if t667 = 0 then (none) else (if (IntKind.u64.wrap (Int.tdiv a1 t667)) > 1000000000000 then (whittleref1_made.j0 k a0 (IntKind.u64.wrap (Int.tdiv a1 t667)) (IntKind.u64.wrap (Int.tdiv a2 t667)) true) else (whittleref1_made.j0 k a0 (IntKind.u64.wrap (Int.tdiv a1 t667)) (IntKind.u64.wrap (Int.tdiv a2 t667)) (decide ((IntKind.u64.wrap (Int.tdiv a2 t667)) > 1000000))))) = some (r1, r2, r3) := H
 have A4 := Aside0.mk A40
 clear A40
 by_cases c5 : t667 = 0
 ·rw [if_pos c5] at H
  exact absurd H (by simp)
 ·rw [if_neg c5] at H
  have c5b0 : (t667 == 0) = false := beq_eq_false_iff_ne.mpr c5
  have c5b1 : (t667 != 0) = true := bne_iff_ne.mpr c5
  have HC6 := Aside0.mk H
  clear H
  go_enter Tryz.func82, Tryz.ntmps82
  go_upto_region 4 with (first | ((with_reducible refine gate_dst (N := 6) rfl ?_); refine bxe 6 #[.int .i64 0, .int .i64 0] 23 rfl rfl gr ?_; clear BX; intro gb666 w7 GE666 BX) | ((with_reducible refine gate_callee (f := 86) rfl ?_); refine goesL_ (some 11) rfl rfl Tryz.func86 kr rfl #[.int .u64 a1, .int .u64 a2] rfl ga ?_; (with_reducible refine (whittleref1_gcd.calls k a1 a2 t667 _ A4.out).mono ?_); rintro e w' ⟨rfl, ⟨nd, rfl⟩⟩; refine ⟨_, rfl, ?_⟩))
  (try simp only [Act.put, List.setIfInBounds_toArray, List.set_cons_zero, List.set_cons_succ])
  go_cut [23] (fun v23 wc => ∃ (kq : Nat) (x23_5 : Bool), v23 = .bool x23_5 ∧ Aside0 (whittleref1_made.j0 kq a0 (IntKind.u64.wrap (Int.tdiv a1 t667)) (IntKind.u64.wrap (Int.tdiv a2 t667)) x23_5 = some (r1, r2, r3)) ∧ Aside0 (kq ≤ k) ∧ Bx w wc [(gb666, 23, #[.int .i64 0, .int .i64 0])])
  case first =>
   have H := HC6.out
   clear HC6
   by_cases c8 : (IntKind.u64.wrap (Int.tdiv a1 t667)) > 1000000000000
   ·rw [if_pos c8] at H
    have c8b0 : decide (1000000000000 < (IntKind.u64.wrap (Int.tdiv a1 t667))) = true := decide_eq_true c8
    clear c8
    (first | rw [c8b0] | (simp only [i64_w, i32_w]; rw [c8b0]) | skip)
    have H' := Aside0.mk H
    clear H
    go_wp2
    go_meet
    case rel => exact ⟨_, (true), er, H', ⟨by first | omega | exact Nat.le_refl _⟩, bxs⟩
   ·rw [if_neg c8] at H
    have c8b0 : decide (1000000000000 < (IntKind.u64.wrap (Int.tdiv a1 t667))) = false := decide_eq_false c8
    clear c8
    (first | rw [c8b0] | (simp only [i64_w, i32_w]; rw [c8b0]) | skip)
    have H' := Aside0.mk H
    clear H
    go_wp2
    go_meet
    case rel => exact ⟨_, (decide ((IntKind.u64.wrap (Int.tdiv a2 t667)) > 1000000)), er, H', ⟨by first | omega | exact Nat.le_refl _⟩, bxs⟩
  case rest =>
   clear HC6
   try clear p2
   try clear c5
   try clear c5b0
   try clear c5b1
   try clear c8
   try clear c8b0
   obtain ⟨kq, x23_5, rfl, HA, HJ5, BX⟩ := hcut
   cases kq with
   | zero => exact absurd HA.out (by simp [whittleref1_made.j0])
   | succ kj5 =>
    have H := HA.out
    clear HA
    simp only [whittleref1_made.j0] at H
    by_cases c9 : x23_5 = true
    ·subst c9
     have H1 : (some (0, 0, false)) = some (r1, r2, r3) := by rw [if_pos rfl] at H; exact H
     clear H
     have H := H1
     clear H1
     simp only [Option.some.injEq, Prod.mk.injEq] at H
     obtain ⟨rfl, rfl, rfl⟩ := H
     go_wp2
     refine bodyPost_ret (results_ct rfl _ _ gb666 23 #[.int .i64 0, .int .i64 0] (0, 0) _ rfl bx_get Tryz.underlying23 rfl kr) rfl ?_
     exact ⟨er2, bx_bl⟩
    ·replace c9 := Bool.eq_false_iff.mpr c9
     subst c9
     have H1 : (if a0 = true then (some (wrap64 (-(wrap64 ((IntKind.u64.wrap (Int.tdiv a1 t667))))), wrap64 ((IntKind.u64.wrap (Int.tdiv a2 t667))), true)) else (some (wrap64 ((IntKind.u64.wrap (Int.tdiv a1 t667))), wrap64 ((IntKind.u64.wrap (Int.tdiv a2 t667))), true))) = some (r1, r2, r3) := by rw [if_neg (show ¬ (false = true) by decide)] at H; exact H
     clear H
     have H := H1
     clear H1
     by_cases c11 : a0 = true
     ·subst c11
      have H1 : (some (wrap64 (-(wrap64 ((IntKind.u64.wrap (Int.tdiv a1 t667))))), wrap64 ((IntKind.u64.wrap (Int.tdiv a2 t667))), true)) = some (r1, r2, r3) := by rw [if_pos rfl] at H; exact H
      clear H
      have H := H1
      clear H1
      simp only [Option.some.injEq, Prod.mk.injEq] at H
      obtain ⟨rfl, rfl, rfl⟩ := H
      go_wp2
      refine bodyPost_ret (results_ct rfl _ _ gb666 23 #[.int .i64 (wrap64 (-(wrap64 ((IntKind.u64.wrap (Int.tdiv a1 t667)))))), .int .i64 (wrap64 ((IntKind.u64.wrap (Int.tdiv a2 t667))))] (0, 0) _ rfl bx_get Tryz.underlying23 rfl kr) rfl ?_
      exact ⟨er2, bx_bl⟩
     ·replace c11 := Bool.eq_false_iff.mpr c11
      subst c11
      have H1 : (some (wrap64 ((IntKind.u64.wrap (Int.tdiv a1 t667))), wrap64 ((IntKind.u64.wrap (Int.tdiv a2 t667))), true)) = some (r1, r2, r3) := by rw [if_neg (show ¬ (false = true) by decide)] at H; exact H
      clear H
      have H := H1
      clear H1
      simp only [Option.some.injEq, Prod.mk.injEq] at H
      obtain ⟨rfl, rfl, rfl⟩ := H
      go_wp2
      refine bodyPost_ret (results_ct rfl _ _ gb666 23 #[.int .i64 (wrap64 ((IntKind.u64.wrap (Int.tdiv a1 t667)))), .int .i64 (wrap64 ((IntKind.u64.wrap (Int.tdiv a2 t667))))] (0, 0) _ rfl bx_get Tryz.underlying23 rfl kr) rfl ?_
      exact ⟨er2, bx_bl⟩
end
section
/-! ### whittleref1_Make: function 84 -/
def whittleref1_Make.f (k : Nat) (a0 : Int) (a1 : Int) : Option (Int × Int × Bool) := if a1 = 0 then (some (0, 0, false)) else ((whittleref1_far.f a0).bind fun t714 => ((whittleref1_far.f a1).bind fun t715 => ((whittleref1_made.f k ((decide (a0 < 0)) != (decide (a1 < 0))) t714 t715).bind fun bt716 => (some (bt716.1, bt716.2.1, bt716.2.2)))))
theorem whittleref1_Make.mono : ∀ a0 a1 k, LeO (whittleref1_Make.f k a0 a1) (whittleref1_Make.f (k + 1) a0 a1) := by
 intro a0 a1 k
 unfold whittleref1_Make.f
 repeat' first
   | (with_reducible exact whittleref1_made.mono _ _ _ _)
   | (with_reducible exact LeO.refl _)
   | (with_reducible exact LeO.none _)
   | (with_reducible refine LeO.ite ?_ ?_)
   | (with_reducible refine LeO.bind ?_ (fun _ => ?_))
   | exact whittleref1_made.mono _ _ _ _
   | exact LeO.none _
   | refine LeO.ite ?_ ?_
   | refine LeO.bind ?_ (fun _ => ?_)
set_option maxHeartbeats 8000000 in
set_option maxRecDepth 100000 in
theorem whittleref1_Make.calls (k : Nat) (a0 : Int) (a1 : Int) (r1 : Int) (r2 : Int) (r3 : Bool) (w : World) (h : whittleref1_Make.f k a0 a1 = some (r1, r2, r3)) :
  Calls Tryz.prog 84 #[.int .i64 a0, .int .i64 a1] w fun e w' => e = .returned (.tuple #[.agg #[.int .i64 r1, .int .i64 r2], .bool r3]) ∧ Below w.heap.size w w' := by
 have hu23 := Tryz.underlying23
 have BX := Bx.start w
 have H : (if a1 = 0 then (some (0, 0, false)) else ((whittleref1_far.f a0).bind fun t714 => ((whittleref1_far.f a1).bind fun t715 => ((whittleref1_made.f k ((decide (a0 < 0)) != (decide (a1 < 0))) t714 t715).bind fun bt716 => (some (bt716.1, bt716.2.1, bt716.2.2)))))) = some (r1, r2, r3) := h
 clear h
 by_cases c3 : a1 = 0
 ·rw [if_pos c3] at H
  have c3b0 : (a1 == 0) = true := beq_iff_eq.mpr c3
  have c3b1 : (a1 != 0) = false := bne_eq_false_iff_eq.mpr c3
  clear c3
  simp only [Option.some.injEq, Prod.mk.injEq] at H
  obtain ⟨rfl, rfl, rfl⟩ := H
  go_enter Tryz.func84, Tryz.ntmps84
  go_wp2_with (first | ((with_reducible refine gate_dst (N := 4) rfl ?_); refine bxe 4 #[.int .i64 0, .int .i64 0] 23 rfl rfl gr ?_; clear BX; intro gb713 w4 GE713 BX))
  refine bodyPost_ret (results_ct rfl _ _ gb713 23 #[.int .i64 0, .int .i64 0] (0, 0) _ rfl bx_get Tryz.underlying23 rfl kr) rfl ?_
  exact ⟨er2, bx_bl⟩
 ·rw [if_neg c3] at H
  have c3b0 : (a1 == 0) = false := beq_eq_false_iff_ne.mpr c3
  have c3b1 : (a1 != 0) = true := bne_iff_ne.mpr c3
  replace H := Option.bind_eq_some_iff.mp H
  obtain ⟨t714, A60, H⟩ := H
  have A6 := Aside0.mk A60
  clear A60
  replace H := Option.bind_eq_some_iff.mp H
  obtain ⟨t715, A70, H⟩ := H
  have A7 := Aside0.mk A70
  clear A70
  replace H := Option.bind_eq_some_iff.mp H
  obtain ⟨⟨t716, t717, t718⟩, A80, H⟩ := H
  replace H : (some (t716, t717, t718)) = some (r1, r2, r3) := H
  have A8 := Aside0.mk A80
  clear A80
  simp only [Option.some.injEq, Prod.mk.injEq] at H
  obtain ⟨rfl, rfl, rfl⟩ := H
  go_enter Tryz.func84, Tryz.ntmps84
  go_wp2_with (first | ((with_reducible refine gate_dst (N := 4) rfl ?_); refine bxe 4 #[.int .i64 0, .int .i64 0] 23 rfl rfl gr ?_; clear BX; intro gb713 w9 GE713 BX) | ((with_reducible refine gate_callee (f := 79) rfl ?_); refine goesL_ (some 15) rfl rfl Tryz.func79 kr rfl #[.int .i64 a0] rfl ga ?_; (with_reducible refine (whittleref1_far.calls a0 t714 _ A6.out).mono ?_); rintro e w' ⟨rfl, ⟨nd, rfl⟩⟩; refine ⟨_, rfl, ?_⟩) | ((with_reducible refine gate_callee (f := 79) rfl ?_); refine goesL_ (some 17) rfl rfl Tryz.func79 kr rfl #[.int .i64 a1] rfl ga ?_; (with_reducible refine (whittleref1_far.calls a1 t715 _ A7.out).mono ?_); rintro e w' ⟨rfl, ⟨nd, rfl⟩⟩; refine ⟨_, rfl, ?_⟩) | ((with_reducible refine gate_callee (f := 82) rfl ?_); refine goesL_ (some 18) rfl rfl Tryz.func82 kr rfl #[.bool ((decide (a0 < 0)) != (decide (a1 < 0))), .int .u64 t714, .int .u64 t715] rfl ga ?_; (with_reducible refine (whittleref1_made.calls k ((decide (a0 < 0)) != (decide (a1 < 0))) t714 t715 t716 t717 t718 _ A8.out).mono ?_); rintro e w12 ⟨rfl, hb⟩; refine ⟨_, rfl, ?_⟩; replace BX := bx_call hb; clear hb))
  refine bodyPost_ret (results_ct rfl _ _ gb713 23 #[.int .i64 t716, .int .i64 t717] (0, 0) _ rfl bx_get Tryz.underlying23 rfl kr) rfl ?_
  exact ⟨er2, bx_bl⟩
end
section
/-! ### whittleref1_Add: function 58 -/
def whittleref1_Add.f (k : Nat) (a0_0 : Int) (a0_1 : Int) (a1_0 : Int) (a1_1 : Int) : Option (Int × Int × Bool) := (whittleref1_Of.f k a0_0 a0_1).bind fun bt722 => ((whittleref1_Of.f k a1_0 a1_1).bind fun bt724 => ((whittleref1_Make.f k (wrap64 ((wrap64 (bt722.1 * bt724.2)) + (wrap64 (bt724.1 * bt722.2)))) (wrap64 (bt722.2 * bt724.2))).bind fun bt726 => (some (bt726.1, bt726.2.1, bt726.2.2))))
theorem whittleref1_Add.mono : ∀ a0 a1 a2 a3 k, LeO (whittleref1_Add.f k a0 a1 a2 a3) (whittleref1_Add.f (k + 1) a0 a1 a2 a3) := by
 intro a0 a1 a2 a3 k
 unfold whittleref1_Add.f
 repeat' first
   | (with_reducible exact whittleref1_Make.mono _ _ _)
   | (with_reducible exact whittleref1_Of.mono _ _ _)
   | (with_reducible exact LeO.refl _)
   | (with_reducible exact LeO.none _)
   | (with_reducible refine LeO.ite ?_ ?_)
   | (with_reducible refine LeO.bind ?_ (fun _ => ?_))
   | exact whittleref1_Make.mono _ _ _
   | exact whittleref1_Of.mono _ _ _
   | exact LeO.none _
   | refine LeO.ite ?_ ?_
   | refine LeO.bind ?_ (fun _ => ?_)
set_option maxHeartbeats 8000000 in
set_option maxRecDepth 100000 in
theorem whittleref1_Add.calls (k : Nat) (a0_0 : Int) (a0_1 : Int) (a1_0 : Int) (a1_1 : Int) (r1 : Int) (r2 : Int) (r3 : Bool) (w : World) (h : whittleref1_Add.f k a0_0 a0_1 a1_0 a1_1 = some (r1, r2, r3)) :
  Calls Tryz.prog 58 #[.agg #[.int .i64 a0_0, .int .i64 a0_1], .agg #[.int .i64 a1_0, .int .i64 a1_1]] w fun e w' => e = .returned (.tuple #[.agg #[.int .i64 r1, .int .i64 r2], .bool r3]) ∧ Below w.heap.size w w' := by
 have hu23 := Tryz.underlying23
 have BX := Bx.start w
 have H : ((whittleref1_Of.f k a0_0 a0_1).bind fun bt722 => ((whittleref1_Of.f k a1_0 a1_1).bind fun bt724 => ((whittleref1_Make.f k (wrap64 ((wrap64 (bt722.1 * bt724.2)) + (wrap64 (bt724.1 * bt722.2)))) (wrap64 (bt722.2 * bt724.2))).bind fun bt726 => (some (bt726.1, bt726.2.1, bt726.2.2))))) = some (r1, r2, r3) := h
 clear h
 replace H := Option.bind_eq_some_iff.mp H
 obtain ⟨⟨t722, t723⟩, A30, H⟩ := H
 have A3 := Aside0.mk A30
 clear A30
 replace H := Option.bind_eq_some_iff.mp H
 obtain ⟨⟨t724, t725⟩, A40, H⟩ := H
 have A4 := Aside0.mk A40
 clear A40
 replace H := Option.bind_eq_some_iff.mp H
 obtain ⟨⟨t726, t727, t728⟩, A50, H⟩ := H
 replace H : (some (t726, t727, t728)) = some (r1, r2, r3) := H
 have A5 := Aside0.mk A50
 clear A50
 simp only [Option.some.injEq, Prod.mk.injEq] at H
 obtain ⟨rfl, rfl, rfl⟩ := H
 go_enter Tryz.func58, Tryz.ntmps58
 go_wp2_with (first | ((with_reducible refine gate_dst (N := 2) rfl ?_); refine bxe 2 #[.int .i64 a0_0, .int .i64 a0_1] 23 rfl rfl gr ?_; clear BX; intro gb719 w6 GE719 BX) | ((with_reducible refine gate_dst (N := 3) rfl ?_); refine bxe 3 #[.int .i64 a1_0, .int .i64 a1_1] 23 rfl rfl gr ?_; clear BX; intro gb720 w7 GE720 BX) | ((with_reducible refine gate_dst (N := 4) rfl ?_); refine bxe 4 #[.int .i64 0, .int .i64 0] 23 rfl rfl gr ?_; clear BX; intro gb721 w8 GE721 BX) | ((with_reducible refine gate_callee (f := 78) rfl ?_); refine goesL_ (some 7) rfl rfl Tryz.func78 kr rfl #[.agg #[.int .i64 a0_0, .int .i64 a0_1]] rfl ga ?_; (with_reducible refine (whittleref1_Of.calls k a0_0 a0_1 t722 t723 _ A3.out).mono ?_); rintro e w12 ⟨rfl, hb⟩; refine ⟨_, rfl, ?_⟩; replace BX := bx_call hb; clear hb) | ((with_reducible refine gate_callee (f := 78) rfl ?_); refine goesL_ (some 9) rfl rfl Tryz.func78 kr rfl #[.agg #[.int .i64 a1_0, .int .i64 a1_1]] rfl ga ?_; (with_reducible refine (whittleref1_Of.calls k a1_0 a1_1 t724 t725 _ A4.out).mono ?_); rintro e w16 ⟨rfl, hb⟩; refine ⟨_, rfl, ?_⟩; replace BX := bx_call hb; clear hb) | ((with_reducible refine gate_callee (f := 84) rfl ?_); refine goesL_ (some 26) rfl rfl Tryz.func84 kr rfl #[.int .i64 (wrap64 ((wrap64 (t722 * t725)) + (wrap64 (t724 * t723)))), .int .i64 (wrap64 (t723 * t725))] rfl ga ?_; (with_reducible refine (whittleref1_Make.calls k (wrap64 ((wrap64 (t722 * t725)) + (wrap64 (t724 * t723)))) (wrap64 (t723 * t725)) t726 t727 t728 _ A5.out).mono ?_); rintro e w19 ⟨rfl, hb⟩; refine ⟨_, rfl, ?_⟩; replace BX := bx_call hb; clear hb))
 refine bodyPost_ret (results_ct rfl _ _ gb721 23 #[.int .i64 t726, .int .i64 t727] (0, 0) _ rfl bx_get Tryz.underlying23 rfl kr) rfl ?_
 exact ⟨er2, bx_bl⟩
end
section
/-! ### whittleref1_Neg: function 85 -/
def whittleref1_Neg.f (k : Nat) (a0_0 : Int) (a0_1 : Int) : Option (Int × Int) := (whittleref1_Of.f k a0_0 a0_1).bind fun bt731 => (some (wrap64 (-bt731.1), bt731.2))
theorem whittleref1_Neg.mono : ∀ a0 a1 k, LeO (whittleref1_Neg.f k a0 a1) (whittleref1_Neg.f (k + 1) a0 a1) := by
 intro a0 a1 k
 unfold whittleref1_Neg.f
 repeat' first
   | (with_reducible exact whittleref1_Of.mono _ _ _)
   | (with_reducible exact LeO.refl _)
   | (with_reducible exact LeO.none _)
   | (with_reducible refine LeO.ite ?_ ?_)
   | (with_reducible refine LeO.bind ?_ (fun _ => ?_))
   | exact whittleref1_Of.mono _ _ _
   | exact LeO.none _
   | refine LeO.ite ?_ ?_
   | refine LeO.bind ?_ (fun _ => ?_)
set_option maxHeartbeats 8000000 in
set_option maxRecDepth 100000 in
theorem whittleref1_Neg.calls (k : Nat) (a0_0 : Int) (a0_1 : Int) (r1 : Int) (r2 : Int) (w : World) (h : whittleref1_Neg.f k a0_0 a0_1 = some (r1, r2)) :
  Calls Tryz.prog 85 #[.agg #[.int .i64 a0_0, .int .i64 a0_1]] w fun e w' => e = .returned (.agg #[.int .i64 r1, .int .i64 r2]) ∧ Below w.heap.size w w' := by
 have hu23 := Tryz.underlying23
 have BX := Bx.start w
 have H : ((whittleref1_Of.f k a0_0 a0_1).bind fun bt731 => (some (wrap64 (-bt731.1), bt731.2))) = some (r1, r2) := h
 clear h
 replace H := Option.bind_eq_some_iff.mp H
 obtain ⟨⟨t731, t732⟩, A20, H⟩ := H
 replace H : (some (wrap64 (-t731), t732)) = some (r1, r2) := H
 have A2 := Aside0.mk A20
 clear A20
 simp only [Option.some.injEq, Prod.mk.injEq] at H
 obtain ⟨rfl, rfl⟩ := H
 go_enter Tryz.func85, Tryz.ntmps85
 go_wp2_with (first | ((with_reducible refine gate_dst (N := 1) rfl ?_); refine bxe 1 #[.int .i64 a0_0, .int .i64 a0_1] 23 rfl rfl gr ?_; clear BX; intro gb729 w3 GE729 BX) | ((with_reducible refine gate_dst (N := 2) rfl ?_); refine bxe 2 #[.int .i64 0, .int .i64 0] 23 rfl rfl gr ?_; clear BX; intro gb730 w4 GE730 BX) | ((with_reducible refine gate_callee (f := 78) rfl ?_); refine goesL_ (some 4) rfl rfl Tryz.func78 kr rfl #[.agg #[.int .i64 a0_0, .int .i64 a0_1]] rfl ga ?_; (with_reducible refine (whittleref1_Of.calls k a0_0 a0_1 t731 t732 _ A2.out).mono ?_); rintro e w7 ⟨rfl, hb⟩; refine ⟨_, rfl, ?_⟩; replace BX := bx_call hb; clear hb))
 refine bodyPost_ret (results_cell_row rfl _ _ gb730 23 #[.int .i64 (wrap64 (-t731)), .int .i64 t732] (0, 0) _ rfl bx_get Tryz.underlying23 rfl kr) rfl ?_
 exact ⟨er2, bx_bl⟩
end
section
/-! ### whittleref1_Sub: function 59 -/
def whittleref1_Sub.f (k : Nat) (a0_0 : Int) (a0_1 : Int) (a1_0 : Int) (a1_1 : Int) : Option (Int × Int × Bool) := (whittleref1_Neg.f k a1_0 a1_1).bind fun bt736 => ((whittleref1_Add.f k a0_0 a0_1 bt736.1 bt736.2).bind fun bt738 => (some (bt738.1, bt738.2.1, bt738.2.2)))
theorem whittleref1_Sub.mono : ∀ a0 a1 a2 a3 k, LeO (whittleref1_Sub.f k a0 a1 a2 a3) (whittleref1_Sub.f (k + 1) a0 a1 a2 a3) := by
 intro a0 a1 a2 a3 k
 unfold whittleref1_Sub.f
 repeat' first
   | (with_reducible exact whittleref1_Add.mono _ _ _ _ _)
   | (with_reducible exact whittleref1_Neg.mono _ _ _)
   | (with_reducible exact LeO.refl _)
   | (with_reducible exact LeO.none _)
   | (with_reducible refine LeO.ite ?_ ?_)
   | (with_reducible refine LeO.bind ?_ (fun _ => ?_))
   | exact whittleref1_Add.mono _ _ _ _ _
   | exact whittleref1_Neg.mono _ _ _
   | exact LeO.none _
   | refine LeO.ite ?_ ?_
   | refine LeO.bind ?_ (fun _ => ?_)
def whittleref1_Sub.T1 : Bool × List (List Nat × List Nat) := (true, [([], []), ([], []), ([1], [1]), ([0, 2, 2], [0, 2]), ([3], [3]), ([3], [3]), ([4, 3, 0, 1, 2, 3, 4, 5], [4]), ([5, 6, 0, 1, 2, 3, 4, 5, 6], [5])])
def whittleref1_Sub.B1 : List Nat := [0, 0, 2, 7, 15, 15, 63, 127]
theorem whittleref1_Sub.tab1 : rtab .any (opsOf Tryz.f59 1) = whittleref1_Sub.T1 := by kernel_rfl
theorem whittleref1_Sub.bits1 : waitsOk whittleref1_Sub.T1.2 whittleref1_Sub.B1 = true := by kernel_rfl
set_option maxHeartbeats 8000000 in
set_option maxRecDepth 100000 in
theorem whittleref1_Sub.calls (k : Nat) (a0_0 : Int) (a0_1 : Int) (a1_0 : Int) (a1_1 : Int) (r1 : Int) (r2 : Int) (r3 : Bool) (w : World) (h : whittleref1_Sub.f k a0_0 a0_1 a1_0 a1_1 = some (r1, r2, r3)) :
  Calls Tryz.prog 59 #[.agg #[.int .i64 a0_0, .int .i64 a0_1], .agg #[.int .i64 a1_0, .int .i64 a1_1]] w fun e w' => e = .returned (.tuple #[.agg #[.int .i64 r1, .int .i64 r2], .bool r3]) ∧ Below w.heap.size w w' := by
 have hu23 := Tryz.underlying23
 have BX := Bx.start w
 have H : ((whittleref1_Neg.f k a1_0 a1_1).bind fun bt736 => ((whittleref1_Add.f k a0_0 a0_1 bt736.1 bt736.2).bind fun bt738 => (some (bt738.1, bt738.2.1, bt738.2.2)))) = some (r1, r2, r3) := h
 clear h
 replace H := Option.bind_eq_some_iff.mp H
 obtain ⟨⟨t736, t737⟩, A30, H⟩ := H
 have A3 := Aside0.mk A30
 clear A30
 replace H := Option.bind_eq_some_iff.mp H
 obtain ⟨⟨t738, t739, t740⟩, A40, H⟩ := H
 replace H : (some (t738, t739, t740)) = some (r1, r2, r3) := H
 have A4 := Aside0.mk A40
 clear A40
 simp only [Option.some.injEq, Prod.mk.injEq] at H
 obtain ⟨rfl, rfl, rfl⟩ := H
 go_enter Tryz.func59, Tryz.ntmps59
 try go_wp2_with (first | ((with_reducible refine gate_dst (N := 2) rfl ?_); refine bxe 2 #[.int .i64 a0_0, .int .i64 a0_1] 23 rfl rfl gr ?_; clear BX; intro gb733 w5 GE733 BX) | ((with_reducible refine gate_dst (N := 3) rfl ?_); refine bxe 3 #[.int .i64 a1_0, .int .i64 a1_1] 23 rfl rfl gr ?_; clear BX; intro gb734 w6 GE734 BX) | ((with_reducible refine gate_dst (N := 4) rfl ?_); refine bxe 4 #[.int .i64 0, .int .i64 0] 23 rfl rfl gr ?_; clear BX; intro gb735 w7 GE735 BX))
 refine startm [false, true, true] (n := 8) (ds := []) #[false, false, false, false, false, false, false, false] kr rfl rfl (fun BX1 => ?_); refine with_tabW whittleref1_Sub.tab1 whittleref1_Sub.bits1 (fun HT_ HW_ => ?_)
 clear BX
 have BX := BX1
 clear BX1
 generalize w7.drew = w8 at BX ⊢
 refine take_ (i := 0) (N := some 6) (v := ?_) (a' := ?_) #[true, false, false, false, false, false, false, false] rfl rfl (take_ofW HT_.out HW_.out kr) (fun _ _ _ h => h) (Or.inl ⟨by rfl, ?_⟩) bxs ?_ ?_
 rotate_left
 ·intro w' hS
  go_simp
  with_reducible rfl
 rotate_left
 ·simp only [Act.put, List.setIfInBounds_toArray, List.set_cons_zero, List.set_cons_succ, i64_w, i32_w]
  rfl
 refine take_ (i := 1) (N := some 7) (v := ?_) (a' := ?_) #[true, true, false, false, false, false, false, false] rfl rfl (take_ofW HT_.out HW_.out kr) (fun _ _ _ h => h) (Or.inl ⟨by rfl, ?_⟩) bxs ?_ ?_
 rotate_left
 ·intro w' hS
  go_simp
  with_reducible rfl
 rotate_left
 ·simp only [Act.put, List.setIfInBounds_toArray, List.set_cons_zero, List.set_cons_succ, i64_w, i32_w]
  rfl
 refine one_ (i := 2) (N := some 8) #[true, true, true, false, false, false, false, false] rfl rfl (one_of HT_.out kr) (by decide) (fun K hK => ?_)
 refine goes_ Tryz.func85 kr rfl #[.agg #[.int .i64 a1_0, .int .i64 a1_1]] (by rfl) rfl rfl ga ?_
 with_reducible refine (whittleref1_Neg.calls k a1_0 a1_1 t736 t737 _ A3.out).mono ?_
 rintro e w9 ⟨rfl, hb⟩
 refine ⟨_, rfl, ?_⟩
 replace BX := bx_call hb
 clear hb
 refine hK.out _ _ bxs (fun hHeld => ?_)
 clear hK K hHeld
 refine norm_ (a' := ?_) ?_ ?_
 rotate_left
 ·show Act.put _ (some 8) _ = _
  simp only [Act.put, List.setIfInBounds_toArray, List.set_cons_zero, List.set_cons_succ, i64_w, i32_w]
  rfl
 refine one_ (i := 3) (N := some 9) #[true, true, true, true, false, false, false, false] rfl rfl (one_of HT_.out kr) (by decide) (fun K hK => ?_)
 refine goes_ Tryz.func58 kr rfl #[.agg #[.int .i64 a0_0, .int .i64 a0_1], .agg #[.int .i64 t736, .int .i64 t737]] (by rfl) rfl rfl ga ?_
 with_reducible refine (whittleref1_Add.calls k a0_0 a0_1 t736 t737 t738 t739 t740 _ A4.out).mono ?_
 rintro e w10 ⟨rfl, hb⟩
 refine ⟨_, rfl, ?_⟩
 replace BX := bx_call hb
 clear hb
 refine hK.out _ _ bxs (fun hHeld => ?_)
 clear hK K hHeld
 refine norm_ (a' := ?_) ?_ ?_
 rotate_left
 ·show Act.put _ (some 9) _ = _
  simp only [Act.put, List.setIfInBounds_toArray, List.set_cons_zero, List.set_cons_succ, i64_w, i32_w]
  rfl
 refine pure_ (i := 4) (N := some 10) (v := ?_) (a' := ?_) #[true, true, true, true, true, false, false, false] rfl rfl (any_of HT_.out kr) (fun _ _ _ h => h) (Or.inl ⟨by rfl, ?_⟩) ?_ ?_
 rotate_left
 ·intro w'
  go_simp
  with_reducible rfl
 rotate_left
 ·simp only [Act.put, List.setIfInBounds_toArray, List.set_cons_zero, List.set_cons_succ, i64_w, i32_w]
  rfl
 refine pure_ (i := 5) (N := some 11) (v := ?_) (a' := ?_) #[true, true, true, true, true, true, false, false] rfl rfl (any_of HT_.out kr) (fun _ _ _ h => h) (Or.inl ⟨by rfl, ?_⟩) ?_ ?_
 rotate_left
 ·intro w'
  go_simp
  with_reducible rfl
 rotate_left
 ·simp only [Act.put, List.setIfInBounds_toArray, List.set_cons_zero, List.set_cons_succ, i64_w, i32_w]
  rfl
 refine one_ (i := 6) (N := none) #[true, true, true, true, true, true, true, false] rfl rfl (one_of HT_.out kr) (by decide) (fun K hK => ?_)
 refine skip_ (w1 := ?_) (by rfl) rfl ?_ ?_
 rotate_left
 ·go_simp
  rfl
 refine hK.out _ _ bxs (fun hHeld => ?_)
 clear hK K hHeld
 refine pure_ (i := 7) (N := some 5) (v := ?_) (a' := ?_) #[true, true, true, true, true, true, true, true] rfl rfl (any_of HT_.out kr) (fun _ _ _ h => h) (Or.inl ⟨by rfl, ?_⟩) ?_ ?_
 rotate_left
 ·intro w'
  go_simp
  with_reducible rfl
 rotate_left
 ·simp only [Act.put, List.setIfInBounds_toArray, List.set_cons_zero, List.set_cons_succ, i64_w, i32_w]
  rfl
 refine done_ (done_of HT_.out kr) ?_
 try go_wp2
 refine bodyPost_ret (results_ct rfl _ _ gb735 23 #[.int .i64 t738, .int .i64 t739] (0, 0) _ rfl bx_get Tryz.underlying23 rfl kr) rfl ?_
 exact ⟨er2, bx_bl⟩
end
section
/-! ### whittleref1_Mul: function 60 -/
def whittleref1_Mul.j0 : Nat → Bool → Int → Int → Int → Int → Option (Int × Int × Bool)
 | 0, _, _, _, _, _ => none
 | k + 1, x22, x742000, x742001, x743000, x743001 => if x22 = true then (some (0, 1, true)) else ((whittleref1_far.f x742000).bind fun t748 => ((whittleref1_far.f x743000).bind fun t749 => ((whittleref1_gcd.f k t748 (IntKind.u64.wrap (x743001))).bind fun t750 => (if t750 = 0 then (none) else ((whittleref1_gcd.f k t749 (IntKind.u64.wrap (x742001))).bind fun t751 => (if t751 = 0 then (none) else (if (IntKind.u64.wrap (Int.tdiv t749 t751)) = 0 then (none) else (if (IntKind.u64.wrap (Int.tdiv t748 t750)) > (IntKind.u64.wrap (Int.tdiv (1000000000000 : Int) (IntKind.u64.wrap (Int.tdiv t749 t751)))) then (some (0, 0, false)) else (if (IntKind.u64.wrap (Int.tdiv (IntKind.u64.wrap (x743001)) t750)) = 0 then (none) else (if (IntKind.u64.wrap (Int.tdiv (IntKind.u64.wrap (x742001)) t751)) > (IntKind.u64.wrap (Int.tdiv (1000000 : Int) (IntKind.u64.wrap (Int.tdiv (IntKind.u64.wrap (x743001)) t750)))) then (some (0, 0, false)) else ((whittleref1_made.f k ((decide (x742000 < 0)) != (decide (x743000 < 0))) (IntKind.u64.wrap ((IntKind.u64.wrap (Int.tdiv t748 t750)) * (IntKind.u64.wrap (Int.tdiv t749 t751)))) (IntKind.u64.wrap ((IntKind.u64.wrap (Int.tdiv (IntKind.u64.wrap (x742001)) t751)) * (IntKind.u64.wrap (Int.tdiv (IntKind.u64.wrap (x743001)) t750))))).bind fun bt752 => (some (bt752.1, bt752.2.1, bt752.2.2)))))))))))))
def whittleref1_Mul.f (k : Nat) (a0_0 : Int) (a0_1 : Int) (a1_0 : Int) (a1_1 : Int) : Option (Int × Int × Bool) := (whittleref1_Of.f k a0_0 a0_1).bind fun bt744 => ((whittleref1_Of.f k a1_0 a1_1).bind fun bt746 => (if bt744.1 = 0 then (whittleref1_Mul.j0 k true bt744.1 bt744.2 bt746.1 bt746.2) else (whittleref1_Mul.j0 k (bt746.1 == 0) bt744.1 bt744.2 bt746.1 bt746.2)))
theorem whittleref1_Mul.mono_l : ∀ k, (∀ y0 y1 y2 y3 y4, LeO (whittleref1_Mul.j0 k y0 y1 y2 y3 y4) (whittleref1_Mul.j0 (k + 1) y0 y1 y2 y3 y4))
 | 0 => fun _ _ _ _ _ r h => by simp [whittleref1_Mul.j0] at h
 | k + 1 => by
  have ih0 := whittleref1_Mul.mono_l k
  ·intro y0 y1 y2 y3 y4
   unfold whittleref1_Mul.j0
   repeat' first
   | (with_reducible exact ih0 _ _ _ _ _)
   | (with_reducible exact whittleref1_Of.mono _ _ _)
   | (with_reducible exact whittleref1_gcd.mono _ _ _)
   | (with_reducible exact whittleref1_made.mono _ _ _ _)
   | (with_reducible exact LeO.refl _)
   | (with_reducible exact LeO.none _)
   | (with_reducible refine LeO.ite ?_ ?_)
   | (with_reducible refine LeO.bind ?_ (fun _ => ?_))
   | exact ih0 _ _ _ _ _
   | exact whittleref1_Of.mono _ _ _
   | exact whittleref1_gcd.mono _ _ _
   | exact whittleref1_made.mono _ _ _ _
   | exact LeO.none _
   | refine LeO.ite ?_ ?_
   | refine LeO.bind ?_ (fun _ => ?_)
theorem whittleref1_Mul.mono : ∀ a0 a1 a2 a3 k, LeO (whittleref1_Mul.f k a0 a1 a2 a3) (whittleref1_Mul.f (k + 1) a0 a1 a2 a3) := by
 intro a0 a1 a2 a3 k
 have ih0 := whittleref1_Mul.mono_l k
 unfold whittleref1_Mul.f
 repeat' first
   | (with_reducible exact ih0 _ _ _ _ _)
   | (with_reducible exact whittleref1_Of.mono _ _ _)
   | (with_reducible exact whittleref1_gcd.mono _ _ _)
   | (with_reducible exact whittleref1_made.mono _ _ _ _)
   | (with_reducible exact LeO.refl _)
   | (with_reducible exact LeO.none _)
   | (with_reducible refine LeO.ite ?_ ?_)
   | (with_reducible refine LeO.bind ?_ (fun _ => ?_))
   | exact ih0 _ _ _ _ _
   | exact whittleref1_Of.mono _ _ _
   | exact whittleref1_gcd.mono _ _ _
   | exact whittleref1_made.mono _ _ _ _
   | exact LeO.none _
   | refine LeO.ite ?_ ?_
   | refine LeO.bind ?_ (fun _ => ?_)
set_option maxHeartbeats 8000000 in
set_option maxRecDepth 100000 in
theorem whittleref1_Mul.calls (k : Nat) (a0_0 : Int) (a0_1 : Int) (a1_0 : Int) (a1_1 : Int) (r1 : Int) (r2 : Int) (r3 : Bool) (w : World) (h : whittleref1_Mul.f k a0_0 a0_1 a1_0 a1_1 = some (r1, r2, r3)) :
  Calls Tryz.prog 60 #[.agg #[.int .i64 a0_0, .int .i64 a0_1], .agg #[.int .i64 a1_0, .int .i64 a1_1]] w fun e w' => e = .returned (.tuple #[.agg #[.int .i64 r1, .int .i64 r2], .bool r3]) ∧ Below w.heap.size w w' := by
 have hu23 := Tryz.underlying23
 have BX := Bx.start w
 have H : ((whittleref1_Of.f k a0_0 a0_1).bind fun bt744 => ((whittleref1_Of.f k a1_0 a1_1).bind fun bt746 => (if bt744.1 = 0 then (whittleref1_Mul.j0 k true bt744.1 bt744.2 bt746.1 bt746.2) else (whittleref1_Mul.j0 k (bt746.1 == 0) bt744.1 bt744.2 bt746.1 bt746.2)))) = some (r1, r2, r3) := h
 clear h
 replace H := Option.bind_eq_some_iff.mp H
 obtain ⟨⟨t744, t745⟩, A30, H⟩ := H
 have A3 := Aside0.mk A30
 clear A30
 replace H := Option.bind_eq_some_iff.mp H
 obtain ⟨⟨t746, t747⟩, A40, H⟩ := H
 replace H : (if t744 = 0 then (whittleref1_Mul.j0 k true t744 t745 t746 t747) else (whittleref1_Mul.j0 k (t746 == 0) t744 t745 t746 t747)) = some (r1, r2, r3) := H
 have A4 := Aside0.mk A40
 clear A40
 have HC5 := Aside0.mk H
 clear H
 go_enter Tryz.func60, Tryz.ntmps60
 go_upto_region 3 with (first | ((with_reducible refine gate_dst (N := 2) rfl ?_); refine bxe 2 #[.int .i64 a0_0, .int .i64 a0_1] 23 rfl rfl gr ?_; clear BX; intro gb741 w6 GE741 BX) | ((with_reducible refine gate_dst (N := 3) rfl ?_); refine bxe 3 #[.int .i64 a1_0, .int .i64 a1_1] 23 rfl rfl gr ?_; clear BX; intro gb742 w7 GE742 BX) | ((with_reducible refine gate_dst (N := 4) rfl ?_); refine bxe 4 #[.int .i64 0, .int .i64 0] 23 rfl rfl gr ?_; clear BX; intro gb743 w8 GE743 BX) | ((with_reducible refine gate_callee (f := 78) rfl ?_); refine goesL_ (some 12) rfl rfl Tryz.func78 kr rfl #[.agg #[.int .i64 a0_0, .int .i64 a0_1]] rfl ga ?_; (with_reducible refine (whittleref1_Of.calls k a0_0 a0_1 t744 t745 _ A3.out).mono ?_); rintro e w12 ⟨rfl, hb⟩; refine ⟨_, rfl, ?_⟩; replace BX := bx_call hb; clear hb) | ((with_reducible refine gate_callee (f := 78) rfl ?_); refine goesL_ (some 14) rfl rfl Tryz.func78 kr rfl #[.agg #[.int .i64 a1_0, .int .i64 a1_1]] rfl ga ?_; (with_reducible refine (whittleref1_Of.calls k a1_0 a1_1 t746 t747 _ A4.out).mono ?_); rintro e w16 ⟨rfl, hb⟩; refine ⟨_, rfl, ?_⟩; replace BX := bx_call hb; clear hb))
 (try simp only [Act.put, List.setIfInBounds_toArray, List.set_cons_zero, List.set_cons_succ])
 go_cut [22] (fun v22 wc => ∃ (kq : Nat) (x22_4 : Bool), v22 = .bool x22_4 ∧ Aside0 (whittleref1_Mul.j0 kq x22_4 t744 t745 t746 t747 = some (r1, r2, r3)) ∧ Aside0 (kq ≤ k) ∧ Bx w wc [(gb743, 23, #[.int .i64 0, .int .i64 0]), (gb742, 23, #[.int .i64 t746, .int .i64 t747]), (gb741, 23, #[.int .i64 t744, .int .i64 t745])])
 case first =>
  have H := HC5.out
  clear HC5
  by_cases c18 : t744 = 0
  ·rw [if_pos c18] at H
   have c18b0 : (t744 == 0) = true := beq_iff_eq.mpr c18
   have c18b1 : (t744 != 0) = false := bne_eq_false_iff_eq.mpr c18
   clear c18
   (first | rw [c18b0] | (simp only [i64_w, i32_w]; rw [c18b0]) | skip)
   have H' := Aside0.mk H
   clear H
   go_wp2
   go_meet
   case rel => exact ⟨_, (true), er, H', ⟨by first | omega | exact Nat.le_refl _⟩, bxs⟩
  ·rw [if_neg c18] at H
   have c18b0 : (t744 == 0) = false := beq_eq_false_iff_ne.mpr c18
   have c18b1 : (t744 != 0) = true := bne_iff_ne.mpr c18
   (first | rw [c18b0] | (simp only [i64_w, i32_w]; rw [c18b0]) | skip)
   have H' := Aside0.mk H
   clear H
   go_wp2
   go_meet
   case rel => exact ⟨_, ((t746 == 0)), er, H', ⟨by first | omega | exact Nat.le_refl _⟩, bxs⟩
 case rest =>
  clear HC5
  try clear c1
  try clear c2
  try clear p2
  try clear c6
  try clear c7
  try clear c9
  try clear c10
  try clear c14
  try clear c18
  try clear c18b0
  try clear c18b1
  try clear c19
  try clear c20
  try clear c22
  try clear c23
  try clear c25
  obtain ⟨kq, x22_4, rfl, HA, HJ4, BX⟩ := hcut
  cases kq with
  | zero => exact absurd HA.out (by simp [whittleref1_Mul.j0])
  | succ kj4 =>
   have H := HA.out
   clear HA
   simp only [whittleref1_Mul.j0] at H
   by_cases c27 : x22_4 = true
   ·subst c27
    have H1 : (some (0, 1, true)) = some (r1, r2, r3) := by rw [if_pos rfl] at H; exact H
    clear H
    have H := H1
    clear H1
    simp only [Option.some.injEq, Prod.mk.injEq] at H
    obtain ⟨rfl, rfl, rfl⟩ := H
    go_wp2
    refine bodyPost_ret (results_ct rfl _ _ gb743 23 #[.int .i64 0, .int .i64 1] (0, 0) _ rfl bx_get Tryz.underlying23 rfl kr) rfl ?_
    exact ⟨er2, bx_bl⟩
   ·replace c27 := Bool.eq_false_iff.mpr c27
    subst c27
    have H1 : ((whittleref1_far.f t744).bind fun t748 => ((whittleref1_far.f t746).bind fun t749 => ((whittleref1_gcd.f kj4 t748 (IntKind.u64.wrap (t747))).bind fun t750 => (if t750 = 0 then (none) else ((whittleref1_gcd.f kj4 t749 (IntKind.u64.wrap (t745))).bind fun t751 => (if t751 = 0 then (none) else (if (IntKind.u64.wrap (Int.tdiv t749 t751)) = 0 then (none) else (if (IntKind.u64.wrap (Int.tdiv t748 t750)) > (IntKind.u64.wrap (Int.tdiv (1000000000000 : Int) (IntKind.u64.wrap (Int.tdiv t749 t751)))) then (some (0, 0, false)) else (if (IntKind.u64.wrap (Int.tdiv (IntKind.u64.wrap (t747)) t750)) = 0 then (none) else (if (IntKind.u64.wrap (Int.tdiv (IntKind.u64.wrap (t745)) t751)) > (IntKind.u64.wrap (Int.tdiv (1000000 : Int) (IntKind.u64.wrap (Int.tdiv (IntKind.u64.wrap (t747)) t750)))) then (some (0, 0, false)) else ((whittleref1_made.f kj4 ((decide (t744 < 0)) != (decide (t746 < 0))) (IntKind.u64.wrap ((IntKind.u64.wrap (Int.tdiv t748 t750)) * (IntKind.u64.wrap (Int.tdiv t749 t751)))) (IntKind.u64.wrap ((IntKind.u64.wrap (Int.tdiv (IntKind.u64.wrap (t745)) t751)) * (IntKind.u64.wrap (Int.tdiv (IntKind.u64.wrap (t747)) t750))))).bind fun bt752 => (some (bt752.1, bt752.2.1, bt752.2.2))))))))))))) = some (r1, r2, r3) := by rw [if_neg (show ¬ (false = true) by decide)] at H; exact H
    clear H
    have H := H1
    clear H1
    replace H := Option.bind_eq_some_iff.mp H
    obtain ⟨t748, A310, H⟩ := H
    have A31 := Aside0.mk A310
    clear A310
    replace H := Option.bind_eq_some_iff.mp H
    obtain ⟨t749, A320, H⟩ := H
    have A32 := Aside0.mk A320
    clear A320
    replace H := Option.bind_eq_some_iff.mp H
    obtain ⟨t750, A330, H⟩ := H
    replace H : (if t750 = 0 then (none) else ((whittleref1_gcd.f kj4 t749 (IntKind.u64.wrap (t745))).bind fun t751 => (if t751 = 0 then (none) else (if (IntKind.u64.wrap (Int.tdiv t749 t751)) = 0 then (none) else (if (IntKind.u64.wrap (Int.tdiv t748 t750)) > (IntKind.u64.wrap (Int.tdiv (1000000000000 : Int) (IntKind.u64.wrap (Int.tdiv t749 t751)))) then (some (0, 0, false)) else (if (IntKind.u64.wrap (Int.tdiv (IntKind.u64.wrap (t747)) t750)) = 0 then (none) else (if (IntKind.u64.wrap (Int.tdiv (IntKind.u64.wrap (t745)) t751)) > (IntKind.u64.wrap (Int.tdiv (1000000 : Int) (IntKind.u64.wrap (Int.tdiv (IntKind.u64.wrap (t747)) t750)))) then (some (0, 0, false)) else ((whittleref1_made.f kj4 ((decide (t744 < 0)) != (decide (t746 < 0))) (IntKind.u64.wrap ((IntKind.u64.wrap (Int.tdiv t748 t750)) * (IntKind.u64.wrap (Int.tdiv t749 t751)))) (IntKind.u64.wrap ((IntKind.u64.wrap (Int.tdiv (IntKind.u64.wrap (t745)) t751)) * (IntKind.u64.wrap (Int.tdiv (IntKind.u64.wrap (t747)) t750))))).bind fun bt752 => (some (bt752.1, bt752.2.1, bt752.2.2)))))))))) = some (r1, r2, r3) := H
    have A33 := Aside0.mk A330
    clear A330
    by_cases c34 : t750 = 0
    ·rw [if_pos c34] at H
     exact absurd H (by simp)
    ·rw [if_neg c34] at H
     have c34b0 : (t750 == 0) = false := beq_eq_false_iff_ne.mpr c34
     have c34b1 : (t750 != 0) = true := bne_iff_ne.mpr c34
     replace H := Option.bind_eq_some_iff.mp H
     obtain ⟨t751, A350, H⟩ := H
     replace H : (if t751 = 0 then (none) else (if (IntKind.u64.wrap (Int.tdiv t749 t751)) = 0 then (none) else (if (IntKind.u64.wrap (Int.tdiv t748 t750)) > (IntKind.u64.wrap (Int.tdiv (1000000000000 : Int) (IntKind.u64.wrap (Int.tdiv t749 t751)))) then (some (0, 0, false)) else (if (IntKind.u64.wrap (Int.tdiv (IntKind.u64.wrap (t747)) t750)) = 0 then (none) else (if (IntKind.u64.wrap (Int.tdiv (IntKind.u64.wrap (t745)) t751)) > (IntKind.u64.wrap (Int.tdiv (1000000 : Int) (IntKind.u64.wrap (Int.tdiv (IntKind.u64.wrap (t747)) t750)))) then (some (0, 0, false)) else ((whittleref1_made.f kj4 ((decide (t744 < 0)) != (decide (t746 < 0))) (IntKind.u64.wrap ((IntKind.u64.wrap (Int.tdiv t748 t750)) * (IntKind.u64.wrap (Int.tdiv t749 t751)))) (IntKind.u64.wrap ((IntKind.u64.wrap (Int.tdiv (IntKind.u64.wrap (t745)) t751)) * (IntKind.u64.wrap (Int.tdiv (IntKind.u64.wrap (t747)) t750))))).bind fun bt752 => (some (bt752.1, bt752.2.1, bt752.2.2)))))))) = some (r1, r2, r3) := H
     have A35 := Aside0.mk A350
     clear A350
     by_cases c36 : t751 = 0
     ·rw [if_pos c36] at H
      exact absurd H (by simp)
     ·rw [if_neg c36] at H
      have c36b0 : (t751 == 0) = false := beq_eq_false_iff_ne.mpr c36
      have c36b1 : (t751 != 0) = true := bne_iff_ne.mpr c36
      by_cases c37 : (IntKind.u64.wrap (Int.tdiv t749 t751)) = 0
      ·rw [if_pos c37] at H
       exact absurd H (by simp)
      ·rw [if_neg c37] at H
       have c37b0 : ((IntKind.u64.wrap (Int.tdiv t749 t751)) == 0) = false := beq_eq_false_iff_ne.mpr c37
       have c37b1 : ((IntKind.u64.wrap (Int.tdiv t749 t751)) != 0) = true := bne_iff_ne.mpr c37
       by_cases c38 : (IntKind.u64.wrap (Int.tdiv t748 t750)) > (IntKind.u64.wrap (Int.tdiv (1000000000000 : Int) (IntKind.u64.wrap (Int.tdiv t749 t751))))
       ·rw [if_pos c38] at H
        have c38b0 : decide ((IntKind.u64.wrap (Int.tdiv (1000000000000 : Int) (IntKind.u64.wrap (Int.tdiv t749 t751)))) < (IntKind.u64.wrap (Int.tdiv t748 t750))) = true := decide_eq_true c38
        clear c38
        simp only [Option.some.injEq, Prod.mk.injEq] at H
        obtain ⟨rfl, rfl, rfl⟩ := H
        go_wp2_with (first | ((with_reducible refine gate_callee (f := 79) rfl ?_); refine goesL_ (some 26) rfl rfl Tryz.func79 kr rfl #[.int .i64 t744] rfl ga ?_; (with_reducible refine (whittleref1_far.calls t744 t748 _ A31.out).mono ?_); rintro e w' ⟨rfl, ⟨nd, rfl⟩⟩; refine ⟨_, rfl, ?_⟩) | ((with_reducible refine gate_callee (f := 79) rfl ?_); refine goesL_ (some 29) rfl rfl Tryz.func79 kr rfl #[.int .i64 t746] rfl ga ?_; (with_reducible refine (whittleref1_far.calls t746 t749 _ A32.out).mono ?_); rintro e w' ⟨rfl, ⟨nd, rfl⟩⟩; refine ⟨_, rfl, ?_⟩) | ((with_reducible refine gate_callee (f := 86) rfl ?_); refine goesL_ (some 38) rfl rfl Tryz.func86 kr rfl #[.int .u64 t748, .int .u64 (IntKind.u64.wrap (t747))] rfl ga ?_; (with_reducible refine (whittleref1_gcd.calls kj4 t748 (IntKind.u64.wrap (t747)) t750 _ A33.out).mono ?_); rintro e w' ⟨rfl, ⟨nd, rfl⟩⟩; refine ⟨_, rfl, ?_⟩) | ((with_reducible refine gate_callee (f := 86) rfl ?_); refine goesL_ (some 47) rfl rfl Tryz.func86 kr rfl #[.int .u64 t749, .int .u64 (IntKind.u64.wrap (t745))] rfl ga ?_; (with_reducible refine (whittleref1_gcd.calls kj4 t749 (IntKind.u64.wrap (t745)) t751 _ A35.out).mono ?_); rintro e w' ⟨rfl, ⟨nd, rfl⟩⟩; refine ⟨_, rfl, ?_⟩))
        refine bodyPost_ret (results_ct rfl _ _ gb743 23 #[.int .i64 0, .int .i64 0] (0, 0) _ rfl bx_get Tryz.underlying23 rfl kr) rfl ?_
        exact ⟨er2, bx_bl⟩
       ·rw [if_neg c38] at H
        have c38b0 : decide ((IntKind.u64.wrap (Int.tdiv (1000000000000 : Int) (IntKind.u64.wrap (Int.tdiv t749 t751)))) < (IntKind.u64.wrap (Int.tdiv t748 t750))) = false := decide_eq_false c38
        clear c38
        by_cases c57 : (IntKind.u64.wrap (Int.tdiv (IntKind.u64.wrap (t747)) t750)) = 0
        ·rw [if_pos c57] at H
         exact absurd H (by simp)
        ·rw [if_neg c57] at H
         have c57b0 : ((IntKind.u64.wrap (Int.tdiv (IntKind.u64.wrap (t747)) t750)) == 0) = false := beq_eq_false_iff_ne.mpr c57
         have c57b1 : ((IntKind.u64.wrap (Int.tdiv (IntKind.u64.wrap (t747)) t750)) != 0) = true := bne_iff_ne.mpr c57
         by_cases c58 : (IntKind.u64.wrap (Int.tdiv (IntKind.u64.wrap (t745)) t751)) > (IntKind.u64.wrap (Int.tdiv (1000000 : Int) (IntKind.u64.wrap (Int.tdiv (IntKind.u64.wrap (t747)) t750))))
         ·rw [if_pos c58] at H
          have c58b0 : decide ((IntKind.u64.wrap (Int.tdiv (1000000 : Int) (IntKind.u64.wrap (Int.tdiv (IntKind.u64.wrap (t747)) t750)))) < (IntKind.u64.wrap (Int.tdiv (IntKind.u64.wrap (t745)) t751))) = true := decide_eq_true c58
          clear c58
          simp only [Option.some.injEq, Prod.mk.injEq] at H
          obtain ⟨rfl, rfl, rfl⟩ := H
          go_wp2_with (first | ((with_reducible refine gate_callee (f := 79) rfl ?_); refine goesL_ (some 26) rfl rfl Tryz.func79 kr rfl #[.int .i64 t744] rfl ga ?_; (with_reducible refine (whittleref1_far.calls t744 t748 _ A31.out).mono ?_); rintro e w' ⟨rfl, ⟨nd, rfl⟩⟩; refine ⟨_, rfl, ?_⟩) | ((with_reducible refine gate_callee (f := 79) rfl ?_); refine goesL_ (some 29) rfl rfl Tryz.func79 kr rfl #[.int .i64 t746] rfl ga ?_; (with_reducible refine (whittleref1_far.calls t746 t749 _ A32.out).mono ?_); rintro e w' ⟨rfl, ⟨nd, rfl⟩⟩; refine ⟨_, rfl, ?_⟩) | ((with_reducible refine gate_callee (f := 86) rfl ?_); refine goesL_ (some 38) rfl rfl Tryz.func86 kr rfl #[.int .u64 t748, .int .u64 (IntKind.u64.wrap (t747))] rfl ga ?_; (with_reducible refine (whittleref1_gcd.calls kj4 t748 (IntKind.u64.wrap (t747)) t750 _ A33.out).mono ?_); rintro e w' ⟨rfl, ⟨nd, rfl⟩⟩; refine ⟨_, rfl, ?_⟩) | ((with_reducible refine gate_callee (f := 86) rfl ?_); refine goesL_ (some 47) rfl rfl Tryz.func86 kr rfl #[.int .u64 t749, .int .u64 (IntKind.u64.wrap (t745))] rfl ga ?_; (with_reducible refine (whittleref1_gcd.calls kj4 t749 (IntKind.u64.wrap (t745)) t751 _ A35.out).mono ?_); rintro e w' ⟨rfl, ⟨nd, rfl⟩⟩; refine ⟨_, rfl, ?_⟩))
          refine bodyPost_ret (results_ct rfl _ _ gb743 23 #[.int .i64 0, .int .i64 0] (0, 0) _ rfl bx_get Tryz.underlying23 rfl kr) rfl ?_
          exact ⟨er2, bx_bl⟩
         ·rw [if_neg c58] at H
          have c58b0 : decide ((IntKind.u64.wrap (Int.tdiv (1000000 : Int) (IntKind.u64.wrap (Int.tdiv (IntKind.u64.wrap (t747)) t750)))) < (IntKind.u64.wrap (Int.tdiv (IntKind.u64.wrap (t745)) t751))) = false := decide_eq_false c58
          clear c58
          replace H := Option.bind_eq_some_iff.mp H
          obtain ⟨⟨t752, t753, t754⟩, A770, H⟩ := H
          replace H : (some (t752, t753, t754)) = some (r1, r2, r3) := H
          have A77 := Aside0.mk A770
          clear A770
          simp only [Option.some.injEq, Prod.mk.injEq] at H
          obtain ⟨rfl, rfl, rfl⟩ := H
          go_wp2_with (first | ((with_reducible refine gate_callee (f := 79) rfl ?_); refine goesL_ (some 26) rfl rfl Tryz.func79 kr rfl #[.int .i64 t744] rfl ga ?_; (with_reducible refine (whittleref1_far.calls t744 t748 _ A31.out).mono ?_); rintro e w' ⟨rfl, ⟨nd, rfl⟩⟩; refine ⟨_, rfl, ?_⟩) | ((with_reducible refine gate_callee (f := 79) rfl ?_); refine goesL_ (some 29) rfl rfl Tryz.func79 kr rfl #[.int .i64 t746] rfl ga ?_; (with_reducible refine (whittleref1_far.calls t746 t749 _ A32.out).mono ?_); rintro e w' ⟨rfl, ⟨nd, rfl⟩⟩; refine ⟨_, rfl, ?_⟩) | ((with_reducible refine gate_callee (f := 86) rfl ?_); refine goesL_ (some 38) rfl rfl Tryz.func86 kr rfl #[.int .u64 t748, .int .u64 (IntKind.u64.wrap (t747))] rfl ga ?_; (with_reducible refine (whittleref1_gcd.calls kj4 t748 (IntKind.u64.wrap (t747)) t750 _ A33.out).mono ?_); rintro e w' ⟨rfl, ⟨nd, rfl⟩⟩; refine ⟨_, rfl, ?_⟩) | ((with_reducible refine gate_callee (f := 86) rfl ?_); refine goesL_ (some 47) rfl rfl Tryz.func86 kr rfl #[.int .u64 t749, .int .u64 (IntKind.u64.wrap (t745))] rfl ga ?_; (with_reducible refine (whittleref1_gcd.calls kj4 t749 (IntKind.u64.wrap (t745)) t751 _ A35.out).mono ?_); rintro e w' ⟨rfl, ⟨nd, rfl⟩⟩; refine ⟨_, rfl, ?_⟩) | ((with_reducible refine gate_callee (f := 82) rfl ?_); refine goesL_ (some 78) rfl rfl Tryz.func82 kr rfl #[.bool ((decide (t744 < 0)) != (decide (t746 < 0))), .int .u64 (IntKind.u64.wrap ((IntKind.u64.wrap (Int.tdiv t748 t750)) * (IntKind.u64.wrap (Int.tdiv t749 t751)))), .int .u64 (IntKind.u64.wrap ((IntKind.u64.wrap (Int.tdiv (IntKind.u64.wrap (t745)) t751)) * (IntKind.u64.wrap (Int.tdiv (IntKind.u64.wrap (t747)) t750))))] rfl ga ?_; (with_reducible refine (whittleref1_made.calls kj4 ((decide (t744 < 0)) != (decide (t746 < 0))) (IntKind.u64.wrap ((IntKind.u64.wrap (Int.tdiv t748 t750)) * (IntKind.u64.wrap (Int.tdiv t749 t751)))) (IntKind.u64.wrap ((IntKind.u64.wrap (Int.tdiv (IntKind.u64.wrap (t745)) t751)) * (IntKind.u64.wrap (Int.tdiv (IntKind.u64.wrap (t747)) t750)))) t752 t753 t754 _ A77.out).mono ?_); rintro e w95 ⟨rfl, hb⟩; refine ⟨_, rfl, ?_⟩; replace BX := bx_call hb; clear hb))
          refine bodyPost_ret (results_ct rfl _ _ gb743 23 #[.int .i64 t752, .int .i64 t753] (0, 0) _ rfl bx_get Tryz.underlying23 rfl kr) rfl ?_
          exact ⟨er2, bx_bl⟩
end
section
/-! ### whittleref1_Div: function 61 -/
def whittleref1_Div.f (k : Nat) (a0_0 : Int) (a0_1 : Int) (a1_0 : Int) (a1_1 : Int) : Option (Int × Int × Bool) := (whittleref1_Of.f k a0_0 a0_1).bind fun bt758 => ((whittleref1_Of.f k a1_0 a1_1).bind fun bt760 => (if bt760.1 = 0 then (some (0, 0, false)) else (if bt758.1 = 0 then (some (bt758.1, bt758.2, true)) else ((whittleref1_far.f bt758.1).bind fun t762 => ((whittleref1_far.f bt760.1).bind fun t763 => ((whittleref1_gcd.f k t762 t763).bind fun t764 => (if t764 = 0 then (none) else ((whittleref1_gcd.f k (IntKind.u64.wrap (bt760.2)) (IntKind.u64.wrap (bt758.2))).bind fun t765 => (if t765 = 0 then (none) else (if (IntKind.u64.wrap (Int.tdiv (IntKind.u64.wrap (bt760.2)) t765)) = 0 then (none) else (if (IntKind.u64.wrap (Int.tdiv t762 t764)) > (IntKind.u64.wrap (Int.tdiv (1000000000000 : Int) (IntKind.u64.wrap (Int.tdiv (IntKind.u64.wrap (bt760.2)) t765)))) then (some (0, 0, false)) else (if (IntKind.u64.wrap (Int.tdiv t763 t764)) = 0 then (none) else (if (IntKind.u64.wrap (Int.tdiv (IntKind.u64.wrap (bt758.2)) t765)) > (IntKind.u64.wrap (Int.tdiv (1000000 : Int) (IntKind.u64.wrap (Int.tdiv t763 t764)))) then (some (0, 0, false)) else ((whittleref1_made.f k ((decide (bt758.1 < 0)) != (decide (bt760.1 < 0))) (IntKind.u64.wrap ((IntKind.u64.wrap (Int.tdiv t762 t764)) * (IntKind.u64.wrap (Int.tdiv (IntKind.u64.wrap (bt760.2)) t765)))) (IntKind.u64.wrap ((IntKind.u64.wrap (Int.tdiv (IntKind.u64.wrap (bt758.2)) t765)) * (IntKind.u64.wrap (Int.tdiv t763 t764))))).bind fun bt766 => (some (bt766.1, bt766.2.1, bt766.2.2))))))))))))))))
theorem whittleref1_Div.mono : ∀ a0 a1 a2 a3 k, LeO (whittleref1_Div.f k a0 a1 a2 a3) (whittleref1_Div.f (k + 1) a0 a1 a2 a3) := by
 intro a0 a1 a2 a3 k
 unfold whittleref1_Div.f
 repeat' first
   | (with_reducible exact whittleref1_Of.mono _ _ _)
   | (with_reducible exact whittleref1_gcd.mono _ _ _)
   | (with_reducible exact whittleref1_made.mono _ _ _ _)
   | (with_reducible exact LeO.refl _)
   | (with_reducible exact LeO.none _)
   | (with_reducible refine LeO.ite ?_ ?_)
   | (with_reducible refine LeO.bind ?_ (fun _ => ?_))
   | exact whittleref1_Of.mono _ _ _
   | exact whittleref1_gcd.mono _ _ _
   | exact whittleref1_made.mono _ _ _ _
   | exact LeO.none _
   | refine LeO.ite ?_ ?_
   | refine LeO.bind ?_ (fun _ => ?_)
set_option maxHeartbeats 8000000 in
set_option maxRecDepth 100000 in
theorem whittleref1_Div.calls (k : Nat) (a0_0 : Int) (a0_1 : Int) (a1_0 : Int) (a1_1 : Int) (r1 : Int) (r2 : Int) (r3 : Bool) (w : World) (h : whittleref1_Div.f k a0_0 a0_1 a1_0 a1_1 = some (r1, r2, r3)) :
  Calls Tryz.prog 61 #[.agg #[.int .i64 a0_0, .int .i64 a0_1], .agg #[.int .i64 a1_0, .int .i64 a1_1]] w fun e w' => e = .returned (.tuple #[.agg #[.int .i64 r1, .int .i64 r2], .bool r3]) ∧ Below w.heap.size w w' := by
 have hu23 := Tryz.underlying23
 have BX := Bx.start w
 have H : ((whittleref1_Of.f k a0_0 a0_1).bind fun bt758 => ((whittleref1_Of.f k a1_0 a1_1).bind fun bt760 => (if bt760.1 = 0 then (some (0, 0, false)) else (if bt758.1 = 0 then (some (bt758.1, bt758.2, true)) else ((whittleref1_far.f bt758.1).bind fun t762 => ((whittleref1_far.f bt760.1).bind fun t763 => ((whittleref1_gcd.f k t762 t763).bind fun t764 => (if t764 = 0 then (none) else ((whittleref1_gcd.f k (IntKind.u64.wrap (bt760.2)) (IntKind.u64.wrap (bt758.2))).bind fun t765 => (if t765 = 0 then (none) else (if (IntKind.u64.wrap (Int.tdiv (IntKind.u64.wrap (bt760.2)) t765)) = 0 then (none) else (if (IntKind.u64.wrap (Int.tdiv t762 t764)) > (IntKind.u64.wrap (Int.tdiv (1000000000000 : Int) (IntKind.u64.wrap (Int.tdiv (IntKind.u64.wrap (bt760.2)) t765)))) then (some (0, 0, false)) else (if (IntKind.u64.wrap (Int.tdiv t763 t764)) = 0 then (none) else (if (IntKind.u64.wrap (Int.tdiv (IntKind.u64.wrap (bt758.2)) t765)) > (IntKind.u64.wrap (Int.tdiv (1000000 : Int) (IntKind.u64.wrap (Int.tdiv t763 t764)))) then (some (0, 0, false)) else ((whittleref1_made.f k ((decide (bt758.1 < 0)) != (decide (bt760.1 < 0))) (IntKind.u64.wrap ((IntKind.u64.wrap (Int.tdiv t762 t764)) * (IntKind.u64.wrap (Int.tdiv (IntKind.u64.wrap (bt760.2)) t765)))) (IntKind.u64.wrap ((IntKind.u64.wrap (Int.tdiv (IntKind.u64.wrap (bt758.2)) t765)) * (IntKind.u64.wrap (Int.tdiv t763 t764))))).bind fun bt766 => (some (bt766.1, bt766.2.1, bt766.2.2))))))))))))))))) = some (r1, r2, r3) := h
 clear h
 replace H := Option.bind_eq_some_iff.mp H
 obtain ⟨⟨t758, t759⟩, A30, H⟩ := H
 have A3 := Aside0.mk A30
 clear A30
 replace H := Option.bind_eq_some_iff.mp H
 obtain ⟨⟨t760, t761⟩, A40, H⟩ := H
 replace H : (if t760 = 0 then (some (0, 0, false)) else (if t758 = 0 then (some (t758, t759, true)) else ((whittleref1_far.f t758).bind fun t762 => ((whittleref1_far.f t760).bind fun t763 => ((whittleref1_gcd.f k t762 t763).bind fun t764 => (if t764 = 0 then (none) else ((whittleref1_gcd.f k (IntKind.u64.wrap (t761)) (IntKind.u64.wrap (t759))).bind fun t765 => (if t765 = 0 then (none) else (if (IntKind.u64.wrap (Int.tdiv (IntKind.u64.wrap (t761)) t765)) = 0 then (none) else (if (IntKind.u64.wrap (Int.tdiv t762 t764)) > (IntKind.u64.wrap (Int.tdiv (1000000000000 : Int) (IntKind.u64.wrap (Int.tdiv (IntKind.u64.wrap (t761)) t765)))) then (some (0, 0, false)) else (if (IntKind.u64.wrap (Int.tdiv t763 t764)) = 0 then (none) else (if (IntKind.u64.wrap (Int.tdiv (IntKind.u64.wrap (t759)) t765)) > (IntKind.u64.wrap (Int.tdiv (1000000 : Int) (IntKind.u64.wrap (Int.tdiv t763 t764)))) then (some (0, 0, false)) else ((whittleref1_made.f k ((decide (t758 < 0)) != (decide (t760 < 0))) (IntKind.u64.wrap ((IntKind.u64.wrap (Int.tdiv t762 t764)) * (IntKind.u64.wrap (Int.tdiv (IntKind.u64.wrap (t761)) t765)))) (IntKind.u64.wrap ((IntKind.u64.wrap (Int.tdiv (IntKind.u64.wrap (t759)) t765)) * (IntKind.u64.wrap (Int.tdiv t763 t764))))).bind fun bt766 => (some (bt766.1, bt766.2.1, bt766.2.2))))))))))))))) = some (r1, r2, r3) := H
 have A4 := Aside0.mk A40
 clear A40
 by_cases c5 : t760 = 0
 ·rw [if_pos c5] at H
  have c5b0 : (t760 == 0) = true := beq_iff_eq.mpr c5
  have c5b1 : (t760 != 0) = false := bne_eq_false_iff_eq.mpr c5
  clear c5
  simp only [Option.some.injEq, Prod.mk.injEq] at H
  obtain ⟨rfl, rfl, rfl⟩ := H
  go_enter Tryz.func61, Tryz.ntmps61
  go_wp2_with (first | ((with_reducible refine gate_dst (N := 2) rfl ?_); refine bxe 2 #[.int .i64 a0_0, .int .i64 a0_1] 23 rfl rfl gr ?_; clear BX; intro gb755 w6 GE755 BX) | ((with_reducible refine gate_dst (N := 3) rfl ?_); refine bxe 3 #[.int .i64 a1_0, .int .i64 a1_1] 23 rfl rfl gr ?_; clear BX; intro gb756 w7 GE756 BX) | ((with_reducible refine gate_dst (N := 4) rfl ?_); refine bxe 4 #[.int .i64 0, .int .i64 0] 23 rfl rfl gr ?_; clear BX; intro gb757 w8 GE757 BX) | ((with_reducible refine gate_callee (f := 78) rfl ?_); refine goesL_ (some 12) rfl rfl Tryz.func78 kr rfl #[.agg #[.int .i64 a0_0, .int .i64 a0_1]] rfl ga ?_; (with_reducible refine (whittleref1_Of.calls k a0_0 a0_1 t758 t759 _ A3.out).mono ?_); rintro e w12 ⟨rfl, hb⟩; refine ⟨_, rfl, ?_⟩; replace BX := bx_call hb; clear hb) | ((with_reducible refine gate_callee (f := 78) rfl ?_); refine goesL_ (some 14) rfl rfl Tryz.func78 kr rfl #[.agg #[.int .i64 a1_0, .int .i64 a1_1]] rfl ga ?_; (with_reducible refine (whittleref1_Of.calls k a1_0 a1_1 t760 t761 _ A4.out).mono ?_); rintro e w16 ⟨rfl, hb⟩; refine ⟨_, rfl, ?_⟩; replace BX := bx_call hb; clear hb))
  refine bodyPost_ret (results_ct rfl _ _ gb757 23 #[.int .i64 0, .int .i64 0] (0, 0) _ rfl bx_get Tryz.underlying23 rfl kr) rfl ?_
  exact ⟨er2, bx_bl⟩
 ·rw [if_neg c5] at H
  have c5b0 : (t760 == 0) = false := beq_eq_false_iff_ne.mpr c5
  have c5b1 : (t760 != 0) = true := bne_iff_ne.mpr c5
  by_cases c19 : t758 = 0
  ·rw [if_pos c19] at H
   have c19b0 : (t758 == 0) = true := beq_iff_eq.mpr c19
   have c19b1 : (t758 != 0) = false := bne_eq_false_iff_eq.mpr c19
   clear c19
   simp only [Option.some.injEq, Prod.mk.injEq] at H
   obtain ⟨rfl, rfl, rfl⟩ := H
   go_enter Tryz.func61, Tryz.ntmps61
   go_wp2_with (first | ((with_reducible refine gate_dst (N := 2) rfl ?_); refine bxe 2 #[.int .i64 a0_0, .int .i64 a0_1] 23 rfl rfl gr ?_; clear BX; intro gb755 w20 GE755 BX) | ((with_reducible refine gate_dst (N := 3) rfl ?_); refine bxe 3 #[.int .i64 a1_0, .int .i64 a1_1] 23 rfl rfl gr ?_; clear BX; intro gb756 w21 GE756 BX) | ((with_reducible refine gate_dst (N := 4) rfl ?_); refine bxe 4 #[.int .i64 0, .int .i64 0] 23 rfl rfl gr ?_; clear BX; intro gb757 w22 GE757 BX) | ((with_reducible refine gate_callee (f := 78) rfl ?_); refine goesL_ (some 12) rfl rfl Tryz.func78 kr rfl #[.agg #[.int .i64 a0_0, .int .i64 a0_1]] rfl ga ?_; (with_reducible refine (whittleref1_Of.calls k a0_0 a0_1 t758 t759 _ A3.out).mono ?_); rintro e w26 ⟨rfl, hb⟩; refine ⟨_, rfl, ?_⟩; replace BX := bx_call hb; clear hb) | ((with_reducible refine gate_callee (f := 78) rfl ?_); refine goesL_ (some 14) rfl rfl Tryz.func78 kr rfl #[.agg #[.int .i64 a1_0, .int .i64 a1_1]] rfl ga ?_; (with_reducible refine (whittleref1_Of.calls k a1_0 a1_1 t760 t761 _ A4.out).mono ?_); rintro e w30 ⟨rfl, hb⟩; refine ⟨_, rfl, ?_⟩; replace BX := bx_call hb; clear hb))
   refine bodyPost_ret (results_ct rfl _ _ gb757 23 #[.int .i64 t758, .int .i64 t759] (0, 0) _ rfl bx_get Tryz.underlying23 rfl kr) rfl ?_
   exact ⟨er2, bx_bl⟩
  ·rw [if_neg c19] at H
   have c19b0 : (t758 == 0) = false := beq_eq_false_iff_ne.mpr c19
   have c19b1 : (t758 != 0) = true := bne_iff_ne.mpr c19
   replace H := Option.bind_eq_some_iff.mp H
   obtain ⟨t762, A340, H⟩ := H
   have A34 := Aside0.mk A340
   clear A340
   replace H := Option.bind_eq_some_iff.mp H
   obtain ⟨t763, A350, H⟩ := H
   have A35 := Aside0.mk A350
   clear A350
   replace H := Option.bind_eq_some_iff.mp H
   obtain ⟨t764, A360, H⟩ := H
   replace H : (if t764 = 0 then (none) else ((whittleref1_gcd.f k (IntKind.u64.wrap (t761)) (IntKind.u64.wrap (t759))).bind fun t765 => (if t765 = 0 then (none) else (if (IntKind.u64.wrap (Int.tdiv (IntKind.u64.wrap (t761)) t765)) = 0 then (none) else (if (IntKind.u64.wrap (Int.tdiv t762 t764)) > (IntKind.u64.wrap (Int.tdiv (1000000000000 : Int) (IntKind.u64.wrap (Int.tdiv (IntKind.u64.wrap (t761)) t765)))) then (some (0, 0, false)) else (if (IntKind.u64.wrap (Int.tdiv t763 t764)) = 0 then (none) else (if (IntKind.u64.wrap (Int.tdiv (IntKind.u64.wrap (t759)) t765)) > (IntKind.u64.wrap (Int.tdiv (1000000 : Int) (IntKind.u64.wrap (Int.tdiv t763 t764)))) then (some (0, 0, false)) else ((whittleref1_made.f k ((decide (t758 < 0)) != (decide (t760 < 0))) (IntKind.u64.wrap ((IntKind.u64.wrap (Int.tdiv t762 t764)) * (IntKind.u64.wrap (Int.tdiv (IntKind.u64.wrap (t761)) t765)))) (IntKind.u64.wrap ((IntKind.u64.wrap (Int.tdiv (IntKind.u64.wrap (t759)) t765)) * (IntKind.u64.wrap (Int.tdiv t763 t764))))).bind fun bt766 => (some (bt766.1, bt766.2.1, bt766.2.2)))))))))) = some (r1, r2, r3) := H
   have A36 := Aside0.mk A360
   clear A360
   by_cases c37 : t764 = 0
   ·rw [if_pos c37] at H
    exact absurd H (by simp)
   ·rw [if_neg c37] at H
    have c37b0 : (t764 == 0) = false := beq_eq_false_iff_ne.mpr c37
    have c37b1 : (t764 != 0) = true := bne_iff_ne.mpr c37
    replace H := Option.bind_eq_some_iff.mp H
    obtain ⟨t765, A380, H⟩ := H
    replace H : (if t765 = 0 then (none) else (if (IntKind.u64.wrap (Int.tdiv (IntKind.u64.wrap (t761)) t765)) = 0 then (none) else (if (IntKind.u64.wrap (Int.tdiv t762 t764)) > (IntKind.u64.wrap (Int.tdiv (1000000000000 : Int) (IntKind.u64.wrap (Int.tdiv (IntKind.u64.wrap (t761)) t765)))) then (some (0, 0, false)) else (if (IntKind.u64.wrap (Int.tdiv t763 t764)) = 0 then (none) else (if (IntKind.u64.wrap (Int.tdiv (IntKind.u64.wrap (t759)) t765)) > (IntKind.u64.wrap (Int.tdiv (1000000 : Int) (IntKind.u64.wrap (Int.tdiv t763 t764)))) then (some (0, 0, false)) else ((whittleref1_made.f k ((decide (t758 < 0)) != (decide (t760 < 0))) (IntKind.u64.wrap ((IntKind.u64.wrap (Int.tdiv t762 t764)) * (IntKind.u64.wrap (Int.tdiv (IntKind.u64.wrap (t761)) t765)))) (IntKind.u64.wrap ((IntKind.u64.wrap (Int.tdiv (IntKind.u64.wrap (t759)) t765)) * (IntKind.u64.wrap (Int.tdiv t763 t764))))).bind fun bt766 => (some (bt766.1, bt766.2.1, bt766.2.2)))))))) = some (r1, r2, r3) := H
    have A38 := Aside0.mk A380
    clear A380
    by_cases c39 : t765 = 0
    ·rw [if_pos c39] at H
     exact absurd H (by simp)
    ·rw [if_neg c39] at H
     have c39b0 : (t765 == 0) = false := beq_eq_false_iff_ne.mpr c39
     have c39b1 : (t765 != 0) = true := bne_iff_ne.mpr c39
     by_cases c40 : (IntKind.u64.wrap (Int.tdiv (IntKind.u64.wrap (t761)) t765)) = 0
     ·rw [if_pos c40] at H
      exact absurd H (by simp)
     ·rw [if_neg c40] at H
      have c40b0 : ((IntKind.u64.wrap (Int.tdiv (IntKind.u64.wrap (t761)) t765)) == 0) = false := beq_eq_false_iff_ne.mpr c40
      have c40b1 : ((IntKind.u64.wrap (Int.tdiv (IntKind.u64.wrap (t761)) t765)) != 0) = true := bne_iff_ne.mpr c40
      by_cases c41 : (IntKind.u64.wrap (Int.tdiv t762 t764)) > (IntKind.u64.wrap (Int.tdiv (1000000000000 : Int) (IntKind.u64.wrap (Int.tdiv (IntKind.u64.wrap (t761)) t765))))
      ·rw [if_pos c41] at H
       have c41b0 : decide ((IntKind.u64.wrap (Int.tdiv (1000000000000 : Int) (IntKind.u64.wrap (Int.tdiv (IntKind.u64.wrap (t761)) t765)))) < (IntKind.u64.wrap (Int.tdiv t762 t764))) = true := decide_eq_true c41
       clear c41
       simp only [Option.some.injEq, Prod.mk.injEq] at H
       obtain ⟨rfl, rfl, rfl⟩ := H
       go_enter Tryz.func61, Tryz.ntmps61
       go_wp2_with (first | ((with_reducible refine gate_dst (N := 2) rfl ?_); refine bxe 2 #[.int .i64 a0_0, .int .i64 a0_1] 23 rfl rfl gr ?_; clear BX; intro gb755 w42 GE755 BX) | ((with_reducible refine gate_dst (N := 3) rfl ?_); refine bxe 3 #[.int .i64 a1_0, .int .i64 a1_1] 23 rfl rfl gr ?_; clear BX; intro gb756 w43 GE756 BX) | ((with_reducible refine gate_dst (N := 4) rfl ?_); refine bxe 4 #[.int .i64 0, .int .i64 0] 23 rfl rfl gr ?_; clear BX; intro gb757 w44 GE757 BX) | ((with_reducible refine gate_callee (f := 78) rfl ?_); refine goesL_ (some 12) rfl rfl Tryz.func78 kr rfl #[.agg #[.int .i64 a0_0, .int .i64 a0_1]] rfl ga ?_; (with_reducible refine (whittleref1_Of.calls k a0_0 a0_1 t758 t759 _ A3.out).mono ?_); rintro e w48 ⟨rfl, hb⟩; refine ⟨_, rfl, ?_⟩; replace BX := bx_call hb; clear hb) | ((with_reducible refine gate_callee (f := 78) rfl ?_); refine goesL_ (some 14) rfl rfl Tryz.func78 kr rfl #[.agg #[.int .i64 a1_0, .int .i64 a1_1]] rfl ga ?_; (with_reducible refine (whittleref1_Of.calls k a1_0 a1_1 t760 t761 _ A4.out).mono ?_); rintro e w52 ⟨rfl, hb⟩; refine ⟨_, rfl, ?_⟩; replace BX := bx_call hb; clear hb) | ((with_reducible refine gate_callee (f := 79) rfl ?_); refine goesL_ (some 25) rfl rfl Tryz.func79 kr rfl #[.int .i64 t758] rfl ga ?_; (with_reducible refine (whittleref1_far.calls t758 t762 _ A34.out).mono ?_); rintro e w' ⟨rfl, ⟨nd, rfl⟩⟩; refine ⟨_, rfl, ?_⟩) | ((with_reducible refine gate_callee (f := 79) rfl ?_); refine goesL_ (some 34) rfl rfl Tryz.func79 kr rfl #[.int .i64 t760] rfl ga ?_; (with_reducible refine (whittleref1_far.calls t760 t763 _ A35.out).mono ?_); rintro e w' ⟨rfl, ⟨nd, rfl⟩⟩; refine ⟨_, rfl, ?_⟩) | ((with_reducible refine gate_callee (f := 86) rfl ?_); refine goesL_ (some 37) rfl rfl Tryz.func86 kr rfl #[.int .u64 t762, .int .u64 t763] rfl ga ?_; (with_reducible refine (whittleref1_gcd.calls k t762 t763 t764 _ A36.out).mono ?_); rintro e w' ⟨rfl, ⟨nd, rfl⟩⟩; refine ⟨_, rfl, ?_⟩) | ((with_reducible refine gate_callee (f := 86) rfl ?_); refine goesL_ (some 46) rfl rfl Tryz.func86 kr rfl #[.int .u64 (IntKind.u64.wrap (t761)), .int .u64 (IntKind.u64.wrap (t759))] rfl ga ?_; (with_reducible refine (whittleref1_gcd.calls k (IntKind.u64.wrap (t761)) (IntKind.u64.wrap (t759)) t765 _ A38.out).mono ?_); rintro e w' ⟨rfl, ⟨nd, rfl⟩⟩; refine ⟨_, rfl, ?_⟩))
       refine bodyPost_ret (results_ct rfl _ _ gb757 23 #[.int .i64 0, .int .i64 0] (0, 0) _ rfl bx_get Tryz.underlying23 rfl kr) rfl ?_
       exact ⟨er2, bx_bl⟩
      ·rw [if_neg c41] at H
       have c41b0 : decide ((IntKind.u64.wrap (Int.tdiv (1000000000000 : Int) (IntKind.u64.wrap (Int.tdiv (IntKind.u64.wrap (t761)) t765)))) < (IntKind.u64.wrap (Int.tdiv t762 t764))) = false := decide_eq_false c41
       clear c41
       by_cases c56 : (IntKind.u64.wrap (Int.tdiv t763 t764)) = 0
       ·rw [if_pos c56] at H
        exact absurd H (by simp)
       ·rw [if_neg c56] at H
        have c56b0 : ((IntKind.u64.wrap (Int.tdiv t763 t764)) == 0) = false := beq_eq_false_iff_ne.mpr c56
        have c56b1 : ((IntKind.u64.wrap (Int.tdiv t763 t764)) != 0) = true := bne_iff_ne.mpr c56
        by_cases c57 : (IntKind.u64.wrap (Int.tdiv (IntKind.u64.wrap (t759)) t765)) > (IntKind.u64.wrap (Int.tdiv (1000000 : Int) (IntKind.u64.wrap (Int.tdiv t763 t764))))
        ·rw [if_pos c57] at H
         have c57b0 : decide ((IntKind.u64.wrap (Int.tdiv (1000000 : Int) (IntKind.u64.wrap (Int.tdiv t763 t764)))) < (IntKind.u64.wrap (Int.tdiv (IntKind.u64.wrap (t759)) t765))) = true := decide_eq_true c57
         clear c57
         simp only [Option.some.injEq, Prod.mk.injEq] at H
         obtain ⟨rfl, rfl, rfl⟩ := H
         go_enter Tryz.func61, Tryz.ntmps61
         go_wp2_with (first | ((with_reducible refine gate_dst (N := 2) rfl ?_); refine bxe 2 #[.int .i64 a0_0, .int .i64 a0_1] 23 rfl rfl gr ?_; clear BX; intro gb755 w58 GE755 BX) | ((with_reducible refine gate_dst (N := 3) rfl ?_); refine bxe 3 #[.int .i64 a1_0, .int .i64 a1_1] 23 rfl rfl gr ?_; clear BX; intro gb756 w59 GE756 BX) | ((with_reducible refine gate_dst (N := 4) rfl ?_); refine bxe 4 #[.int .i64 0, .int .i64 0] 23 rfl rfl gr ?_; clear BX; intro gb757 w60 GE757 BX) | ((with_reducible refine gate_callee (f := 78) rfl ?_); refine goesL_ (some 12) rfl rfl Tryz.func78 kr rfl #[.agg #[.int .i64 a0_0, .int .i64 a0_1]] rfl ga ?_; (with_reducible refine (whittleref1_Of.calls k a0_0 a0_1 t758 t759 _ A3.out).mono ?_); rintro e w64 ⟨rfl, hb⟩; refine ⟨_, rfl, ?_⟩; replace BX := bx_call hb; clear hb) | ((with_reducible refine gate_callee (f := 78) rfl ?_); refine goesL_ (some 14) rfl rfl Tryz.func78 kr rfl #[.agg #[.int .i64 a1_0, .int .i64 a1_1]] rfl ga ?_; (with_reducible refine (whittleref1_Of.calls k a1_0 a1_1 t760 t761 _ A4.out).mono ?_); rintro e w68 ⟨rfl, hb⟩; refine ⟨_, rfl, ?_⟩; replace BX := bx_call hb; clear hb) | ((with_reducible refine gate_callee (f := 79) rfl ?_); refine goesL_ (some 25) rfl rfl Tryz.func79 kr rfl #[.int .i64 t758] rfl ga ?_; (with_reducible refine (whittleref1_far.calls t758 t762 _ A34.out).mono ?_); rintro e w' ⟨rfl, ⟨nd, rfl⟩⟩; refine ⟨_, rfl, ?_⟩) | ((with_reducible refine gate_callee (f := 79) rfl ?_); refine goesL_ (some 34) rfl rfl Tryz.func79 kr rfl #[.int .i64 t760] rfl ga ?_; (with_reducible refine (whittleref1_far.calls t760 t763 _ A35.out).mono ?_); rintro e w' ⟨rfl, ⟨nd, rfl⟩⟩; refine ⟨_, rfl, ?_⟩) | ((with_reducible refine gate_callee (f := 86) rfl ?_); refine goesL_ (some 37) rfl rfl Tryz.func86 kr rfl #[.int .u64 t762, .int .u64 t763] rfl ga ?_; (with_reducible refine (whittleref1_gcd.calls k t762 t763 t764 _ A36.out).mono ?_); rintro e w' ⟨rfl, ⟨nd, rfl⟩⟩; refine ⟨_, rfl, ?_⟩) | ((with_reducible refine gate_callee (f := 86) rfl ?_); refine goesL_ (some 46) rfl rfl Tryz.func86 kr rfl #[.int .u64 (IntKind.u64.wrap (t761)), .int .u64 (IntKind.u64.wrap (t759))] rfl ga ?_; (with_reducible refine (whittleref1_gcd.calls k (IntKind.u64.wrap (t761)) (IntKind.u64.wrap (t759)) t765 _ A38.out).mono ?_); rintro e w' ⟨rfl, ⟨nd, rfl⟩⟩; refine ⟨_, rfl, ?_⟩))
         refine bodyPost_ret (results_ct rfl _ _ gb757 23 #[.int .i64 0, .int .i64 0] (0, 0) _ rfl bx_get Tryz.underlying23 rfl kr) rfl ?_
         exact ⟨er2, bx_bl⟩
        ·rw [if_neg c57] at H
         have c57b0 : decide ((IntKind.u64.wrap (Int.tdiv (1000000 : Int) (IntKind.u64.wrap (Int.tdiv t763 t764)))) < (IntKind.u64.wrap (Int.tdiv (IntKind.u64.wrap (t759)) t765))) = false := decide_eq_false c57
         clear c57
         replace H := Option.bind_eq_some_iff.mp H
         obtain ⟨⟨t766, t767, t768⟩, A720, H⟩ := H
         replace H : (some (t766, t767, t768)) = some (r1, r2, r3) := H
         have A72 := Aside0.mk A720
         clear A720
         simp only [Option.some.injEq, Prod.mk.injEq] at H
         obtain ⟨rfl, rfl, rfl⟩ := H
         go_enter Tryz.func61, Tryz.ntmps61
         go_wp2_with (first | ((with_reducible refine gate_dst (N := 2) rfl ?_); refine bxe 2 #[.int .i64 a0_0, .int .i64 a0_1] 23 rfl rfl gr ?_; clear BX; intro gb755 w73 GE755 BX) | ((with_reducible refine gate_dst (N := 3) rfl ?_); refine bxe 3 #[.int .i64 a1_0, .int .i64 a1_1] 23 rfl rfl gr ?_; clear BX; intro gb756 w74 GE756 BX) | ((with_reducible refine gate_dst (N := 4) rfl ?_); refine bxe 4 #[.int .i64 0, .int .i64 0] 23 rfl rfl gr ?_; clear BX; intro gb757 w75 GE757 BX) | ((with_reducible refine gate_callee (f := 78) rfl ?_); refine goesL_ (some 12) rfl rfl Tryz.func78 kr rfl #[.agg #[.int .i64 a0_0, .int .i64 a0_1]] rfl ga ?_; (with_reducible refine (whittleref1_Of.calls k a0_0 a0_1 t758 t759 _ A3.out).mono ?_); rintro e w79 ⟨rfl, hb⟩; refine ⟨_, rfl, ?_⟩; replace BX := bx_call hb; clear hb) | ((with_reducible refine gate_callee (f := 78) rfl ?_); refine goesL_ (some 14) rfl rfl Tryz.func78 kr rfl #[.agg #[.int .i64 a1_0, .int .i64 a1_1]] rfl ga ?_; (with_reducible refine (whittleref1_Of.calls k a1_0 a1_1 t760 t761 _ A4.out).mono ?_); rintro e w83 ⟨rfl, hb⟩; refine ⟨_, rfl, ?_⟩; replace BX := bx_call hb; clear hb) | ((with_reducible refine gate_callee (f := 79) rfl ?_); refine goesL_ (some 25) rfl rfl Tryz.func79 kr rfl #[.int .i64 t758] rfl ga ?_; (with_reducible refine (whittleref1_far.calls t758 t762 _ A34.out).mono ?_); rintro e w' ⟨rfl, ⟨nd, rfl⟩⟩; refine ⟨_, rfl, ?_⟩) | ((with_reducible refine gate_callee (f := 79) rfl ?_); refine goesL_ (some 34) rfl rfl Tryz.func79 kr rfl #[.int .i64 t760] rfl ga ?_; (with_reducible refine (whittleref1_far.calls t760 t763 _ A35.out).mono ?_); rintro e w' ⟨rfl, ⟨nd, rfl⟩⟩; refine ⟨_, rfl, ?_⟩) | ((with_reducible refine gate_callee (f := 86) rfl ?_); refine goesL_ (some 37) rfl rfl Tryz.func86 kr rfl #[.int .u64 t762, .int .u64 t763] rfl ga ?_; (with_reducible refine (whittleref1_gcd.calls k t762 t763 t764 _ A36.out).mono ?_); rintro e w' ⟨rfl, ⟨nd, rfl⟩⟩; refine ⟨_, rfl, ?_⟩) | ((with_reducible refine gate_callee (f := 86) rfl ?_); refine goesL_ (some 46) rfl rfl Tryz.func86 kr rfl #[.int .u64 (IntKind.u64.wrap (t761)), .int .u64 (IntKind.u64.wrap (t759))] rfl ga ?_; (with_reducible refine (whittleref1_gcd.calls k (IntKind.u64.wrap (t761)) (IntKind.u64.wrap (t759)) t765 _ A38.out).mono ?_); rintro e w' ⟨rfl, ⟨nd, rfl⟩⟩; refine ⟨_, rfl, ?_⟩) | ((with_reducible refine gate_callee (f := 82) rfl ?_); refine goesL_ (some 77) rfl rfl Tryz.func82 kr rfl #[.bool ((decide (t758 < 0)) != (decide (t760 < 0))), .int .u64 (IntKind.u64.wrap ((IntKind.u64.wrap (Int.tdiv t762 t764)) * (IntKind.u64.wrap (Int.tdiv (IntKind.u64.wrap (t761)) t765)))), .int .u64 (IntKind.u64.wrap ((IntKind.u64.wrap (Int.tdiv (IntKind.u64.wrap (t759)) t765)) * (IntKind.u64.wrap (Int.tdiv t763 t764))))] rfl ga ?_; (with_reducible refine (whittleref1_made.calls k ((decide (t758 < 0)) != (decide (t760 < 0))) (IntKind.u64.wrap ((IntKind.u64.wrap (Int.tdiv t762 t764)) * (IntKind.u64.wrap (Int.tdiv (IntKind.u64.wrap (t761)) t765)))) (IntKind.u64.wrap ((IntKind.u64.wrap (Int.tdiv (IntKind.u64.wrap (t759)) t765)) * (IntKind.u64.wrap (Int.tdiv t763 t764)))) t766 t767 t768 _ A72.out).mono ?_); rintro e w86 ⟨rfl, hb⟩; refine ⟨_, rfl, ?_⟩; replace BX := bx_call hb; clear hb))
         refine bodyPost_ret (results_ct rfl _ _ gb757 23 #[.int .i64 t766, .int .i64 t767] (0, 0) _ rfl bx_get Tryz.underlying23 rfl kr) rfl ?_
         exact ⟨er2, bx_bl⟩
end
section
/-! ### whittleref1_Whole: function 62 -/
def whittleref1_Whole.f (k : Nat) (a0_0 : Int) (a0_1 : Int) : Option (Int × Bool) := (whittleref1_Of.f k a0_0 a0_1).bind fun bt770 => (if bt770.2 = 1 then (some (bt770.1, true)) else (some (0, false)))
theorem whittleref1_Whole.mono : ∀ a0 a1 k, LeO (whittleref1_Whole.f k a0 a1) (whittleref1_Whole.f (k + 1) a0 a1) := by
 intro a0 a1 k
 unfold whittleref1_Whole.f
 repeat' first
   | (with_reducible exact whittleref1_Of.mono _ _ _)
   | (with_reducible exact LeO.refl _)
   | (with_reducible exact LeO.none _)
   | (with_reducible refine LeO.ite ?_ ?_)
   | (with_reducible refine LeO.bind ?_ (fun _ => ?_))
   | exact whittleref1_Of.mono _ _ _
   | exact LeO.none _
   | refine LeO.ite ?_ ?_
   | refine LeO.bind ?_ (fun _ => ?_)
set_option maxHeartbeats 8000000 in
set_option maxRecDepth 100000 in
theorem whittleref1_Whole.calls (k : Nat) (a0_0 : Int) (a0_1 : Int) (r1 : Int) (r2 : Bool) (w : World) (h : whittleref1_Whole.f k a0_0 a0_1 = some (r1, r2)) :
  Calls Tryz.prog 62 #[.agg #[.int .i64 a0_0, .int .i64 a0_1]] w fun e w' => e = .returned (.tuple #[.int .i64 r1, .bool r2]) ∧ Below w.heap.size w w' := by
 have hu23 := Tryz.underlying23
 have BX := Bx.start w
 have H : ((whittleref1_Of.f k a0_0 a0_1).bind fun bt770 => (if bt770.2 = 1 then (some (bt770.1, true)) else (some (0, false)))) = some (r1, r2) := h
 clear h
 replace H := Option.bind_eq_some_iff.mp H
 obtain ⟨⟨t770, t771⟩, A20, H⟩ := H
 replace H : (if t771 = 1 then (some (t770, true)) else (some (0, false))) = some (r1, r2) := H
 have A2 := Aside0.mk A20
 clear A20
 by_cases c3 : t771 = 1
 ·rw [if_pos c3] at H
  have c3b0 : (t771 == 1) = true := beq_iff_eq.mpr c3
  have c3b1 : (t771 != 1) = false := bne_eq_false_iff_eq.mpr c3
  clear c3
  simp only [Option.some.injEq, Prod.mk.injEq] at H
  obtain ⟨rfl, rfl⟩ := H
  go_enter Tryz.func62, Tryz.ntmps62
  go_wp2_with (first | ((with_reducible refine gate_dst (N := 1) rfl ?_); refine bxe 1 #[.int .i64 a0_0, .int .i64 a0_1] 23 rfl rfl gr ?_; clear BX; intro gb769 w4 GE769 BX) | ((with_reducible refine gate_callee (f := 78) rfl ?_); refine goesL_ (some 5) rfl rfl Tryz.func78 kr rfl #[.agg #[.int .i64 a0_0, .int .i64 a0_1]] rfl ga ?_; (with_reducible refine (whittleref1_Of.calls k a0_0 a0_1 t770 t771 _ A2.out).mono ?_); rintro e w6 ⟨rfl, hb⟩; refine ⟨_, rfl, ?_⟩; replace BX := bx_call hb; clear hb))
  go_ret2
  exact ⟨er2, bx_bl⟩
 ·rw [if_neg c3] at H
  have c3b0 : (t771 == 1) = false := beq_eq_false_iff_ne.mpr c3
  have c3b1 : (t771 != 1) = true := bne_iff_ne.mpr c3
  simp only [Option.some.injEq, Prod.mk.injEq] at H
  obtain ⟨rfl, rfl⟩ := H
  go_enter Tryz.func62, Tryz.ntmps62
  go_wp2_with (first | ((with_reducible refine gate_dst (N := 1) rfl ?_); refine bxe 1 #[.int .i64 a0_0, .int .i64 a0_1] 23 rfl rfl gr ?_; clear BX; intro gb769 w8 GE769 BX) | ((with_reducible refine gate_callee (f := 78) rfl ?_); refine goesL_ (some 5) rfl rfl Tryz.func78 kr rfl #[.agg #[.int .i64 a0_0, .int .i64 a0_1]] rfl ga ?_; (with_reducible refine (whittleref1_Of.calls k a0_0 a0_1 t770 t771 _ A2.out).mono ?_); rintro e w10 ⟨rfl, hb⟩; refine ⟨_, rfl, ?_⟩; replace BX := bx_call hb; clear hb))
  go_ret2
  exact ⟨er2, bx_bl⟩
end
section
/-! ### whittleref1_Pow: function 63 -/
mutual
def whittleref1_Pow.j0 : Nat → Int → Bool → Int → Int → Int → Int → Option (Int × Int × Bool)
 | 0, _, _, _, _, _, _ => none
 | k + 1, x1, x37, x773000, x773001, x777000, x777001 => if x37 = true then (if x773000 = (-1) then (if (Int.tmod x1 2) = 0 then (some (x777000, x777001, true)) else (some (x773000, x773001, true))) else (some (x777000, x777001, true))) else ((whittleref1_far.f x773000).bind fun t777 => (if x1 < 0 then ((whittleref1_far.f x773000).bind fun t778 => (whittleref1_Pow.j1 k x1 1 1 (IntKind.u64.wrap (x773001)) t778 x773000 x773001)) else (whittleref1_Pow.j1 k x1 1 1 t777 (IntKind.u64.wrap (x773001)) x773000 x773001)))
def whittleref1_Pow.j1 : Nat → Int → Int → Int → Int → Int → Int → Int → Option (Int × Int × Bool)
 | 0, _, _, _, _, _, _, _ => none
 | k + 1, x1, x7, x8, x9, x10, x773000, x773001 => whittleref1_Pow.l0 k x1 x7 x8 x9 x10 0 x773000 x773001
def whittleref1_Pow.l0 : Nat → Int → Int → Int → Int → Int → Int → Int → Int → Option (Int × Int × Bool)
 | 0, _, _, _, _, _, _, _, _ => none
 | k + 1, x1, x7, x8, x9, x10, x11, x773000, x773001 => (whittleref1_far.f x1).bind fun t779 => (if x11 < t779 then (if x9 = 0 then (none) else (if x7 > (IntKind.u64.wrap (Int.tdiv (1000000000000 : Int) x9)) then (some (0, 0, false)) else (if x10 = 0 then (none) else (if x8 > (IntKind.u64.wrap (Int.tdiv (1000000 : Int) x10)) then (some (0, 0, false)) else (whittleref1_Pow.l0 k x1 (IntKind.u64.wrap (x7 * x9)) (IntKind.u64.wrap (x8 * x10)) x9 x10 (IntKind.u64.wrap (x11 + 1)) x773000 x773001))))) else (if x773000 < 0 then ((whittleref1_made.f k ((Int.tmod x1 2) != 0) x7 x8).bind fun bt780 => (some (bt780.1, bt780.2.1, bt780.2.2))) else ((whittleref1_made.f k false x7 x8).bind fun bt783 => (some (bt783.1, bt783.2.1, bt783.2.2)))))
end
def whittleref1_Pow.f (k : Nat) (a0_0 : Int) (a0_1 : Int) (a1 : Int) : Option (Int × Int × Bool) := (whittleref1_Of.f k a0_0 a0_1).bind fun bt774 => (if a1 = 0 then (some (1, 1, true)) else (if bt774.1 = 0 then (if a1 < 0 then (some (0, 0, false)) else (some (bt774.1, bt774.2, true))) else (if bt774.2 = 1 then (if bt774.1 = 1 then (whittleref1_Pow.j0 k a1 true bt774.1 bt774.2 1 1) else (whittleref1_Pow.j0 k a1 (bt774.1 == (-1)) bt774.1 bt774.2 1 1)) else (whittleref1_Pow.j0 k a1 false bt774.1 bt774.2 1 1))))
theorem whittleref1_Pow.mono_l : ∀ k, (∀ y0 y1 y2 y3 y4 y5, LeO (whittleref1_Pow.j0 k y0 y1 y2 y3 y4 y5) (whittleref1_Pow.j0 (k + 1) y0 y1 y2 y3 y4 y5)) ∧ (∀ y0 y1 y2 y3 y4 y5 y6, LeO (whittleref1_Pow.j1 k y0 y1 y2 y3 y4 y5 y6) (whittleref1_Pow.j1 (k + 1) y0 y1 y2 y3 y4 y5 y6)) ∧ (∀ y0 y1 y2 y3 y4 y5 y6 y7, LeO (whittleref1_Pow.l0 k y0 y1 y2 y3 y4 y5 y6 y7) (whittleref1_Pow.l0 (k + 1) y0 y1 y2 y3 y4 y5 y6 y7))
 | 0 => ⟨fun _ _ _ _ _ _ r h => by simp [whittleref1_Pow.j0] at h, fun _ _ _ _ _ _ _ r h => by simp [whittleref1_Pow.j1] at h, fun _ _ _ _ _ _ _ _ r h => by simp [whittleref1_Pow.l0] at h⟩
 | k + 1 => by
  obtain ⟨ih0, ih1, ih2⟩ := whittleref1_Pow.mono_l k
  refine ⟨?_, ?_, ?_⟩
  ·intro y0 y1 y2 y3 y4 y5
   unfold whittleref1_Pow.j0
   repeat' first
   | (with_reducible exact ih0 _ _ _ _ _ _)
   | (with_reducible exact ih1 _ _ _ _ _ _ _)
   | (with_reducible exact ih2 _ _ _ _ _ _ _ _)
   | (with_reducible exact whittleref1_Of.mono _ _ _)
   | (with_reducible exact whittleref1_made.mono _ _ _ _)
   | (with_reducible exact LeO.refl _)
   | (with_reducible exact LeO.none _)
   | (with_reducible refine LeO.ite ?_ ?_)
   | (with_reducible refine LeO.bind ?_ (fun _ => ?_))
   | exact ih0 _ _ _ _ _ _
   | exact ih1 _ _ _ _ _ _ _
   | exact ih2 _ _ _ _ _ _ _ _
   | exact whittleref1_Of.mono _ _ _
   | exact whittleref1_made.mono _ _ _ _
   | exact LeO.none _
   | refine LeO.ite ?_ ?_
   | refine LeO.bind ?_ (fun _ => ?_)
  ·intro y0 y1 y2 y3 y4 y5 y6
   unfold whittleref1_Pow.j1
   repeat' first
   | (with_reducible exact ih0 _ _ _ _ _ _)
   | (with_reducible exact ih1 _ _ _ _ _ _ _)
   | (with_reducible exact ih2 _ _ _ _ _ _ _ _)
   | (with_reducible exact whittleref1_Of.mono _ _ _)
   | (with_reducible exact whittleref1_made.mono _ _ _ _)
   | (with_reducible exact LeO.refl _)
   | (with_reducible exact LeO.none _)
   | (with_reducible refine LeO.ite ?_ ?_)
   | (with_reducible refine LeO.bind ?_ (fun _ => ?_))
   | exact ih0 _ _ _ _ _ _
   | exact ih1 _ _ _ _ _ _ _
   | exact ih2 _ _ _ _ _ _ _ _
   | exact whittleref1_Of.mono _ _ _
   | exact whittleref1_made.mono _ _ _ _
   | exact LeO.none _
   | refine LeO.ite ?_ ?_
   | refine LeO.bind ?_ (fun _ => ?_)
  ·intro y0 y1 y2 y3 y4 y5 y6 y7
   unfold whittleref1_Pow.l0
   repeat' first
   | (with_reducible exact ih0 _ _ _ _ _ _)
   | (with_reducible exact ih1 _ _ _ _ _ _ _)
   | (with_reducible exact ih2 _ _ _ _ _ _ _ _)
   | (with_reducible exact whittleref1_Of.mono _ _ _)
   | (with_reducible exact whittleref1_made.mono _ _ _ _)
   | (with_reducible exact LeO.refl _)
   | (with_reducible exact LeO.none _)
   | (with_reducible refine LeO.ite ?_ ?_)
   | (with_reducible refine LeO.bind ?_ (fun _ => ?_))
   | exact ih0 _ _ _ _ _ _
   | exact ih1 _ _ _ _ _ _ _
   | exact ih2 _ _ _ _ _ _ _ _
   | exact whittleref1_Of.mono _ _ _
   | exact whittleref1_made.mono _ _ _ _
   | exact LeO.none _
   | refine LeO.ite ?_ ?_
   | refine LeO.bind ?_ (fun _ => ?_)
theorem whittleref1_Pow.mono : ∀ a0 a1 a2 k, LeO (whittleref1_Pow.f k a0 a1 a2) (whittleref1_Pow.f (k + 1) a0 a1 a2) := by
 intro a0 a1 a2 k
 obtain ⟨ih0, ih1, ih2⟩ := whittleref1_Pow.mono_l k
 unfold whittleref1_Pow.f
 repeat' first
   | (with_reducible exact ih0 _ _ _ _ _ _)
   | (with_reducible exact ih1 _ _ _ _ _ _ _)
   | (with_reducible exact ih2 _ _ _ _ _ _ _ _)
   | (with_reducible exact whittleref1_Of.mono _ _ _)
   | (with_reducible exact whittleref1_made.mono _ _ _ _)
   | (with_reducible exact LeO.refl _)
   | (with_reducible exact LeO.none _)
   | (with_reducible refine LeO.ite ?_ ?_)
   | (with_reducible refine LeO.bind ?_ (fun _ => ?_))
   | exact ih0 _ _ _ _ _ _
   | exact ih1 _ _ _ _ _ _ _
   | exact ih2 _ _ _ _ _ _ _ _
   | exact whittleref1_Of.mono _ _ _
   | exact whittleref1_made.mono _ _ _ _
   | exact LeO.none _
   | refine LeO.ite ?_ ?_
   | refine LeO.bind ?_ (fun _ => ?_)
set_option maxHeartbeats 8000000 in
set_option maxRecDepth 100000 in
theorem whittleref1_Pow.calls (k : Nat) (a0_0 : Int) (a0_1 : Int) (a1 : Int) (r1 : Int) (r2 : Int) (r3 : Bool) (w : World) (h : whittleref1_Pow.f k a0_0 a0_1 a1 = some (r1, r2, r3)) :
  Calls Tryz.prog 63 #[.agg #[.int .i64 a0_0, .int .i64 a0_1], .int .i64 a1] w fun e w' => e = .returned (.tuple #[.agg #[.int .i64 r1, .int .i64 r2], .bool r3]) ∧ Below w.heap.size w w' := by
 have hu23 := Tryz.underlying23
 have BX := Bx.start w
 have H : ((whittleref1_Of.f k a0_0 a0_1).bind fun bt774 => (if a1 = 0 then (some (1, 1, true)) else (if bt774.1 = 0 then (if a1 < 0 then (some (0, 0, false)) else (some (bt774.1, bt774.2, true))) else (if bt774.2 = 1 then (if bt774.1 = 1 then (whittleref1_Pow.j0 k a1 true bt774.1 bt774.2 1 1) else (whittleref1_Pow.j0 k a1 (bt774.1 == (-1)) bt774.1 bt774.2 1 1)) else (whittleref1_Pow.j0 k a1 false bt774.1 bt774.2 1 1))))) = some (r1, r2, r3) := h
 clear h
 replace H := Option.bind_eq_some_iff.mp H
 obtain ⟨⟨t774, t775⟩, A30, H⟩ := H
 replace H : (if a1 = 0 then (some (1, 1, true)) else (if t774 = 0 then (if a1 < 0 then (some (0, 0, false)) else (some (t774, t775, true))) else (if t775 = 1 then (if t774 = 1 then (whittleref1_Pow.j0 k a1 true t774 t775 1 1) else (whittleref1_Pow.j0 k a1 (t774 == (-1)) t774 t775 1 1)) else (whittleref1_Pow.j0 k a1 false t774 t775 1 1)))) = some (r1, r2, r3) := H
 have A3 := Aside0.mk A30
 clear A30
 by_cases c4 : a1 = 0
 ·rw [if_pos c4] at H
  have c4b0 : (a1 == 0) = true := beq_iff_eq.mpr c4
  have c4b1 : (a1 != 0) = false := bne_eq_false_iff_eq.mpr c4
  clear c4
  simp only [Option.some.injEq, Prod.mk.injEq] at H
  obtain ⟨rfl, rfl, rfl⟩ := H
  go_enter Tryz.func63, Tryz.ntmps63
  go_wp2_with (first | ((with_reducible refine gate_dst (N := 2) rfl ?_); refine bxe 2 #[.int .i64 a0_0, .int .i64 a0_1] 23 rfl rfl gr ?_; clear BX; intro gb772 w5 GE772 BX) | ((with_reducible refine gate_dst (N := 4) rfl ?_); refine bxe 4 #[.int .i64 0, .int .i64 0] 23 rfl rfl gr ?_; clear BX; intro gb773 w6 GE773 BX) | ((with_reducible refine gate_callee (f := 78) rfl ?_); refine goesL_ (some 13) rfl rfl Tryz.func78 kr rfl #[.agg #[.int .i64 a0_0, .int .i64 a0_1]] rfl ga ?_; (with_reducible refine (whittleref1_Of.calls k a0_0 a0_1 t774 t775 _ A3.out).mono ?_); rintro e w9 ⟨rfl, hb⟩; refine ⟨_, rfl, ?_⟩; replace BX := bx_call hb; clear hb) | ((with_reducible refine gate_dst (N := 6) rfl ?_); refine bxe 6 #[.int .i64 0, .int .i64 0] 23 rfl rfl gr ?_; clear BX; intro gb776 w11 GE776 BX))
  refine bodyPost_ret (results_ct rfl _ _ gb773 23 #[.int .i64 1, .int .i64 1] (0, 0) _ rfl bx_get Tryz.underlying23 rfl kr) rfl ?_
  exact ⟨er2, bx_bl⟩
 ·rw [if_neg c4] at H
  have c4b0 : (a1 == 0) = false := beq_eq_false_iff_ne.mpr c4
  have c4b1 : (a1 != 0) = true := bne_iff_ne.mpr c4
  by_cases c16 : t774 = 0
  ·rw [if_pos c16] at H
   have c16b0 : (t774 == 0) = true := beq_iff_eq.mpr c16
   have c16b1 : (t774 != 0) = false := bne_eq_false_iff_eq.mpr c16
   clear c16
   by_cases c17 : a1 < 0
   ·rw [if_pos c17] at H
    have c17b0 : decide (a1 < 0) = true := decide_eq_true c17
    clear c17
    simp only [Option.some.injEq, Prod.mk.injEq] at H
    obtain ⟨rfl, rfl, rfl⟩ := H
    go_enter Tryz.func63, Tryz.ntmps63
    go_wp2_with (first | ((with_reducible refine gate_dst (N := 2) rfl ?_); refine bxe 2 #[.int .i64 a0_0, .int .i64 a0_1] 23 rfl rfl gr ?_; clear BX; intro gb772 w18 GE772 BX) | ((with_reducible refine gate_dst (N := 4) rfl ?_); refine bxe 4 #[.int .i64 0, .int .i64 0] 23 rfl rfl gr ?_; clear BX; intro gb773 w19 GE773 BX) | ((with_reducible refine gate_callee (f := 78) rfl ?_); refine goesL_ (some 13) rfl rfl Tryz.func78 kr rfl #[.agg #[.int .i64 a0_0, .int .i64 a0_1]] rfl ga ?_; (with_reducible refine (whittleref1_Of.calls k a0_0 a0_1 t774 t775 _ A3.out).mono ?_); rintro e w22 ⟨rfl, hb⟩; refine ⟨_, rfl, ?_⟩; replace BX := bx_call hb; clear hb) | ((with_reducible refine gate_dst (N := 6) rfl ?_); refine bxe 6 #[.int .i64 0, .int .i64 0] 23 rfl rfl gr ?_; clear BX; intro gb776 w24 GE776 BX))
    refine bodyPost_ret (results_ct rfl _ _ gb773 23 #[.int .i64 0, .int .i64 0] (0, 0) _ rfl bx_get Tryz.underlying23 rfl kr) rfl ?_
    exact ⟨er2, bx_bl⟩
   ·rw [if_neg c17] at H
    have c17b0 : decide (a1 < 0) = false := decide_eq_false c17
    clear c17
    simp only [Option.some.injEq, Prod.mk.injEq] at H
    obtain ⟨rfl, rfl, rfl⟩ := H
    go_enter Tryz.func63, Tryz.ntmps63
    go_wp2_with (first | ((with_reducible refine gate_dst (N := 2) rfl ?_); refine bxe 2 #[.int .i64 a0_0, .int .i64 a0_1] 23 rfl rfl gr ?_; clear BX; intro gb772 w30 GE772 BX) | ((with_reducible refine gate_dst (N := 4) rfl ?_); refine bxe 4 #[.int .i64 0, .int .i64 0] 23 rfl rfl gr ?_; clear BX; intro gb773 w31 GE773 BX) | ((with_reducible refine gate_callee (f := 78) rfl ?_); refine goesL_ (some 13) rfl rfl Tryz.func78 kr rfl #[.agg #[.int .i64 a0_0, .int .i64 a0_1]] rfl ga ?_; (with_reducible refine (whittleref1_Of.calls k a0_0 a0_1 t774 t775 _ A3.out).mono ?_); rintro e w34 ⟨rfl, hb⟩; refine ⟨_, rfl, ?_⟩; replace BX := bx_call hb; clear hb) | ((with_reducible refine gate_dst (N := 6) rfl ?_); refine bxe 6 #[.int .i64 0, .int .i64 0] 23 rfl rfl gr ?_; clear BX; intro gb776 w36 GE776 BX))
    refine bodyPost_ret (results_ct rfl _ _ gb773 23 #[.int .i64 t774, .int .i64 t775] (0, 0) _ rfl bx_get Tryz.underlying23 rfl kr) rfl ?_
    exact ⟨er2, bx_bl⟩
  ·rw [if_neg c16] at H
   have c16b0 : (t774 == 0) = false := beq_eq_false_iff_ne.mpr c16
   have c16b1 : (t774 != 0) = true := bne_iff_ne.mpr c16
   have HC42 := Aside0.mk H
   clear H
   go_enter Tryz.func63, Tryz.ntmps63
   go_upto_region 9 with (first | ((with_reducible refine gate_dst (N := 2) rfl ?_); refine bxe 2 #[.int .i64 a0_0, .int .i64 a0_1] 23 rfl rfl gr ?_; clear BX; intro gb772 w43 GE772 BX) | ((with_reducible refine gate_dst (N := 4) rfl ?_); refine bxe 4 #[.int .i64 0, .int .i64 0] 23 rfl rfl gr ?_; clear BX; intro gb773 w44 GE773 BX) | ((with_reducible refine gate_callee (f := 78) rfl ?_); refine goesL_ (some 13) rfl rfl Tryz.func78 kr rfl #[.agg #[.int .i64 a0_0, .int .i64 a0_1]] rfl ga ?_; (with_reducible refine (whittleref1_Of.calls k a0_0 a0_1 t774 t775 _ A3.out).mono ?_); rintro e w47 ⟨rfl, hb⟩; refine ⟨_, rfl, ?_⟩; replace BX := bx_call hb; clear hb) | ((with_reducible refine gate_dst (N := 6) rfl ?_); refine bxe 6 #[.int .i64 0, .int .i64 0] 23 rfl rfl gr ?_; clear BX; intro gb776 w49 GE776 BX))
   (try simp only [Act.put, List.setIfInBounds_toArray, List.set_cons_zero, List.set_cons_succ])
   go_cut [37] (fun v37 wc => ∃ (kq : Nat) (x37_41 : Bool), v37 = .bool x37_41 ∧ Aside0 (whittleref1_Pow.j0 kq a1 x37_41 t774 t775 1 1 = some (r1, r2, r3)) ∧ Aside0 (kq ≤ k) ∧ Bx w wc [(gb776, 23, #[.int .i64 1, .int .i64 1]), (gb773, 23, #[.int .i64 0, .int .i64 0]), (gb772, 23, #[.int .i64 t774, .int .i64 t775])])
   case first =>
    have H := HC42.out
    clear HC42
    by_cases c54 : t775 = 1
    ·rw [if_pos c54] at H
     have c54b0 : (t775 == 1) = true := beq_iff_eq.mpr c54
     have c54b1 : (t775 != 1) = false := bne_eq_false_iff_eq.mpr c54
     clear c54
     (first | rw [c54b0] | (simp only [i64_w, i32_w]; rw [c54b0]) | skip)
     by_cases c55 : t774 = 1
     ·rw [if_pos c55] at H
      have c55b0 : (t774 == 1) = true := beq_iff_eq.mpr c55
      have c55b1 : (t774 != 1) = false := bne_eq_false_iff_eq.mpr c55
      clear c55
      have H' := Aside0.mk H
      clear H
      go_wp2
      go_meet
      case rel => exact ⟨_, (true), er, H', ⟨by first | omega | exact Nat.le_refl _⟩, bxs⟩
     ·rw [if_neg c55] at H
      have c55b0 : (t774 == 1) = false := beq_eq_false_iff_ne.mpr c55
      have c55b1 : (t774 != 1) = true := bne_iff_ne.mpr c55
      have H' := Aside0.mk H
      clear H
      go_wp2
      go_meet
      case rel => exact ⟨_, ((t774 == (-1))), er, H', ⟨by first | omega | exact Nat.le_refl _⟩, bxs⟩
    ·rw [if_neg c54] at H
     have c54b0 : (t775 == 1) = false := beq_eq_false_iff_ne.mpr c54
     have c54b1 : (t775 != 1) = true := bne_iff_ne.mpr c54
     (first | rw [c54b0] | (simp only [i64_w, i32_w]; rw [c54b0]) | skip)
     have H' := Aside0.mk H
     clear H
     go_wp2
     go_meet
     case rel => exact ⟨_, (false), er, H', ⟨by first | omega | exact Nat.le_refl _⟩, bxs⟩
   case rest =>
    clear HC42
    try clear c1
    try clear c2
    try clear p2
    try clear c3
    try clear c4
    try clear c4b0
    try clear c4b1
    try clear c5
    try clear c6
    try clear c7
    try clear c12
    try clear c13
    try clear c16
    try clear c16b0
    try clear c16b1
    try clear c17
    try clear c17b0
    try clear c20
    try clear c25
    try clear c26
    try clear c32
    try clear c37
    try clear c38
    try clear c45
    try clear c50
    try clear c51
    try clear c54
    try clear c54b0
    try clear c54b1
    try clear c55
    try clear c55b0
    try clear c55b1
    try clear c56
    try clear c57
    try clear c59
    try clear c60
    try clear c62
    try clear c63
    obtain ⟨kq, x37_41, rfl, HA, HJ41, BX⟩ := hcut
    cases kq with
    | zero => exact absurd HA.out (by simp [whittleref1_Pow.j0])
    | succ kj41 =>
     have H := HA.out
     clear HA
     simp only [whittleref1_Pow.j0] at H
     by_cases c65 : x37_41 = true
     ·subst c65
      have H1 : (if t774 = (-1) then (if (Int.tmod a1 2) = 0 then (some (1, 1, true)) else (some (t774, t775, true))) else (some (1, 1, true))) = some (r1, r2, r3) := by rw [if_pos rfl] at H; exact H
      clear H
      have H := H1
      clear H1
      by_cases c66 : t774 = (-1)
      ·rw [if_pos c66] at H
       have c66b0 : (t774 == (-1)) = true := beq_iff_eq.mpr c66
       have c66b1 : (t774 != (-1)) = false := bne_eq_false_iff_eq.mpr c66
       clear c66
       by_cases c67 : (Int.tmod a1 2) = 0
       ·rw [if_pos c67] at H
        have c67b0 : ((Int.tmod a1 2) == 0) = true := beq_iff_eq.mpr c67
        have c67b1 : ((Int.tmod a1 2) != 0) = false := bne_eq_false_iff_eq.mpr c67
        clear c67
        simp only [Option.some.injEq, Prod.mk.injEq] at H
        obtain ⟨rfl, rfl, rfl⟩ := H
        go_wp2
        refine bodyPost_ret (results_ct rfl _ _ gb773 23 #[.int .i64 1, .int .i64 1] (0, 0) _ rfl bx_get Tryz.underlying23 rfl kr) rfl ?_
        exact ⟨er2, bx_bl⟩
       ·rw [if_neg c67] at H
        have c67b0 : ((Int.tmod a1 2) == 0) = false := beq_eq_false_iff_ne.mpr c67
        have c67b1 : ((Int.tmod a1 2) != 0) = true := bne_iff_ne.mpr c67
        simp only [Option.some.injEq, Prod.mk.injEq] at H
        obtain ⟨rfl, rfl, rfl⟩ := H
        go_wp2
        refine bodyPost_ret (results_ct rfl _ _ gb773 23 #[.int .i64 t774, .int .i64 t775] (0, 0) _ rfl bx_get Tryz.underlying23 rfl kr) rfl ?_
        exact ⟨er2, bx_bl⟩
      ·rw [if_neg c66] at H
       have c66b0 : (t774 == (-1)) = false := beq_eq_false_iff_ne.mpr c66
       have c66b1 : (t774 != (-1)) = true := bne_iff_ne.mpr c66
       simp only [Option.some.injEq, Prod.mk.injEq] at H
       obtain ⟨rfl, rfl, rfl⟩ := H
       go_wp2
       refine bodyPost_ret (results_ct rfl _ _ gb773 23 #[.int .i64 1, .int .i64 1] (0, 0) _ rfl bx_get Tryz.underlying23 rfl kr) rfl ?_
       exact ⟨er2, bx_bl⟩
     ·replace c65 := Bool.eq_false_iff.mpr c65
      subst c65
      have H1 : ((whittleref1_far.f t774).bind fun t777 => (if a1 < 0 then ((whittleref1_far.f t774).bind fun t778 => (whittleref1_Pow.j1 kj41 a1 1 1 (IntKind.u64.wrap (t775)) t778 t774 t775)) else (whittleref1_Pow.j1 kj41 a1 1 1 t777 (IntKind.u64.wrap (t775)) t774 t775))) = some (r1, r2, r3) := by rw [if_neg (show ¬ (false = true) by decide)] at H; exact H
      clear H
      have H := H1
      clear H1
      replace H := Option.bind_eq_some_iff.mp H
      obtain ⟨t777, A850, H⟩ := H
      replace H : (if a1 < 0 then ((whittleref1_far.f t774).bind fun t778 => (whittleref1_Pow.j1 kj41 a1 1 1 (IntKind.u64.wrap (t775)) t778 t774 t775)) else (whittleref1_Pow.j1 kj41 a1 1 1 t777 (IntKind.u64.wrap (t775)) t774 t775)) = some (r1, r2, r3) := H
      have A85 := Aside0.mk A850
      clear A850
      have HC86 := Aside0.mk H
      clear H
      go_upto_if 55 with (first | ((with_reducible refine gate_callee (f := 79) rfl ?_); refine goesL_ (some 50) rfl rfl Tryz.func79 kr rfl #[.int .i64 t774] rfl ga ?_; (with_reducible refine (whittleref1_far.calls t774 t777 _ A85.out).mono ?_); rintro e w' ⟨rfl, ⟨nd, rfl⟩⟩; refine ⟨_, rfl, ?_⟩))
      (try simp only [Act.put, List.setIfInBounds_toArray, List.set_cons_zero, List.set_cons_succ])
      go_cut [9, 10] (fun v9 v10 wc => ∃ (kq : Nat) (x9_85 : Int) (x10_85 : Int), v9 = .int .u64 x9_85 ∧ v10 = .int .u64 x10_85 ∧ Aside0 (whittleref1_Pow.j1 kq a1 1 1 x9_85 x10_85 t774 t775 = some (r1, r2, r3)) ∧ Aside0 (kq ≤ kj41) ∧ Bx w wc [(gb776, 23, #[.int .i64 1, .int .i64 1]), (gb773, 23, #[.int .i64 0, .int .i64 0]), (gb772, 23, #[.int .i64 t774, .int .i64 t775])])
      case first =>
       have H := HC86.out
       clear HC86
       by_cases c90 : a1 < 0
       ·rw [if_pos c90] at H
        have c90b0 : decide (a1 < 0) = true := decide_eq_true c90
        clear c90
        (first | rw [c90b0] | (simp only [i64_w, i32_w]; rw [c90b0]) | skip)
        replace H := Option.bind_eq_some_iff.mp H
        obtain ⟨t778, A910, H⟩ := H
        replace H : (whittleref1_Pow.j1 kj41 a1 1 1 (IntKind.u64.wrap (t775)) t778 t774 t775) = some (r1, r2, r3) := H
        have A91 := Aside0.mk A910
        clear A910
        have H' := Aside0.mk H
        clear H
        go_wp2_with (first | ((with_reducible refine gate_callee (f := 79) rfl ?_); refine goesL_ (some 61) rfl rfl Tryz.func79 kr rfl #[.int .i64 t774] rfl ga ?_; (with_reducible refine (whittleref1_far.calls t774 t778 _ A91.out).mono ?_); rintro e w' ⟨rfl, ⟨nd, rfl⟩⟩; refine ⟨_, rfl, ?_⟩))
        go_meet
        case rel => exact ⟨_, (IntKind.u64.wrap (t775)), (t778), er, er, H', ⟨by have := HJ41.out; first | omega | exact Nat.le_refl _⟩, bxs⟩
       ·rw [if_neg c90] at H
        have c90b0 : decide (a1 < 0) = false := decide_eq_false c90
        clear c90
        (first | rw [c90b0] | (simp only [i64_w, i32_w]; rw [c90b0]) | skip)
        have H' := Aside0.mk H
        clear H
        go_wp2
        go_meet
        case rel => exact ⟨_, (t777), (IntKind.u64.wrap (t775)), er, er, H', ⟨by have := HJ41.out; first | omega | exact Nat.le_refl _⟩, bxs⟩
      case rest =>
       clear HC86
       try clear c1
       try clear c2
       try clear p2
       try clear c3
       try clear c4
       try clear c4b0
       try clear c4b1
       try clear c5
       try clear c6
       try clear c7
       try clear c8
       try clear c9
       try clear c12
       try clear c13
       try clear c16
       try clear c16b0
       try clear c16b1
       try clear c17
       try clear c17b0
       try clear c20
       try clear c25
       try clear c26
       try clear c32
       try clear c37
       try clear c38
       try clear c45
       try clear c50
       try clear c51
       try clear c54
       try clear c54b0
       try clear c54b1
       try clear c55
       try clear c55b0
       try clear c55b1
       try clear c56
       try clear c57
       try clear c59
       try clear c60
       try clear c62
       try clear c63
       try clear c65
       try clear c66
       try clear c66b0
       try clear c66b1
       try clear c67
       try clear c67b0
       try clear c67b1
       try clear c68
       try clear c69
       try clear c71
       try clear c74
       try clear c75
       try clear c77
       try clear c78
       try clear c79
       try clear c80
       try clear c82
       try clear c87
       try clear c88
       try clear c90
       try clear c90b0
       try clear c92
       try clear c93
       try clear p2
       obtain ⟨kq, x9_85, x10_85, rfl, rfl, HA, HJ85, BX⟩ := hcut
       cases kq with
       | zero => exact absurd HA.out (by simp [whittleref1_Pow.j1])
       | succ kj85 =>
        have H := HA.out
        clear HA
        simp only [whittleref1_Pow.j1] at H
        have H' := Aside0.mk H
        clear H
        go_wp2
        go_loopg [7, 8, 11] kj85 (fun kq v7 v8 v11 w' => ∃ (x7_3 : Int) (x8_3 : Int) (x11_3 : Int) (x774000_3 : Int) (x774001_3 : Int), v7 = .int .u64 x7_3 ∧ v8 = .int .u64 x8_3 ∧ v11 = .int .u64 x11_3 ∧ Aside0 (whittleref1_Pow.l0 kq a1 x7_3 x8_3 x9_85 x10_85 x11_3 t774 t775 = some (r1, r2, r3)) ∧ Aside0 (kq ≤ kj85) ∧ Bx w w' [(gb776, 23, #[.int .i64 1, .int .i64 1]), (gb773, 23, #[.int .i64 x774000_3, .int .i64 x774001_3]), (gb772, 23, #[.int .i64 t774, .int .i64 t775])])
        case atStart => exact ⟨(1), (1), (0), (0), (0), er, er, er, H', ⟨Nat.le_refl _⟩, bxs⟩
        case round =>
         clear H'
         try clear c1
         try clear c2
         try clear p2
         try clear c3
         try clear c4
         try clear c4b0
         try clear c4b1
         try clear c5
         try clear c6
         try clear c7
         try clear c8
         try clear c9
         try clear c12
         try clear c13
         try clear c16
         try clear c16b0
         try clear c16b1
         try clear c17
         try clear c17b0
         try clear c20
         try clear c25
         try clear c26
         try clear c32
         try clear c37
         try clear c38
         try clear c45
         try clear c50
         try clear c51
         try clear c54
         try clear c54b0
         try clear c54b1
         try clear c55
         try clear c55b0
         try clear c55b1
         try clear c56
         try clear c57
         try clear c59
         try clear c60
         try clear c62
         try clear c63
         try clear c65
         try clear c66
         try clear c66b0
         try clear c66b1
         try clear c67
         try clear c67b0
         try clear c67b1
         try clear c68
         try clear c69
         try clear c71
         try clear c74
         try clear c75
         try clear c77
         try clear c78
         try clear c79
         try clear c80
         try clear c82
         try clear c87
         try clear c88
         try clear c90
         try clear c90b0
         try clear c92
         try clear c93
         try clear p2
         obtain ⟨x7_3, x8_3, x11_3, x774000_3, x774001_3, rfl, rfl, rfl, HA, HK3, BX⟩ := hrel
         cases gk with
         | zero => exact absurd HA.out (by simp [whittleref1_Pow.l0])
         | succ k3 =>
          have H := HA.out
          clear HA
          simp only [whittleref1_Pow.l0] at H
          replace H := Option.bind_eq_some_iff.mp H
          obtain ⟨t779, A950, H⟩ := H
          replace H : (if x11_3 < t779 then (if x9_85 = 0 then (none) else (if x7_3 > (IntKind.u64.wrap (Int.tdiv (1000000000000 : Int) x9_85)) then (some (0, 0, false)) else (if x10_85 = 0 then (none) else (if x8_3 > (IntKind.u64.wrap (Int.tdiv (1000000 : Int) x10_85)) then (some (0, 0, false)) else (whittleref1_Pow.l0 k3 a1 (IntKind.u64.wrap (x7_3 * x9_85)) (IntKind.u64.wrap (x8_3 * x10_85)) x9_85 x10_85 (IntKind.u64.wrap (x11_3 + 1)) t774 t775))))) else (if t774 < 0 then ((whittleref1_made.f k3 ((Int.tmod a1 2) != 0) x7_3 x8_3).bind fun bt780 => (some (bt780.1, bt780.2.1, bt780.2.2))) else ((whittleref1_made.f k3 false x7_3 x8_3).bind fun bt783 => (some (bt783.1, bt783.2.1, bt783.2.2))))) = some (r1, r2, r3) := H
          have A95 := Aside0.mk A950
          clear A950
          by_cases c96 : x11_3 < t779
          ·rw [if_pos c96] at H
           have c96b0 : decide (x11_3 < t779) = true := decide_eq_true c96
           clear c96
           by_cases c97 : x9_85 = 0
           ·rw [if_pos c97] at H
            exact absurd H (by simp)
           ·rw [if_neg c97] at H
            have c97b0 : (x9_85 == 0) = false := beq_eq_false_iff_ne.mpr c97
            have c97b1 : (x9_85 != 0) = true := bne_iff_ne.mpr c97
            by_cases c98 : x7_3 > (IntKind.u64.wrap (Int.tdiv (1000000000000 : Int) x9_85))
            ·rw [if_pos c98] at H
             have c98b0 : decide ((IntKind.u64.wrap (Int.tdiv (1000000000000 : Int) x9_85)) < x7_3) = true := decide_eq_true c98
             clear c98
             simp only [Option.some.injEq, Prod.mk.injEq] at H
             obtain ⟨rfl, rfl, rfl⟩ := H
             go_wp2_with (first | ((with_reducible refine gate_callee (f := 79) rfl ?_); refine goesL_ (some 64) rfl rfl Tryz.func79 kr rfl #[.int .i64 a1] rfl ga ?_; (with_reducible refine (whittleref1_far.calls a1 t779 _ A95.out).mono ?_); rintro e w' ⟨rfl, ⟨nd, rfl⟩⟩; refine ⟨_, rfl, ?_⟩))
             refine bodyPost_ret (results_ct rfl _ _ gb773 23 #[.int .i64 0, .int .i64 0] (0, 0) _ rfl bx_get Tryz.underlying23 rfl kr) rfl ?_
             exact ⟨er2, bx_bl⟩
            ·rw [if_neg c98] at H
             have c98b0 : decide ((IntKind.u64.wrap (Int.tdiv (1000000000000 : Int) x9_85)) < x7_3) = false := decide_eq_false c98
             clear c98
             by_cases c105 : x10_85 = 0
             ·rw [if_pos c105] at H
              exact absurd H (by simp)
             ·rw [if_neg c105] at H
              have c105b0 : (x10_85 == 0) = false := beq_eq_false_iff_ne.mpr c105
              have c105b1 : (x10_85 != 0) = true := bne_iff_ne.mpr c105
              by_cases c106 : x8_3 > (IntKind.u64.wrap (Int.tdiv (1000000 : Int) x10_85))
              ·rw [if_pos c106] at H
               have c106b0 : decide ((IntKind.u64.wrap (Int.tdiv (1000000 : Int) x10_85)) < x8_3) = true := decide_eq_true c106
               clear c106
               simp only [Option.some.injEq, Prod.mk.injEq] at H
               obtain ⟨rfl, rfl, rfl⟩ := H
               go_wp2_with (first | ((with_reducible refine gate_callee (f := 79) rfl ?_); refine goesL_ (some 64) rfl rfl Tryz.func79 kr rfl #[.int .i64 a1] rfl ga ?_; (with_reducible refine (whittleref1_far.calls a1 t779 _ A95.out).mono ?_); rintro e w' ⟨rfl, ⟨nd, rfl⟩⟩; refine ⟨_, rfl, ?_⟩))
               refine bodyPost_ret (results_ct rfl _ _ gb773 23 #[.int .i64 0, .int .i64 0] (0, 0) _ rfl bx_get Tryz.underlying23 rfl kr) rfl ?_
               exact ⟨er2, bx_bl⟩
              ·rw [if_neg c106] at H
               have c106b0 : decide ((IntKind.u64.wrap (Int.tdiv (1000000 : Int) x10_85)) < x8_3) = false := decide_eq_false c106
               clear c106
               have H' := Aside0.mk H
               clear H
               go_wp2_with (first | ((with_reducible refine gate_callee (f := 79) rfl ?_); refine goesL_ (some 64) rfl rfl Tryz.func79 kr rfl #[.int .i64 a1] rfl ga ?_; (with_reducible refine (whittleref1_far.calls a1 t779 _ A95.out).mono ?_); rintro e w' ⟨rfl, ⟨nd, rfl⟩⟩; refine ⟨_, rfl, ?_⟩))
               go_roundg k3
               case measure => have := HJ41.out; have := HJ85.out; have := HK3.out; omega
               case rel => exact ⟨(IntKind.u64.wrap (x7_3 * x9_85)), (IntKind.u64.wrap (x8_3 * x10_85)), (IntKind.u64.wrap (x11_3 + 1)), (x774000_3), (x774001_3), er, er, er, H', ⟨by have := HJ41.out; have := HJ85.out; have := HK3.out; omega⟩, bxs⟩
          ·rw [if_neg c96] at H
           have c96b0 : decide (x11_3 < t779) = false := decide_eq_false c96
           clear c96
           by_cases c113 : t774 < 0
           ·rw [if_pos c113] at H
            have c113b0 : decide (t774 < 0) = true := decide_eq_true c113
            clear c113
            replace H := Option.bind_eq_some_iff.mp H
            obtain ⟨⟨t780, t781, t782⟩, A1140, H⟩ := H
            replace H : (some (t780, t781, t782)) = some (r1, r2, r3) := H
            have A114 := Aside0.mk A1140
            clear A1140
            simp only [Option.some.injEq, Prod.mk.injEq] at H
            obtain ⟨rfl, rfl, rfl⟩ := H
            go_wp2_with (first | ((with_reducible refine gate_callee (f := 79) rfl ?_); refine goesL_ (some 64) rfl rfl Tryz.func79 kr rfl #[.int .i64 a1] rfl ga ?_; (with_reducible refine (whittleref1_far.calls a1 t779 _ A95.out).mono ?_); rintro e w' ⟨rfl, ⟨nd, rfl⟩⟩; refine ⟨_, rfl, ?_⟩) | ((with_reducible refine gate_callee (f := 82) rfl ?_); refine goesL_ (some 95) rfl rfl Tryz.func82 kr rfl #[.bool ((Int.tmod a1 2) != 0), .int .u64 x7_3, .int .u64 x8_3] rfl ga ?_; (with_reducible refine (whittleref1_made.calls k3 ((Int.tmod a1 2) != 0) x7_3 x8_3 t780 t781 t782 _ A114.out).mono ?_); rintro e w121 ⟨rfl, hb⟩; refine ⟨_, rfl, ?_⟩; replace BX := bx_call hb; clear hb))
            refine bodyPost_ret (results_ct rfl _ _ gb773 23 #[.int .i64 t780, .int .i64 t781] (0, 0) _ rfl bx_get Tryz.underlying23 rfl kr) rfl ?_
            exact ⟨er2, bx_bl⟩
           ·rw [if_neg c113] at H
            have c113b0 : decide (t774 < 0) = false := decide_eq_false c113
            clear c113
            replace H := Option.bind_eq_some_iff.mp H
            obtain ⟨⟨t783, t784, t785⟩, A1240, H⟩ := H
            replace H : (some (t783, t784, t785)) = some (r1, r2, r3) := H
            have A124 := Aside0.mk A1240
            clear A1240
            simp only [Option.some.injEq, Prod.mk.injEq] at H
            obtain ⟨rfl, rfl, rfl⟩ := H
            go_wp2_with (first | ((with_reducible refine gate_callee (f := 79) rfl ?_); refine goesL_ (some 64) rfl rfl Tryz.func79 kr rfl #[.int .i64 a1] rfl ga ?_; (with_reducible refine (whittleref1_far.calls a1 t779 _ A95.out).mono ?_); rintro e w' ⟨rfl, ⟨nd, rfl⟩⟩; refine ⟨_, rfl, ?_⟩) | ((with_reducible refine gate_callee (f := 82) rfl ?_); refine goesL_ (some 95) rfl rfl Tryz.func82 kr rfl #[.bool false, .int .u64 x7_3, .int .u64 x8_3] rfl ga ?_; (with_reducible refine (whittleref1_made.calls k3 false x7_3 x8_3 t783 t784 t785 _ A124.out).mono ?_); rintro e w131 ⟨rfl, hb⟩; refine ⟨_, rfl, ?_⟩; replace BX := bx_call hb; clear hb))
            refine bodyPost_ret (results_ct rfl _ _ gb773 23 #[.int .i64 t783, .int .i64 t784] (0, 0) _ rfl bx_get Tryz.underlying23 rfl kr) rfl ?_
            exact ⟨er2, bx_bl⟩
end
end Go.Proofs.YtmakkdlkgfgaoaaGreatDoor.F
