-- Laid by program (wip/tools/genv.sh, pack.py, merge.py of this repo) out of the translation; Lean checks it.
import Derived.Test.YtmakkdlkgfgaoaaDoorF0
import Derived.Test.YtmakkdlkgfgaoaaDoorC0
import Derived.Test.YtmakkdlkgfgaoaaDoorF110
import Derived.Test.YtmakkdlkgfgaoaaDoorF112
import Derived.Test.YtmakkdlkgfgaoaaDoorG3
namespace Go.Proofs.YtmakkdlkgfgaoaaDoor.F
open Go.RowKit Go.Proofs.YtmakkdlkgfgaoaaDoorW.PrintWords Go.Proofs.YtmakkdlkgfgaoaaDoorW.PrintLast Go.Proofs.YtmakkdlkgfgaoaaDoorW.PrintMore
attribute [local go_sem] max2_int min2_int max_two min_two max_three min_three max_four min_four
attribute [local go_sem high] bx_cell bx_frozen
set_option linter.unusedVariables false
set_option linter.unusedSimpArgs false

section
/-! ### whittlelaw2_ValueShows: function 5 -/
def whittlelaw2_ValueShows.f (k : Nat) (a0_0 : Int) (a0_1 : Int) (a0_2 : Int) (a0_3 : ByteArray) (a0_4 : Bool) (a0_5 : Int) : Option (Bool) := (whittlelaw2_able.f k).bind fun t794 => (if t794 = true then ((value_Show.f k a0_0 a0_1 a0_2 a0_3 a0_4 a0_5).bind fun t795 => ((whittleref2_Show.f k a0_0 a0_1 a0_2 a0_3 a0_4 a0_5).bind fun t796 => (some (t795.toList == t796.toList)))) else (some false))
theorem whittlelaw2_ValueShows.mono : ∀ a0 a1 a2 a3 a4 a5 k, LeO (whittlelaw2_ValueShows.f k a0 a1 a2 a3 a4 a5) (whittlelaw2_ValueShows.f (k + 1) a0 a1 a2 a3 a4 a5) := by
 intro a0 a1 a2 a3 a4 a5 k
 unfold whittlelaw2_ValueShows.f
 repeat' first
   | (with_reducible exact value_Show.mono _ _ _ _ _ _ _)
   | (with_reducible exact whittlelaw2_able.mono _)
   | (with_reducible exact whittleref2_Show.mono _ _ _ _ _ _ _)
   | (with_reducible exact LeO.refl _)
   | (with_reducible exact LeO.none _)
   | (with_reducible refine LeO.ite ?_ ?_)
   | (with_reducible refine LeO.bind ?_ (fun _ => ?_))
   | exact value_Show.mono _ _ _ _ _ _ _
   | exact whittlelaw2_able.mono _
   | exact whittleref2_Show.mono _ _ _ _ _ _ _
   | exact LeO.none _
   | refine LeO.ite ?_ ?_
   | refine LeO.bind ?_ (fun _ => ?_)
def whittlelaw2_ValueShows.T1 : Bool × List (List Nat × List Nat) := (true, [([], []), ([0, 0], [0]), ([1], [1]), ([2, 1, 1], [1, 2]), ([1], [1]), ([4, 3, 1], [1, 4]), ([3, 5, 1], [1, 3, 5]), ([1, 6], [1, 6]), ([7, 5, 0, 1, 2, 3, 4, 5, 6, 7], [7])])
def whittlelaw2_ValueShows.B1 : List Nat := [0, 1, 3, 7, 3, 31, 63, 127, 255]
theorem whittlelaw2_ValueShows.tab1 : rtab .any (opsOf Tryd.f5 1) = whittlelaw2_ValueShows.T1 := by kernel_rfl
theorem whittlelaw2_ValueShows.bits1 : waitsOk whittlelaw2_ValueShows.T1.2 whittlelaw2_ValueShows.B1 = true := by kernel_rfl
set_option maxHeartbeats 8000000 in
set_option maxRecDepth 100000 in
theorem whittlelaw2_ValueShows.calls (k : Nat) (a0_0 : Int) (a0_1 : Int) (a0_2 : Int) (a0_3 : ByteArray) (a0_4 : Bool) (a0_5 : Int) (r : Bool) (w : World) (HT0 : TabAt w) (hr0 : r = true) (h : whittlelaw2_ValueShows.f k a0_0 a0_1 a0_2 a0_3 a0_4 a0_5 = some r) :
  Calls Tryd.prog 5 #[.agg #[.int .i64 a0_0, .int .i64 a0_1, .int .i64 a0_2, .string a0_3, .bool a0_4, .int .i64 a0_5]] w fun e w' => e = .returned (.bool r) ∧ Below w.heap.size w w' := by
 have hu25 := Tryd.underlying25
 have HT := Aside0.mk HT0
 clear HT0
 have HR := Aside0.mk hr0
 clear hr0
 have BX := Bx.start w
 have H : ((whittlelaw2_able.f k).bind fun t794 => (if t794 = true then ((value_Show.f k a0_0 a0_1 a0_2 a0_3 a0_4 a0_5).bind fun t795 => ((whittleref2_Show.f k a0_0 a0_1 a0_2 a0_3 a0_4 a0_5).bind fun t796 => (some (t795.toList == t796.toList)))) else (some false))) = some r := h
 clear h
 replace H := Option.bind_eq_some_iff.mp H
 obtain ⟨t794, A20, H⟩ := H
 replace H : (if t794 = true then ((value_Show.f k a0_0 a0_1 a0_2 a0_3 a0_4 a0_5).bind fun t795 => ((whittleref2_Show.f k a0_0 a0_1 a0_2 a0_3 a0_4 a0_5).bind fun t796 => (some (t795.toList == t796.toList)))) else (some false)) = some r := H
 have A2 := Aside0.mk A20
 clear A20
 by_cases c3 : t794 = true
 ·subst c3
  have H1 : ((value_Show.f k a0_0 a0_1 a0_2 a0_3 a0_4 a0_5).bind fun t795 => ((whittleref2_Show.f k a0_0 a0_1 a0_2 a0_3 a0_4 a0_5).bind fun t796 => (some (t795.toList == t796.toList)))) = some r := by rw [if_pos rfl] at H; exact H
  clear H
  have H := H1
  clear H1
  replace H := Option.bind_eq_some_iff.mp H
  obtain ⟨t795, A40, H⟩ := H
  have A4 := Aside0.mk A40
  clear A40
  replace H := Option.bind_eq_some_iff.mp H
  obtain ⟨t796, A50, H⟩ := H
  replace H : (some (t795.toList == t796.toList)) = some r := H
  have A5 := Aside0.mk A50
  clear A50
  clear HR
  obtain rfl := Option.some.inj H
  go_enter Tryd.func5, Tryd.ntmps5
  try go_wp2_with (first | ((with_reducible refine gate_dst (N := 1) rfl ?_); refine bxe 1 #[.int .i64 a0_0, .int .i64 a0_1, .int .i64 a0_2, .string a0_3, .bool a0_4, .int .i64 a0_5] 25 rfl rfl gr ?_; clear BX; intro gb793 w6 GE793 BX))
  refine startm [true] (n := 9) (ds := []) #[false, false, false, false, false, false, false, false, false] kr rfl rfl (fun BX1 => ?_); refine with_tabW whittlelaw2_ValueShows.tab1 whittlelaw2_ValueShows.bits1 (fun HT_ HW_ => ?_)
  clear BX
  have BX := BX1
  clear BX1
  generalize w6.drew = w7 at BX ⊢
  refine one_ (i := 0) (N := some 3) #[true, false, false, false, false, false, false, false, false] rfl rfl (one_of HT_.out kr) (by decide) (fun K hK => ?_)
  refine goes_ Tryd.func15 kr rfl #[] (by rfl) rfl rfl ga ?_
  with_reducible refine (whittlelaw2_able.calls k  true _ ?side1 A2.out).mono ?_
  (case side1 => exact HT.out.on bx_bl)
  rintro e w8 ⟨rfl, hb⟩
  refine ⟨_, rfl, ?_⟩
  replace BX := bx_call hb
  clear hb
  refine hK.out _ _ bxs (fun hHeld => ?_)
  clear hK K hHeld
  refine norm_ (a' := ?_) ?_ ?_
  rotate_left
  ·show Act.put _ (some 3) _ = _
   simp only [Act.put, List.setIfInBounds_toArray, List.set_cons_zero, List.set_cons_succ, i64_w, i32_w]
   rfl
  refine pure_ (i := 1) (N := some 4) (v := ?_) (a' := ?_) #[true, true, false, false, false, false, false, false, false] rfl rfl (any_of HT_.out kr) (fun _ _ _ h => h) (Or.inl ⟨by rfl, ?_⟩) ?_ ?_
  rotate_left
  ·intro w'
   go_simp
   with_reducible rfl
  rotate_left
  ·simp only [Act.put, List.setIfInBounds_toArray, List.set_cons_zero, List.set_cons_succ, i64_w, i32_w]
   rfl
  refine take_ (i := 2) (N := some 5) (v := ?_) (a' := ?_) #[true, true, true, false, false, false, false, false, false] rfl rfl (take_ofW HT_.out HW_.out kr) (fun _ _ _ h => h) (Or.inl ⟨by rfl, ?_⟩) bxs ?_ ?_
  rotate_left
  ·intro w' hS
   go_simp
   with_reducible rfl
  rotate_left
  ·simp only [Act.put, List.setIfInBounds_toArray, List.set_cons_zero, List.set_cons_succ, i64_w, i32_w]
   rfl
  refine take_ (i := 4) (N := some 7) (v := ?_) (a' := ?_) #[true, true, true, false, true, false, false, false, false] rfl rfl (take_ofW HT_.out HW_.out kr) (fun _ _ _ h => h) (Or.inl ⟨by rfl, ?_⟩) bxs ?_ ?_
  rotate_left
  ·intro w' hS
   go_simp
   with_reducible rfl
  rotate_left
  ·simp only [Act.put, List.setIfInBounds_toArray, List.set_cons_zero, List.set_cons_succ, i64_w, i32_w]
   rfl
  refine one_ (i := 3) (N := some 6) #[true, true, true, true, true, false, false, false, false] rfl rfl (one_of HT_.out kr) (by decide) (fun K hK => ?_)
  refine goes_ Tryd.func29 kr rfl #[.agg #[.int .i64 a0_0, .int .i64 a0_1, .int .i64 a0_2, .string a0_3, .bool a0_4, .int .i64 a0_5]] (by rfl) rfl rfl ga ?_
  with_reducible refine (value_Show.calls k a0_0 a0_1 a0_2 a0_3 a0_4 a0_5 t795 _ ?side1 A4.out).mono ?_
  (case side1 => exact HT.out.on bx_bl)
  rintro e w9 ⟨rfl, hb⟩
  refine ⟨_, rfl, ?_⟩
  replace BX := bx_call hb
  clear hb
  refine hK.out _ _ bxs (fun hHeld => ?_)
  clear hK K hHeld
  refine norm_ (a' := ?_) ?_ ?_
  rotate_left
  ·show Act.put _ (some 6) _ = _
   simp only [Act.put, List.setIfInBounds_toArray, List.set_cons_zero, List.set_cons_succ, i64_w, i32_w]
   rfl
  refine one_ (i := 5) (N := some 8) #[true, true, true, true, true, true, false, false, false] rfl rfl (one_of HT_.out kr) (by decide) (fun K hK => ?_)
  refine goes_ Tryd.func30 kr rfl #[.agg #[.int .i64 a0_0, .int .i64 a0_1, .int .i64 a0_2, .string a0_3, .bool a0_4, .int .i64 a0_5]] (by rfl) rfl rfl ga ?_
  with_reducible refine (whittleref2_Show.calls k a0_0 a0_1 a0_2 a0_3 a0_4 a0_5 t796 _ A5.out).mono ?_
  rintro e w10 ⟨rfl, hb⟩
  refine ⟨_, rfl, ?_⟩
  replace BX := bx_call hb
  clear hb
  refine hK.out _ _ bxs (fun hHeld => ?_)
  clear hK K hHeld
  refine norm_ (a' := ?_) ?_ ?_
  rotate_left
  ·show Act.put _ (some 8) _ = _
   simp only [Act.put, List.setIfInBounds_toArray, List.set_cons_zero, List.set_cons_succ, i64_w, i32_w]
   rfl
  refine pure_ (i := 6) (N := some 9) (v := ?_) (a' := ?_) #[true, true, true, true, true, true, true, false, false] rfl rfl (any_of HT_.out kr) (fun _ _ _ h => h) (Or.inl ⟨by rfl, ?_⟩) ?_ ?_
  rotate_left
  ·intro w'
   go_simp
   with_reducible rfl
  rotate_left
  ·simp only [Act.put, List.setIfInBounds_toArray, List.set_cons_zero, List.set_cons_succ, i64_w, i32_w]
   rfl
  refine pure_ (i := 7) (N := some 10) (v := ?_) (a' := ?_) #[true, true, true, true, true, true, true, true, false] rfl rfl (any_of HT_.out kr) (fun _ _ _ h => h) (Or.inl ⟨by rfl, ?_⟩) ?_ ?_
  rotate_left
  ·intro w'
   go_simp
   with_reducible rfl
  rotate_left
  ·simp only [Act.put, List.setIfInBounds_toArray, List.set_cons_zero, List.set_cons_succ, i64_w, i32_w]
   rfl
  refine pure_ (i := 8) (N := some 2) (v := ?_) (a' := ?_) #[true, true, true, true, true, true, true, true, true] rfl rfl (any_of HT_.out kr) (fun _ _ _ h => h) (Or.inl ⟨by rfl, ?_⟩) ?_ ?_
  rotate_left
  ·intro w'
   go_simp
   with_reducible rfl
  rotate_left
  ·simp only [Act.put, List.setIfInBounds_toArray, List.set_cons_zero, List.set_cons_succ, i64_w, i32_w]
   rfl
  refine done_ (done_of HT_.out kr) ?_
  try go_wp2
  go_ret
  exact ⟨er2, bx_bl⟩
 ·replace c3 := Bool.eq_false_iff.mpr c3
  subst c3
  have H1 : (some false) = some r := by rw [if_neg (show ¬ (false = true) by decide)] at H; exact H
  clear H
  have H := H1
  clear H1
  exact absurd (Option.some.inj H) (by rw [HR.out]; decide)
end
end Go.Proofs.YtmakkdlkgfgaoaaDoor.F
