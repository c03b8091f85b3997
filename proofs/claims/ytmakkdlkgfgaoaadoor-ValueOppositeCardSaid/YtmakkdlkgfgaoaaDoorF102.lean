-- Laid by program (wip/tools/genv.sh, pack.py, merge.py of this repo) out of the translation; Lean checks it.
import Derived.Test.YtmakkdlkgfgaoaaDoorF0
import Derived.Test.YtmakkdlkgfgaoaaDoorC0
import Derived.Test.YtmakkdlkgfgaoaaDoorF101
namespace Go.Proofs.YtmakkdlkgfgaoaaDoor.F
open Go.RowKit Go.Proofs.YtmakkdlkgfgaoaaDoorW.PrintWords Go.Proofs.YtmakkdlkgfgaoaaDoorW.PrintLast Go.Proofs.YtmakkdlkgfgaoaaDoorW.PrintMore
attribute [local go_sem] max2_int min2_int max_two min_two max_three min_three max_four min_four
attribute [local go_sem high] bx_cell bx_frozen
set_option linter.unusedVariables false
set_option linter.unusedSimpArgs false

section
/-! ### num_Cmp: function 66 -/
def num_Cmp.f (k : Nat) (a0_0 : Int) (a0_1 : Int) (a1_0 : Int) (a1_1 : Int) : Option (Int) := (num_taken.f k a0_0 a0_1).bind fun bt169 => ((num_taken.f k a1_0 a1_1).bind fun bt171 => (if (wrap64 (bt169.1 * bt171.2)) < (wrap64 (bt171.1 * bt169.2)) then (some (-1)) else (if (wrap64 (bt169.1 * bt171.2)) > (wrap64 (bt171.1 * bt169.2)) then (some 1) else (some 0))))
theorem num_Cmp.mono : ∀ a0 a1 a2 a3 k, LeO (num_Cmp.f k a0 a1 a2 a3) (num_Cmp.f (k + 1) a0 a1 a2 a3) := by
 intro a0 a1 a2 a3 k
 unfold num_Cmp.f
 repeat' first
   | (with_reducible exact num_taken.mono _ _ _)
   | (with_reducible exact LeO.refl _)
   | (with_reducible exact LeO.none _)
   | (with_reducible refine LeO.ite ?_ ?_)
   | (with_reducible refine LeO.bind ?_ (fun _ => ?_))
   | exact num_taken.mono _ _ _
   | exact LeO.none _
   | refine LeO.ite ?_ ?_
   | refine LeO.bind ?_ (fun _ => ?_)
def num_Cmp.T2 : Bool × List (List Nat × List Nat) := (true, [([], []), ([0], [0]), ([], []), ([2], [2]), ([1, 3], [1, 3]), ([], []), ([5], [5]), ([], []), ([7], [7]), ([6, 8], [6, 8]), ([4, 0, 1, 2, 3, 4], [4]), ([9, 10, 0, 1, 2, 3, 4, 5, 6, 7, 8, 9, 10], [9])])
def num_Cmp.B2 : List Nat := [0, 1, 0, 4, 15, 0, 32, 0, 128, 480, 31, 2047]
theorem num_Cmp.tab2 : rtab .any (opsOf Tryd.f66 2) = num_Cmp.T2 := by kernel_rfl
theorem num_Cmp.bits2 : waitsOk num_Cmp.T2.2 num_Cmp.B2 = true := by kernel_rfl
set_option maxHeartbeats 8000000 in
set_option maxRecDepth 100000 in
theorem num_Cmp.calls (k : Nat) (a0_0 : Int) (a0_1 : Int) (a1_0 : Int) (a1_1 : Int) (r : Int) (w : World) (h : num_Cmp.f k a0_0 a0_1 a1_0 a1_1 = some r) :
  Calls Tryd.prog 66 #[.agg #[.int .i64 a0_0, .int .i64 a0_1], .agg #[.int .i64 a1_0, .int .i64 a1_1]] w fun e w' => e = .returned (.int .i64 r) ∧ Below w.heap.size w w' := by
 have hu23 := Tryd.underlying23
 have BX := Bx.start w
 have H : ((num_taken.f k a0_0 a0_1).bind fun bt169 => ((num_taken.f k a1_0 a1_1).bind fun bt171 => (if (wrap64 (bt169.1 * bt171.2)) < (wrap64 (bt171.1 * bt169.2)) then (some (-1)) else (if (wrap64 (bt169.1 * bt171.2)) > (wrap64 (bt171.1 * bt169.2)) then (some 1) else (some 0))))) = some r := h
 clear h
 replace H := Option.bind_eq_some_iff.mp H
 obtain ⟨⟨t169, t170⟩, A30, H⟩ := H
 have A3 := Aside0.mk A30
 clear A30
 replace H := Option.bind_eq_some_iff.mp H
 obtain ⟨⟨t171, t172⟩, A40, H⟩ := H
 replace H : (if (wrap64 (t169 * t172)) < (wrap64 (t171 * t170)) then (some (-1)) else (if (wrap64 (t169 * t172)) > (wrap64 (t171 * t170)) then (some 1) else (some 0))) = some r := H
 have A4 := Aside0.mk A40
 clear A40
 by_cases c5 : (wrap64 (t169 * t172)) < (wrap64 (t171 * t170))
 ·rw [if_pos c5] at H
  have c5b0 : decide ((wrap64 (t169 * t172)) < (wrap64 (t171 * t170))) = true := decide_eq_true c5
  clear c5
  obtain rfl := Option.some.inj H
  go_enter Tryd.func66, Tryd.ntmps66
  try go_wp2_with (first | ((with_reducible refine gate_dst (N := 2) rfl ?_); refine bxe 2 #[.int .i64 a0_0, .int .i64 a0_1] 23 rfl rfl gr ?_; clear BX; intro gb167 w6 GE167 BX) | ((with_reducible refine gate_dst (N := 3) rfl ?_); refine bxe 3 #[.int .i64 a1_0, .int .i64 a1_1] 23 rfl rfl gr ?_; clear BX; intro gb168 w7 GE168 BX))
  refine startm [true, true] (n := 6) (ds := [4, 5]) #[false, false, false, false, false, false] kr rfl rfl (fun BX1 => ?_)
  clear BX
  have BX := BX1
  clear BX1
  generalize w7.drew = w8 at BX ⊢
  refine take_ (i := 0) (N := some 7) (v := ?_) (a' := ?_) #[true, false, false, false, false, false] rfl rfl kr (fun _ _ _ h => h) (Or.inl ⟨by rfl, ?_⟩) bxs ?_ ?_
  rotate_left
  ·intro w' hS
   go_simp
   with_reducible rfl
  rotate_left
  ·simp only [Act.put, List.setIfInBounds_toArray, List.set_cons_zero, List.set_cons_succ, i64_w, i32_w]
   rfl
  refine take_ (i := 2) (N := some 9) (v := ?_) (a' := ?_) #[true, false, true, false, false, false] rfl rfl kr (fun _ _ _ h => h) (Or.inl ⟨by rfl, ?_⟩) bxs ?_ ?_
  rotate_left
  ·intro w' hS
   go_simp
   with_reducible rfl
  rotate_left
  ·simp only [Act.put, List.setIfInBounds_toArray, List.set_cons_zero, List.set_cons_succ, i64_w, i32_w]
   rfl
  refine one_ (i := 1) (N := some 8) #[true, true, true, false, false, false] rfl rfl kr (by decide) (fun K hK => ?_)
  refine goes_ Tryd.func79 kr rfl #[.agg #[.int .i64 a0_0, .int .i64 a0_1]] (by rfl) rfl rfl ga ?_
  with_reducible refine (num_taken.calls k a0_0 a0_1 t169 t170 _ A3.out).mono ?_
  rintro e w9 ⟨rfl, hb⟩
  refine ⟨_, rfl, ?_⟩
  replace BX := bx_call hb
  clear hb
  refine hK.out _ _ bxs (fun hHeld => ?_)
  clear hK K hHeld
  refine norm_ (a' := ?_) ?_ ?_
  rotate_left
  ·show Act.put _ (some 8) _ = _
   simp only [Act.put, List.setIfInBounds_toArray, List.set_cons_zero, List.set_cons_succ, i64_w, i32_w]
   rfl
  refine one_ (i := 3) (N := some 10) #[true, true, true, true, false, false] rfl rfl kr (by decide) (fun K hK => ?_)
  refine goes_ Tryd.func79 kr rfl #[.agg #[.int .i64 a1_0, .int .i64 a1_1]] (by rfl) rfl rfl ga ?_
  with_reducible refine (num_taken.calls k a1_0 a1_1 t171 t172 _ A4.out).mono ?_
  rintro e w10 ⟨rfl, hb⟩
  refine ⟨_, rfl, ?_⟩
  replace BX := bx_call hb
  clear hb
  refine hK.out _ _ bxs (fun hHeld => ?_)
  clear hK K hHeld
  refine norm_ (a' := ?_) ?_ ?_
  rotate_left
  ·show Act.put _ (some 10) _ = _
   simp only [Act.put, List.setIfInBounds_toArray, List.set_cons_zero, List.set_cons_succ, i64_w, i32_w]
   rfl
  refine last_ (i := 4) (N := none) #[true, true, true, true, true, false] rfl rfl kr (by decide) (fun K hK => ?_)
  refine skip_ (w1 := ?_) (by rfl) rfl ?_ ?_
  rotate_left
  ·go_simp
   rfl
  refine hK.out _ _ ?_
  clear hK K
  refine last_ (i := 5) (N := none) #[true, true, true, true, true, true] rfl rfl kr (by decide) (fun K hK => ?_)
  refine skip_ (w1 := ?_) (by rfl) rfl ?_ ?_
  rotate_left
  ·go_simp
   rfl
  refine hK.out _ _ ?_
  clear hK K
  refine done_ kr ?_
  try go_wp2
  replace BX : Bx w ((((w10.setCell ⟨gb167, 0, none⟩ (.int .i64 t169)).setCell ⟨gb167, 1, none⟩ (.int .i64 t170)).setCell ⟨gb168, 0, none⟩ (.int .i64 t171)).setCell ⟨gb168, 1, none⟩ (.int .i64 t172)) _ := bxi
  generalize ((((w10.setCell ⟨gb167, 0, none⟩ (.int .i64 t169)).setCell ⟨gb167, 1, none⟩ (.int .i64 t170)).setCell ⟨gb168, 0, none⟩ (.int .i64 t171)).setCell ⟨gb168, 1, none⟩ (.int .i64 t172)) = w15 at BX ⊢
  refine startm [true, true] (n := 12) (ds := []) #[false, false, false, false, false, false, false, false, false, false, false, false] kr rfl rfl (fun BX1 => ?_); refine with_tabW num_Cmp.tab2 num_Cmp.bits2 (fun HT_ HW_ => ?_)
  clear BX
  have BX := BX1
  clear BX1
  generalize w15.drew = w16 at BX ⊢
  refine pure_ (i := 0) (N := some 11) (v := ?_) (a' := ?_) #[true, false, false, false, false, false, false, false, false, false, false, false] rfl rfl (any_of HT_.out kr) (fun _ _ _ h => h) (Or.inl ⟨by rfl, ?_⟩) ?_ ?_
  rotate_left
  ·intro w'
   go_simp
   with_reducible rfl
  rotate_left
  ·simp only [Act.put, List.setIfInBounds_toArray, List.set_cons_zero, List.set_cons_succ, i64_w, i32_w]
   rfl
  refine pure_ (i := 2) (N := some 13) (v := ?_) (a' := ?_) #[true, false, true, false, false, false, false, false, false, false, false, false] rfl rfl (any_of HT_.out kr) (fun _ _ _ h => h) (Or.inl ⟨by rfl, ?_⟩) ?_ ?_
  rotate_left
  ·intro w'
   go_simp
   with_reducible rfl
  rotate_left
  ·simp only [Act.put, List.setIfInBounds_toArray, List.set_cons_zero, List.set_cons_succ, i64_w, i32_w]
   rfl
  refine pure_ (i := 5) (N := some 16) (v := ?_) (a' := ?_) #[true, false, true, false, false, true, false, false, false, false, false, false] rfl rfl (any_of HT_.out kr) (fun _ _ _ h => h) (Or.inl ⟨by rfl, ?_⟩) ?_ ?_
  rotate_left
  ·intro w'
   go_simp
   with_reducible rfl
  rotate_left
  ·simp only [Act.put, List.setIfInBounds_toArray, List.set_cons_zero, List.set_cons_succ, i64_w, i32_w]
   rfl
  refine pure_ (i := 7) (N := some 18) (v := ?_) (a' := ?_) #[true, false, true, false, false, true, false, true, false, false, false, false] rfl rfl (any_of HT_.out kr) (fun _ _ _ h => h) (Or.inl ⟨by rfl, ?_⟩) ?_ ?_
  rotate_left
  ·intro w'
   go_simp
   with_reducible rfl
  rotate_left
  ·simp only [Act.put, List.setIfInBounds_toArray, List.set_cons_zero, List.set_cons_succ, i64_w, i32_w]
   rfl
  refine take_ (i := 1) (N := some 12) (v := ?_) (a' := ?_) #[true, true, true, false, false, true, false, true, false, false, false, false] rfl rfl (take_ofW HT_.out HW_.out kr) (fun _ _ _ h => h) (Or.inl ⟨by rfl, ?_⟩) bxs ?_ ?_
  rotate_left
  ·intro w' hS
   go_simp
   with_reducible rfl
  rotate_left
  ·simp only [Act.put, List.setIfInBounds_toArray, List.set_cons_zero, List.set_cons_succ, i64_w, i32_w]
   rfl
  refine take_ (i := 3) (N := some 14) (v := ?_) (a' := ?_) #[true, true, true, true, false, true, false, true, false, false, false, false] rfl rfl (take_ofW HT_.out HW_.out kr) (fun _ _ _ h => h) (Or.inl ⟨by rfl, ?_⟩) bxs ?_ ?_
  rotate_left
  ·intro w' hS
   go_simp
   with_reducible rfl
  rotate_left
  ·simp only [Act.put, List.setIfInBounds_toArray, List.set_cons_zero, List.set_cons_succ, i64_w, i32_w]
   rfl
  refine pure_ (i := 4) (N := some 15) (v := ?_) (a' := ?_) #[true, true, true, true, true, true, false, true, false, false, false, false] rfl rfl (any_of HT_.out kr) (fun _ _ _ h => h) (Or.inl ⟨by rfl, ?_⟩) ?_ ?_
  rotate_left
  ·intro w'
   go_simp
   with_reducible rfl
  rotate_left
  ·simp only [Act.put, List.setIfInBounds_toArray, List.set_cons_zero, List.set_cons_succ, i64_w, i32_w]
   rfl
  refine pure_ (i := 10) (N := some 5) (v := ?_) (a' := ?_) #[true, true, true, true, true, true, false, true, false, false, true, false] rfl rfl (any_of HT_.out kr) (fun _ _ _ h => h) (Or.inl ⟨by rfl, ?_⟩) ?_ ?_
  rotate_left
  ·intro w'
   go_simp
   with_reducible rfl
  rotate_left
  ·simp only [Act.put, List.setIfInBounds_toArray, List.set_cons_zero, List.set_cons_succ, i64_w, i32_w]
   rfl
  refine take_ (i := 6) (N := some 17) (v := ?_) (a' := ?_) #[true, true, true, true, true, true, true, true, false, false, true, false] rfl rfl (take_ofW HT_.out HW_.out kr) (fun _ _ _ h => h) (Or.inl ⟨by rfl, ?_⟩) bxs ?_ ?_
  rotate_left
  ·intro w' hS
   go_simp
   with_reducible rfl
  rotate_left
  ·simp only [Act.put, List.setIfInBounds_toArray, List.set_cons_zero, List.set_cons_succ, i64_w, i32_w]
   rfl
  refine take_ (i := 8) (N := some 19) (v := ?_) (a' := ?_) #[true, true, true, true, true, true, true, true, true, false, true, false] rfl rfl (take_ofW HT_.out HW_.out kr) (fun _ _ _ h => h) (Or.inl ⟨by rfl, ?_⟩) bxs ?_ ?_
  rotate_left
  ·intro w' hS
   go_simp
   with_reducible rfl
  rotate_left
  ·simp only [Act.put, List.setIfInBounds_toArray, List.set_cons_zero, List.set_cons_succ, i64_w, i32_w]
   rfl
  refine pure_ (i := 9) (N := some 20) (v := ?_) (a' := ?_) #[true, true, true, true, true, true, true, true, true, true, true, false] rfl rfl (any_of HT_.out kr) (fun _ _ _ h => h) (Or.inl ⟨by rfl, ?_⟩) ?_ ?_
  rotate_left
  ·intro w'
   go_simp
   with_reducible rfl
  rotate_left
  ·simp only [Act.put, List.setIfInBounds_toArray, List.set_cons_zero, List.set_cons_succ, i64_w, i32_w]
   rfl
  refine pure_ (i := 11) (N := some 6) (v := ?_) (a' := ?_) #[true, true, true, true, true, true, true, true, true, true, true, true] rfl rfl (any_of HT_.out kr) (fun _ _ _ h => h) (Or.inl ⟨by rfl, ?_⟩) ?_ ?_
  rotate_left
  ·intro w'
   go_simp
   with_reducible rfl
  rotate_left
  ·simp only [Act.put, List.setIfInBounds_toArray, List.set_cons_zero, List.set_cons_succ, i64_w, i32_w]
   rfl
  refine done_ (done_of HT_.out kr) ?_
  try go_wp2
  go_ret
  exact ⟨er2, bx_bl⟩
 ·rw [if_neg c5] at H
  have c5b0 : decide ((wrap64 (t169 * t172)) < (wrap64 (t171 * t170))) = false := decide_eq_false c5
  clear c5
  by_cases c17 : (wrap64 (t169 * t172)) > (wrap64 (t171 * t170))
  ·rw [if_pos c17] at H
   have c17b0 : decide ((wrap64 (t171 * t170)) < (wrap64 (t169 * t172))) = true := decide_eq_true c17
   clear c17
   obtain rfl := Option.some.inj H
   go_enter Tryd.func66, Tryd.ntmps66
   try go_wp2_with (first | ((with_reducible refine gate_dst (N := 2) rfl ?_); refine bxe 2 #[.int .i64 a0_0, .int .i64 a0_1] 23 rfl rfl gr ?_; clear BX; intro gb167 w18 GE167 BX) | ((with_reducible refine gate_dst (N := 3) rfl ?_); refine bxe 3 #[.int .i64 a1_0, .int .i64 a1_1] 23 rfl rfl gr ?_; clear BX; intro gb168 w19 GE168 BX))
   refine startm [true, true] (n := 6) (ds := [4, 5]) #[false, false, false, false, false, false] kr rfl rfl (fun BX1 => ?_)
   clear BX
   have BX := BX1
   clear BX1
   generalize w19.drew = w20 at BX ⊢
   refine take_ (i := 0) (N := some 7) (v := ?_) (a' := ?_) #[true, false, false, false, false, false] rfl rfl kr (fun _ _ _ h => h) (Or.inl ⟨by rfl, ?_⟩) bxs ?_ ?_
   rotate_left
   ·intro w' hS
    go_simp
    with_reducible rfl
   rotate_left
   ·simp only [Act.put, List.setIfInBounds_toArray, List.set_cons_zero, List.set_cons_succ, i64_w, i32_w]
    rfl
   refine take_ (i := 2) (N := some 9) (v := ?_) (a' := ?_) #[true, false, true, false, false, false] rfl rfl kr (fun _ _ _ h => h) (Or.inl ⟨by rfl, ?_⟩) bxs ?_ ?_
   rotate_left
   ·intro w' hS
    go_simp
    with_reducible rfl
   rotate_left
   ·simp only [Act.put, List.setIfInBounds_toArray, List.set_cons_zero, List.set_cons_succ, i64_w, i32_w]
    rfl
   refine one_ (i := 1) (N := some 8) #[true, true, true, false, false, false] rfl rfl kr (by decide) (fun K hK => ?_)
   refine goes_ Tryd.func79 kr rfl #[.agg #[.int .i64 a0_0, .int .i64 a0_1]] (by rfl) rfl rfl ga ?_
   with_reducible refine (num_taken.calls k a0_0 a0_1 t169 t170 _ A3.out).mono ?_
   rintro e w21 ⟨rfl, hb⟩
   refine ⟨_, rfl, ?_⟩
   replace BX := bx_call hb
   clear hb
   refine hK.out _ _ bxs (fun hHeld => ?_)
   clear hK K hHeld
   refine norm_ (a' := ?_) ?_ ?_
   rotate_left
   ·show Act.put _ (some 8) _ = _
    simp only [Act.put, List.setIfInBounds_toArray, List.set_cons_zero, List.set_cons_succ, i64_w, i32_w]
    rfl
   refine one_ (i := 3) (N := some 10) #[true, true, true, true, false, false] rfl rfl kr (by decide) (fun K hK => ?_)
   refine goes_ Tryd.func79 kr rfl #[.agg #[.int .i64 a1_0, .int .i64 a1_1]] (by rfl) rfl rfl ga ?_
   with_reducible refine (num_taken.calls k a1_0 a1_1 t171 t172 _ A4.out).mono ?_
   rintro e w22 ⟨rfl, hb⟩
   refine ⟨_, rfl, ?_⟩
   replace BX := bx_call hb
   clear hb
   refine hK.out _ _ bxs (fun hHeld => ?_)
   clear hK K hHeld
   refine norm_ (a' := ?_) ?_ ?_
   rotate_left
   ·show Act.put _ (some 10) _ = _
    simp only [Act.put, List.setIfInBounds_toArray, List.set_cons_zero, List.set_cons_succ, i64_w, i32_w]
    rfl
   refine last_ (i := 4) (N := none) #[true, true, true, true, true, false] rfl rfl kr (by decide) (fun K hK => ?_)
   refine skip_ (w1 := ?_) (by rfl) rfl ?_ ?_
   rotate_left
   ·go_simp
    rfl
   refine hK.out _ _ ?_
   clear hK K
   refine last_ (i := 5) (N := none) #[true, true, true, true, true, true] rfl rfl kr (by decide) (fun K hK => ?_)
   refine skip_ (w1 := ?_) (by rfl) rfl ?_ ?_
   rotate_left
   ·go_simp
    rfl
   refine hK.out _ _ ?_
   clear hK K
   refine done_ kr ?_
   try go_wp2
   replace BX : Bx w ((((w22.setCell ⟨gb167, 0, none⟩ (.int .i64 t169)).setCell ⟨gb167, 1, none⟩ (.int .i64 t170)).setCell ⟨gb168, 0, none⟩ (.int .i64 t171)).setCell ⟨gb168, 1, none⟩ (.int .i64 t172)) _ := bxi
   generalize ((((w22.setCell ⟨gb167, 0, none⟩ (.int .i64 t169)).setCell ⟨gb167, 1, none⟩ (.int .i64 t170)).setCell ⟨gb168, 0, none⟩ (.int .i64 t171)).setCell ⟨gb168, 1, none⟩ (.int .i64 t172)) = w27 at BX ⊢
   refine startm [true, true] (n := 12) (ds := []) #[false, false, false, false, false, false, false, false, false, false, false, false] kr rfl rfl (fun BX1 => ?_); refine with_tabW num_Cmp.tab2 num_Cmp.bits2 (fun HT_ HW_ => ?_)
   clear BX
   have BX := BX1
   clear BX1
   generalize w27.drew = w28 at BX ⊢
   refine pure_ (i := 0) (N := some 11) (v := ?_) (a' := ?_) #[true, false, false, false, false, false, false, false, false, false, false, false] rfl rfl (any_of HT_.out kr) (fun _ _ _ h => h) (Or.inl ⟨by rfl, ?_⟩) ?_ ?_
   rotate_left
   ·intro w'
    go_simp
    with_reducible rfl
   rotate_left
   ·simp only [Act.put, List.setIfInBounds_toArray, List.set_cons_zero, List.set_cons_succ, i64_w, i32_w]
    rfl
   refine pure_ (i := 2) (N := some 13) (v := ?_) (a' := ?_) #[true, false, true, false, false, false, false, false, false, false, false, false] rfl rfl (any_of HT_.out kr) (fun _ _ _ h => h) (Or.inl ⟨by rfl, ?_⟩) ?_ ?_
   rotate_left
   ·intro w'
    go_simp
    with_reducible rfl
   rotate_left
   ·simp only [Act.put, List.setIfInBounds_toArray, List.set_cons_zero, List.set_cons_succ, i64_w, i32_w]
    rfl
   refine pure_ (i := 5) (N := some 16) (v := ?_) (a' := ?_) #[true, false, true, false, false, true, false, false, false, false, false, false] rfl rfl (any_of HT_.out kr) (fun _ _ _ h => h) (Or.inl ⟨by rfl, ?_⟩) ?_ ?_
   rotate_left
   ·intro w'
    go_simp
    with_reducible rfl
   rotate_left
   ·simp only [Act.put, List.setIfInBounds_toArray, List.set_cons_zero, List.set_cons_succ, i64_w, i32_w]
    rfl
   refine pure_ (i := 7) (N := some 18) (v := ?_) (a' := ?_) #[true, false, true, false, false, true, false, true, false, false, false, false] rfl rfl (any_of HT_.out kr) (fun _ _ _ h => h) (Or.inl ⟨by rfl, ?_⟩) ?_ ?_
   rotate_left
   ·intro w'
    go_simp
    with_reducible rfl
   rotate_left
   ·simp only [Act.put, List.setIfInBounds_toArray, List.set_cons_zero, List.set_cons_succ, i64_w, i32_w]
    rfl
   refine take_ (i := 1) (N := some 12) (v := ?_) (a' := ?_) #[true, true, true, false, false, true, false, true, false, false, false, false] rfl rfl (take_ofW HT_.out HW_.out kr) (fun _ _ _ h => h) (Or.inl ⟨by rfl, ?_⟩) bxs ?_ ?_
   rotate_left
   ·intro w' hS
    go_simp
    with_reducible rfl
   rotate_left
   ·simp only [Act.put, List.setIfInBounds_toArray, List.set_cons_zero, List.set_cons_succ, i64_w, i32_w]
    rfl
   refine take_ (i := 3) (N := some 14) (v := ?_) (a' := ?_) #[true, true, true, true, false, true, false, true, false, false, false, false] rfl rfl (take_ofW HT_.out HW_.out kr) (fun _ _ _ h => h) (Or.inl ⟨by rfl, ?_⟩) bxs ?_ ?_
   rotate_left
   ·intro w' hS
    go_simp
    with_reducible rfl
   rotate_left
   ·simp only [Act.put, List.setIfInBounds_toArray, List.set_cons_zero, List.set_cons_succ, i64_w, i32_w]
    rfl
   refine pure_ (i := 4) (N := some 15) (v := ?_) (a' := ?_) #[true, true, true, true, true, true, false, true, false, false, false, false] rfl rfl (any_of HT_.out kr) (fun _ _ _ h => h) (Or.inl ⟨by rfl, ?_⟩) ?_ ?_
   rotate_left
   ·intro w'
    go_simp
    with_reducible rfl
   rotate_left
   ·simp only [Act.put, List.setIfInBounds_toArray, List.set_cons_zero, List.set_cons_succ, i64_w, i32_w]
    rfl
   refine pure_ (i := 10) (N := some 5) (v := ?_) (a' := ?_) #[true, true, true, true, true, true, false, true, false, false, true, false] rfl rfl (any_of HT_.out kr) (fun _ _ _ h => h) (Or.inl ⟨by rfl, ?_⟩) ?_ ?_
   rotate_left
   ·intro w'
    go_simp
    with_reducible rfl
   rotate_left
   ·simp only [Act.put, List.setIfInBounds_toArray, List.set_cons_zero, List.set_cons_succ, i64_w, i32_w]
    rfl
   refine take_ (i := 6) (N := some 17) (v := ?_) (a' := ?_) #[true, true, true, true, true, true, true, true, false, false, true, false] rfl rfl (take_ofW HT_.out HW_.out kr) (fun _ _ _ h => h) (Or.inl ⟨by rfl, ?_⟩) bxs ?_ ?_
   rotate_left
   ·intro w' hS
    go_simp
    with_reducible rfl
   rotate_left
   ·simp only [Act.put, List.setIfInBounds_toArray, List.set_cons_zero, List.set_cons_succ, i64_w, i32_w]
    rfl
   refine take_ (i := 8) (N := some 19) (v := ?_) (a' := ?_) #[true, true, true, true, true, true, true, true, true, false, true, false] rfl rfl (take_ofW HT_.out HW_.out kr) (fun _ _ _ h => h) (Or.inl ⟨by rfl, ?_⟩) bxs ?_ ?_
   rotate_left
   ·intro w' hS
    go_simp
    with_reducible rfl
   rotate_left
   ·simp only [Act.put, List.setIfInBounds_toArray, List.set_cons_zero, List.set_cons_succ, i64_w, i32_w]
    rfl
   refine pure_ (i := 9) (N := some 20) (v := ?_) (a' := ?_) #[true, true, true, true, true, true, true, true, true, true, true, false] rfl rfl (any_of HT_.out kr) (fun _ _ _ h => h) (Or.inl ⟨by rfl, ?_⟩) ?_ ?_
   rotate_left
   ·intro w'
    go_simp
    with_reducible rfl
   rotate_left
   ·simp only [Act.put, List.setIfInBounds_toArray, List.set_cons_zero, List.set_cons_succ, i64_w, i32_w]
    rfl
   refine pure_ (i := 11) (N := some 6) (v := ?_) (a' := ?_) #[true, true, true, true, true, true, true, true, true, true, true, true] rfl rfl (any_of HT_.out kr) (fun _ _ _ h => h) (Or.inl ⟨by rfl, ?_⟩) ?_ ?_
   rotate_left
   ·intro w'
    go_simp
    with_reducible rfl
   rotate_left
   ·simp only [Act.put, List.setIfInBounds_toArray, List.set_cons_zero, List.set_cons_succ, i64_w, i32_w]
    rfl
   refine done_ (done_of HT_.out kr) ?_
   try go_wp2
   go_ret
   exact ⟨er2, bx_bl⟩
  ·rw [if_neg c17] at H
   have c17b0 : decide ((wrap64 (t171 * t170)) < (wrap64 (t169 * t172))) = false := decide_eq_false c17
   clear c17
   obtain rfl := Option.some.inj H
   go_enter Tryd.func66, Tryd.ntmps66
   try go_wp2_with (first | ((with_reducible refine gate_dst (N := 2) rfl ?_); refine bxe 2 #[.int .i64 a0_0, .int .i64 a0_1] 23 rfl rfl gr ?_; clear BX; intro gb167 w29 GE167 BX) | ((with_reducible refine gate_dst (N := 3) rfl ?_); refine bxe 3 #[.int .i64 a1_0, .int .i64 a1_1] 23 rfl rfl gr ?_; clear BX; intro gb168 w30 GE168 BX))
   refine startm [true, true] (n := 6) (ds := [4, 5]) #[false, false, false, false, false, false] kr rfl rfl (fun BX1 => ?_)
   clear BX
   have BX := BX1
   clear BX1
   generalize w30.drew = w31 at BX ⊢
   refine take_ (i := 0) (N := some 7) (v := ?_) (a' := ?_) #[true, false, false, false, false, false] rfl rfl kr (fun _ _ _ h => h) (Or.inl ⟨by rfl, ?_⟩) bxs ?_ ?_
   rotate_left
   ·intro w' hS
    go_simp
    with_reducible rfl
   rotate_left
   ·simp only [Act.put, List.setIfInBounds_toArray, List.set_cons_zero, List.set_cons_succ, i64_w, i32_w]
    rfl
   refine take_ (i := 2) (N := some 9) (v := ?_) (a' := ?_) #[true, false, true, false, false, false] rfl rfl kr (fun _ _ _ h => h) (Or.inl ⟨by rfl, ?_⟩) bxs ?_ ?_
   rotate_left
   ·intro w' hS
    go_simp
    with_reducible rfl
   rotate_left
   ·simp only [Act.put, List.setIfInBounds_toArray, List.set_cons_zero, List.set_cons_succ, i64_w, i32_w]
    rfl
   refine one_ (i := 1) (N := some 8) #[true, true, true, false, false, false] rfl rfl kr (by decide) (fun K hK => ?_)
   refine goes_ Tryd.func79 kr rfl #[.agg #[.int .i64 a0_0, .int .i64 a0_1]] (by rfl) rfl rfl ga ?_
   with_reducible refine (num_taken.calls k a0_0 a0_1 t169 t170 _ A3.out).mono ?_
   rintro e w32 ⟨rfl, hb⟩
   refine ⟨_, rfl, ?_⟩
   replace BX := bx_call hb
   clear hb
   refine hK.out _ _ bxs (fun hHeld => ?_)
   clear hK K hHeld
   refine norm_ (a' := ?_) ?_ ?_
   rotate_left
   ·show Act.put _ (some 8) _ = _
    simp only [Act.put, List.setIfInBounds_toArray, List.set_cons_zero, List.set_cons_succ, i64_w, i32_w]
    rfl
   refine one_ (i := 3) (N := some 10) #[true, true, true, true, false, false] rfl rfl kr (by decide) (fun K hK => ?_)
   refine goes_ Tryd.func79 kr rfl #[.agg #[.int .i64 a1_0, .int .i64 a1_1]] (by rfl) rfl rfl ga ?_
   with_reducible refine (num_taken.calls k a1_0 a1_1 t171 t172 _ A4.out).mono ?_
   rintro e w33 ⟨rfl, hb⟩
   refine ⟨_, rfl, ?_⟩
   replace BX := bx_call hb
   clear hb
   refine hK.out _ _ bxs (fun hHeld => ?_)
   clear hK K hHeld
   refine norm_ (a' := ?_) ?_ ?_
   rotate_left
   ·show Act.put _ (some 10) _ = _
    simp only [Act.put, List.setIfInBounds_toArray, List.set_cons_zero, List.set_cons_succ, i64_w, i32_w]
    rfl
   refine last_ (i := 4) (N := none) #[true, true, true, true, true, false] rfl rfl kr (by decide) (fun K hK => ?_)
   refine skip_ (w1 := ?_) (by rfl) rfl ?_ ?_
   rotate_left
   ·go_simp
    rfl
   refine hK.out _ _ ?_
   clear hK K
   refine last_ (i := 5) (N := none) #[true, true, true, true, true, true] rfl rfl kr (by decide) (fun K hK => ?_)
   refine skip_ (w1 := ?_) (by rfl) rfl ?_ ?_
   rotate_left
   ·go_simp
    rfl
   refine hK.out _ _ ?_
   clear hK K
   refine done_ kr ?_
   try go_wp2
   replace BX : Bx w ((((w33.setCell ⟨gb167, 0, none⟩ (.int .i64 t169)).setCell ⟨gb167, 1, none⟩ (.int .i64 t170)).setCell ⟨gb168, 0, none⟩ (.int .i64 t171)).setCell ⟨gb168, 1, none⟩ (.int .i64 t172)) _ := bxi
   generalize ((((w33.setCell ⟨gb167, 0, none⟩ (.int .i64 t169)).setCell ⟨gb167, 1, none⟩ (.int .i64 t170)).setCell ⟨gb168, 0, none⟩ (.int .i64 t171)).setCell ⟨gb168, 1, none⟩ (.int .i64 t172)) = w38 at BX ⊢
   refine startm [true, true] (n := 12) (ds := []) #[false, false, false, false, false, false, false, false, false, false, false, false] kr rfl rfl (fun BX1 => ?_); refine with_tabW num_Cmp.tab2 num_Cmp.bits2 (fun HT_ HW_ => ?_)
   clear BX
   have BX := BX1
   clear BX1
   generalize w38.drew = w39 at BX ⊢
   refine pure_ (i := 0) (N := some 11) (v := ?_) (a' := ?_) #[true, false, false, false, false, false, false, false, false, false, false, false] rfl rfl (any_of HT_.out kr) (fun _ _ _ h => h) (Or.inl ⟨by rfl, ?_⟩) ?_ ?_
   rotate_left
   ·intro w'
    go_simp
    with_reducible rfl
   rotate_left
   ·simp only [Act.put, List.setIfInBounds_toArray, List.set_cons_zero, List.set_cons_succ, i64_w, i32_w]
    rfl
   refine pure_ (i := 2) (N := some 13) (v := ?_) (a' := ?_) #[true, false, true, false, false, false, false, false, false, false, false, false] rfl rfl (any_of HT_.out kr) (fun _ _ _ h => h) (Or.inl ⟨by rfl, ?_⟩) ?_ ?_
   rotate_left
   ·intro w'
    go_simp
    with_reducible rfl
   rotate_left
   ·simp only [Act.put, List.setIfInBounds_toArray, List.set_cons_zero, List.set_cons_succ, i64_w, i32_w]
    rfl
   refine pure_ (i := 5) (N := some 16) (v := ?_) (a' := ?_) #[true, false, true, false, false, true, false, false, false, false, false, false] rfl rfl (any_of HT_.out kr) (fun _ _ _ h => h) (Or.inl ⟨by rfl, ?_⟩) ?_ ?_
   rotate_left
   ·intro w'
    go_simp
    with_reducible rfl
   rotate_left
   ·simp only [Act.put, List.setIfInBounds_toArray, List.set_cons_zero, List.set_cons_succ, i64_w, i32_w]
    rfl
   refine pure_ (i := 7) (N := some 18) (v := ?_) (a' := ?_) #[true, false, true, false, false, true, false, true, false, false, false, false] rfl rfl (any_of HT_.out kr) (fun _ _ _ h => h) (Or.inl ⟨by rfl, ?_⟩) ?_ ?_
   rotate_left
   ·intro w'
    go_simp
    with_reducible rfl
   rotate_left
   ·simp only [Act.put, List.setIfInBounds_toArray, List.set_cons_zero, List.set_cons_succ, i64_w, i32_w]
    rfl
   refine take_ (i := 1) (N := some 12) (v := ?_) (a' := ?_) #[true, true, true, false, false, true, false, true, false, false, false, false] rfl rfl (take_ofW HT_.out HW_.out kr) (fun _ _ _ h => h) (Or.inl ⟨by rfl, ?_⟩) bxs ?_ ?_
   rotate_left
   ·intro w' hS
    go_simp
    with_reducible rfl
   rotate_left
   ·simp only [Act.put, List.setIfInBounds_toArray, List.set_cons_zero, List.set_cons_succ, i64_w, i32_w]
    rfl
   refine take_ (i := 3) (N := some 14) (v := ?_) (a' := ?_) #[true, true, true, true, false, true, false, true, false, false, false, false] rfl rfl (take_ofW HT_.out HW_.out kr) (fun _ _ _ h => h) (Or.inl ⟨by rfl, ?_⟩) bxs ?_ ?_
   rotate_left
   ·intro w' hS
    go_simp
    with_reducible rfl
   rotate_left
   ·simp only [Act.put, List.setIfInBounds_toArray, List.set_cons_zero, List.set_cons_succ, i64_w, i32_w]
    rfl
   refine pure_ (i := 4) (N := some 15) (v := ?_) (a' := ?_) #[true, true, true, true, true, true, false, true, false, false, false, false] rfl rfl (any_of HT_.out kr) (fun _ _ _ h => h) (Or.inl ⟨by rfl, ?_⟩) ?_ ?_
   rotate_left
   ·intro w'
    go_simp
    with_reducible rfl
   rotate_left
   ·simp only [Act.put, List.setIfInBounds_toArray, List.set_cons_zero, List.set_cons_succ, i64_w, i32_w]
    rfl
   refine pure_ (i := 10) (N := some 5) (v := ?_) (a' := ?_) #[true, true, true, true, true, true, false, true, false, false, true, false] rfl rfl (any_of HT_.out kr) (fun _ _ _ h => h) (Or.inl ⟨by rfl, ?_⟩) ?_ ?_
   rotate_left
   ·intro w'
    go_simp
    with_reducible rfl
   rotate_left
   ·simp only [Act.put, List.setIfInBounds_toArray, List.set_cons_zero, List.set_cons_succ, i64_w, i32_w]
    rfl
   refine take_ (i := 6) (N := some 17) (v := ?_) (a' := ?_) #[true, true, true, true, true, true, true, true, false, false, true, false] rfl rfl (take_ofW HT_.out HW_.out kr) (fun _ _ _ h => h) (Or.inl ⟨by rfl, ?_⟩) bxs ?_ ?_
   rotate_left
   ·intro w' hS
    go_simp
    with_reducible rfl
   rotate_left
   ·simp only [Act.put, List.setIfInBounds_toArray, List.set_cons_zero, List.set_cons_succ, i64_w, i32_w]
    rfl
   refine take_ (i := 8) (N := some 19) (v := ?_) (a' := ?_) #[true, true, true, true, true, true, true, true, true, false, true, false] rfl rfl (take_ofW HT_.out HW_.out kr) (fun _ _ _ h => h) (Or.inl ⟨by rfl, ?_⟩) bxs ?_ ?_
   rotate_left
   ·intro w' hS
    go_simp
    with_reducible rfl
   rotate_left
   ·simp only [Act.put, List.setIfInBounds_toArray, List.set_cons_zero, List.set_cons_succ, i64_w, i32_w]
    rfl
   refine pure_ (i := 9) (N := some 20) (v := ?_) (a' := ?_) #[true, true, true, true, true, true, true, true, true, true, true, false] rfl rfl (any_of HT_.out kr) (fun _ _ _ h => h) (Or.inl ⟨by rfl, ?_⟩) ?_ ?_
   rotate_left
   ·intro w'
    go_simp
    with_reducible rfl
   rotate_left
   ·simp only [Act.put, List.setIfInBounds_toArray, List.set_cons_zero, List.set_cons_succ, i64_w, i32_w]
    rfl
   refine pure_ (i := 11) (N := some 6) (v := ?_) (a' := ?_) #[true, true, true, true, true, true, true, true, true, true, true, true] rfl rfl (any_of HT_.out kr) (fun _ _ _ h => h) (Or.inl ⟨by rfl, ?_⟩) ?_ ?_
   rotate_left
   ·intro w'
    go_simp
    with_reducible rfl
   rotate_left
   ·simp only [Act.put, List.setIfInBounds_toArray, List.set_cons_zero, List.set_cons_succ, i64_w, i32_w]
    rfl
   refine done_ (done_of HT_.out kr) ?_
   try go_wp2
   go_ret
   exact ⟨er2, bx_bl⟩
end
section
/-! ### stringslite_HasPrefix: function 98 -/
def stringslite_HasPrefix.f (a0 : ByteArray) (a1 : ByteArray) : Option (Bool) := if (a0.size : Int) ≥ (a1.size : Int) then (if 0 ≤ (a1.size : Int) then (if (a1.size : Int) ≤ (a0.size : Int) then (some ((a0.extract 0 ((a1.size : Int) : Int).toNat).toList == a1.toList)) else (none)) else (none)) else (some false)
set_option maxHeartbeats 8000000 in
set_option maxRecDepth 100000 in
theorem stringslite_HasPrefix.calls (a0 : ByteArray) (a1 : ByteArray) (r : Bool) (w : World) (h : stringslite_HasPrefix.f a0 a1 = some r) :
  Calls Tryd.prog 98 #[.string a0, .string a1] w fun e w' => e = .returned (.bool r) ∧ Drawn0 w w' := by
 have H : (if (a0.size : Int) ≥ (a1.size : Int) then (if 0 ≤ (a1.size : Int) then (if (a1.size : Int) ≤ (a0.size : Int) then (some ((a0.extract 0 ((a1.size : Int) : Int).toNat).toList == a1.toList)) else (none)) else (none)) else (some false)) = some r := h
 clear h
 by_cases c3 : (a0.size : Int) ≥ (a1.size : Int)
 ·rw [if_pos c3] at H
  have c3b0 : decide ((a1.size : Int) ≤ (a0.size : Int)) = true := decide_eq_true c3
  have c3b1 : decide (a1.size ≤ a0.size) = true := decide_eq_true (Int.ofNat_le.mp c3)
  clear c3
  by_cases c4 : 0 ≤ (a1.size : Int)
  ·rw [if_pos c4] at H
   have c4b0 := eq_true c4
   have c4b1 : decide (0 ≤ (a1.size : Int)) = true := decide_eq_true c4
   clear c4
   by_cases c5 : (a1.size : Int) ≤ (a0.size : Int)
   ·rw [if_pos c5] at H
    have c5b0 := eq_true c5
    have c5b1 : decide ((a1.size : Int) ≤ (a0.size : Int)) = true := decide_eq_true c5
    clear c5
    obtain rfl := Option.some.inj H
    go_enter Tryd.func98, Tryd.ntmps98
    go_wp2
    go_ret
    exact ⟨er, dr⟩
   ·rw [if_neg c5] at H
    exact absurd H (by simp)
  ·rw [if_neg c4] at H
   exact absurd H (by simp)
 ·rw [if_neg c3] at H
  have c3b0 : decide ((a1.size : Int) ≤ (a0.size : Int)) = false := decide_eq_false c3
  have c3b1 : decide (a1.size ≤ a0.size) = false := decide_eq_false (fun h => c3 (Int.ofNat_le.mpr h))
  clear c3
  obtain rfl := Option.some.inj H
  go_enter Tryd.func98, Tryd.ntmps98
  go_wp2
  go_ret
  exact ⟨er, dr⟩
end
section
/-! ### stringslite_CutPrefix: function 86 -/
def stringslite_CutPrefix.f (a0 : ByteArray) (a1 : ByteArray) : Option (ByteArray × Bool) := (stringslite_HasPrefix.f a0 a1).bind fun t201 => (if t201 = true then (if 0 ≤ (a1.size : Int) then (if (a1.size : Int) ≤ (a0.size : Int) then (some (a0.extract ((a1.size : Int) : Int).toNat a0.size, true)) else (none)) else (none)) else (some (a0, false)))
set_option maxHeartbeats 8000000 in
set_option maxRecDepth 100000 in
theorem stringslite_CutPrefix.calls (a0 : ByteArray) (a1 : ByteArray) (r1 : ByteArray) (r2 : Bool) (w : World) (h : stringslite_CutPrefix.f a0 a1 = some (r1, r2)) :
  Calls Tryd.prog 86 #[.string a0, .string a1] w fun e w' => e = .returned (.tuple #[.string r1, .bool r2]) ∧ Drawn0 w w' := by
 have H : ((stringslite_HasPrefix.f a0 a1).bind fun t201 => (if t201 = true then (if 0 ≤ (a1.size : Int) then (if (a1.size : Int) ≤ (a0.size : Int) then (some (a0.extract ((a1.size : Int) : Int).toNat a0.size, true)) else (none)) else (none)) else (some (a0, false)))) = some (r1, r2) := h
 clear h
 replace H := Option.bind_eq_some_iff.mp H
 obtain ⟨t201, A30, H⟩ := H
 replace H : (if t201 = true then (if 0 ≤ (a1.size : Int) then (if (a1.size : Int) ≤ (a0.size : Int) then (some (a0.extract ((a1.size : Int) : Int).toNat a0.size, true)) else (none)) else (none)) else (some (a0, false))) = some (r1, r2) := H
 have A3 := Aside0.mk A30
 clear A30
 by_cases c4 : t201 = true
 ·subst c4
  have H1 : (if 0 ≤ (a1.size : Int) then (if (a1.size : Int) ≤ (a0.size : Int) then (some (a0.extract ((a1.size : Int) : Int).toNat a0.size, true)) else (none)) else (none)) = some (r1, r2) := by rw [if_pos rfl] at H; exact H
  clear H
  have H := H1
  clear H1
  by_cases c5 : 0 ≤ (a1.size : Int)
  ·rw [if_pos c5] at H
   have c5b0 := eq_true c5
   have c5b1 : decide (0 ≤ (a1.size : Int)) = true := decide_eq_true c5
   clear c5
   by_cases c6 : (a1.size : Int) ≤ (a0.size : Int)
   ·rw [if_pos c6] at H
    have c6b0 := eq_true c6
    have c6b1 : decide ((a1.size : Int) ≤ (a0.size : Int)) = true := decide_eq_true c6
    clear c6
    simp only [Option.some.injEq, Prod.mk.injEq] at H
    obtain ⟨rfl, rfl⟩ := H
    go_enter Tryd.func86, Tryd.ntmps86
    go_wp2_with (first | ((with_reducible refine gate_callee (f := 98) rfl ?_); refine goesL_ (some 8) rfl rfl Tryd.func98 kr rfl #[.string a0, .string a1] rfl ga ?_; (with_reducible refine (stringslite_HasPrefix.calls a0 a1 true _ A3.out).mono ?_); rintro e w' ⟨rfl, ⟨nd, rfl⟩⟩; refine ⟨_, rfl, ?_⟩))
    go_ret2
    exact ⟨er, dr⟩
   ·rw [if_neg c6] at H
    exact absurd H (by simp)
  ·rw [if_neg c5] at H
   exact absurd H (by simp)
 ·replace c4 := Bool.eq_false_iff.mpr c4
  subst c4
  have H1 : (some (a0, false)) = some (r1, r2) := by rw [if_neg (show ¬ (false = true) by decide)] at H; exact H
  clear H
  have H := H1
  clear H1
  simp only [Option.some.injEq, Prod.mk.injEq] at H
  obtain ⟨rfl, rfl⟩ := H
  go_enter Tryd.func86, Tryd.ntmps86
  go_wp2_with (first | ((with_reducible refine gate_callee (f := 98) rfl ?_); refine goesL_ (some 8) rfl rfl Tryd.func98 kr rfl #[.string a0, .string a1] rfl ga ?_; (with_reducible refine (stringslite_HasPrefix.calls a0 a1 false _ A3.out).mono ?_); rintro e w' ⟨rfl, ⟨nd, rfl⟩⟩; refine ⟨_, rfl, ?_⟩))
  go_ret2
  exact ⟨er, dr⟩
end
section
/-! ### strings_CutPrefix: function 54 -/
def strings_CutPrefix.f (a0 : ByteArray) (a1 : ByteArray) : Option (ByteArray × Bool) := (stringslite_CutPrefix.f a0 a1).bind fun bt202 => (some (bt202.1, bt202.2))
set_option maxHeartbeats 8000000 in
set_option maxRecDepth 100000 in
theorem strings_CutPrefix.calls (a0 : ByteArray) (a1 : ByteArray) (r1 : ByteArray) (r2 : Bool) (w : World) (h : strings_CutPrefix.f a0 a1 = some (r1, r2)) :
  Calls Tryd.prog 54 #[.string a0, .string a1] w fun e w' => e = .returned (.tuple #[.string r1, .bool r2]) ∧ Drawn0 w w' := by
 have H : ((stringslite_CutPrefix.f a0 a1).bind fun bt202 => (some (bt202.1, bt202.2))) = some (r1, r2) := h
 clear h
 replace H := Option.bind_eq_some_iff.mp H
 obtain ⟨⟨t202, t203⟩, A30, H⟩ := H
 replace H : (some (t202, t203)) = some (r1, r2) := H
 have A3 := Aside0.mk A30
 clear A30
 simp only [Option.some.injEq, Prod.mk.injEq] at H
 obtain ⟨rfl, rfl⟩ := H
 go_enter Tryd.func54, Tryd.ntmps54
 go_wp2_with (first | ((with_reducible refine gate_callee (f := 86) rfl ?_); refine goesL_ (some 8) rfl rfl Tryd.func86 kr rfl #[.string a0, .string a1] rfl ga ?_; (with_reducible refine (stringslite_CutPrefix.calls a0 a1 t202 t203 _ A3.out).mono ?_); rintro e w' ⟨rfl, ⟨nd, rfl⟩⟩; refine ⟨_, rfl, ?_⟩))
 go_ret2
 exact ⟨er, dr⟩
end
section
/-! ### num_digits: function 87 -/
mutual
def num_digits.l0 : Nat → ByteArray → Int → Int → Option (Int × ByteArray × Bool)
 | 0, _, _, _ => none
 | k + 1, x0, x2, x5 => if x5 < (x0.size : Int) then (if 0 ≤ x5 then (if (bt x0 x5) ≥ 48 then (num_digits.j1 k x0 x2 x5 (decide ((bt x0 x5) ≤ 57))) else (num_digits.j1 k x0 x2 x5 false)) else (none)) else (num_digits.j1 k x0 x2 x5 false)
def num_digits.j1 : Nat → ByteArray → Int → Int → Bool → Option (Int × ByteArray × Bool)
 | 0, _, _, _, _ => none
 | k + 1, x0, x2, x5, x22 => if x22 = true then (if 0 ≤ x5 then (if x5 < (x0.size : Int) then (if x2 > ((1000000000000000000 - (((bt x0 x5) - 48) % 256)) / 10) then (some (0, (⟨#[]⟩ : ByteArray), false)) else (num_digits.l0 k x0 (wrap64 ((wrap64 (10 * x2)) + (((bt x0 x5) - 48) % 256))) (wrap64 (x5 + 1)))) else (none)) else (none)) else (if 0 ≤ x5 then (if x5 ≤ (x0.size : Int) then (some (x2, x0.extract (x5 : Int).toNat x0.size, decide (x5 > 0))) else (none)) else (none))
end
def num_digits.f (k : Nat) (a0 : ByteArray) : Option (Int × ByteArray × Bool) := num_digits.l0 k a0 0 0
theorem num_digits.mono_l : ∀ k, (∀ y0 y1 y2, LeO (num_digits.l0 k y0 y1 y2) (num_digits.l0 (k + 1) y0 y1 y2)) ∧ (∀ y0 y1 y2 y3, LeO (num_digits.j1 k y0 y1 y2 y3) (num_digits.j1 (k + 1) y0 y1 y2 y3))
 | 0 => ⟨fun _ _ _ r h => by simp [num_digits.l0] at h, fun _ _ _ _ r h => by simp [num_digits.j1] at h⟩
 | k + 1 => by
  obtain ⟨ih0, ih1⟩ := num_digits.mono_l k
  refine ⟨?_, ?_⟩
  ·intro y0 y1 y2
   unfold num_digits.l0
   repeat' first
   | (with_reducible exact ih0 _ _ _)
   | (with_reducible exact ih1 _ _ _ _)
   | (with_reducible exact LeO.refl _)
   | (with_reducible exact LeO.none _)
   | (with_reducible refine LeO.ite ?_ ?_)
   | (with_reducible refine LeO.bind ?_ (fun _ => ?_))
   | exact ih0 _ _ _
   | exact ih1 _ _ _ _
   | exact LeO.none _
   | refine LeO.ite ?_ ?_
   | refine LeO.bind ?_ (fun _ => ?_)
  ·intro y0 y1 y2 y3
   unfold num_digits.j1
   repeat' first
   | (with_reducible exact ih0 _ _ _)
   | (with_reducible exact ih1 _ _ _ _)
   | (with_reducible exact LeO.refl _)
   | (with_reducible exact LeO.none _)
   | (with_reducible refine LeO.ite ?_ ?_)
   | (with_reducible refine LeO.bind ?_ (fun _ => ?_))
   | exact ih0 _ _ _
   | exact ih1 _ _ _ _
   | exact LeO.none _
   | refine LeO.ite ?_ ?_
   | refine LeO.bind ?_ (fun _ => ?_)
theorem num_digits.mono : ∀ a0 k, LeO (num_digits.f k a0) (num_digits.f (k + 1) a0) := by
 intro a0 k
 obtain ⟨ih0, ih1⟩ := num_digits.mono_l k
 unfold num_digits.f
 repeat' first
   | (with_reducible exact ih0 _ _ _)
   | (with_reducible exact ih1 _ _ _ _)
   | (with_reducible exact LeO.refl _)
   | (with_reducible exact LeO.none _)
   | (with_reducible refine LeO.ite ?_ ?_)
   | (with_reducible refine LeO.bind ?_ (fun _ => ?_))
   | exact ih0 _ _ _
   | exact ih1 _ _ _ _
   | exact LeO.none _
   | refine LeO.ite ?_ ?_
   | refine LeO.bind ?_ (fun _ => ?_)
set_option maxHeartbeats 8000000 in
set_option maxRecDepth 100000 in
theorem num_digits.calls (k : Nat) (a0 : ByteArray) (r1 : Int) (r2 : ByteArray) (r3 : Bool) (w : World) (h : num_digits.f k a0 = some (r1, r2, r3)) :
  Calls Tryd.prog 87 #[.string a0] w fun e w' => e = .returned (.tuple #[.int .i64 r1, .string r2, .bool r3]) ∧ Drawn0 w w' := by
 have H : (num_digits.l0 k a0 0 0) = some (r1, r2, r3) := h
 clear h
 have H' := Aside0.mk H
 clear H
 go_enter Tryd.func87, Tryd.ntmps87
 go_wp2
 repeat (go_quiet (fail); try go_wp2)
 go_loopg [2, 5] k (fun kq v2 v5 w' => ∃ (x2_1 : Int) (x5_1 : Int), v2 = .int .i64 x2_1 ∧ v5 = .int .i64 x5_1 ∧ Aside0 (num_digits.l0 kq a0 x2_1 x5_1 = some (r1, r2, r3)) ∧ Aside0 (kq ≤ k) ∧ Drawn0 w w')
 case atStart => exact ⟨(0), (0), er, er, H', ⟨Nat.le_refl _⟩, dr⟩
 case round =>
  clear H'
  obtain ⟨x2_1, x5_1, rfl, rfl, HA, HK1, ⟨m1, rfl⟩⟩ := hrel
  cases gk with
  | zero => exact absurd HA.out (by simp [num_digits.l0])
  | succ k1 =>
   have H := HA.out
   clear HA
   simp only [num_digits.l0] at H
   have HC2 := Aside0.mk H
   clear H
   go_upto_region 2 with (fail)
   repeat (go_quiet (fail); go_upto_region 2 with (fail))
   go_cut [22] (fun v22 wc => ∃ (kq : Nat) (x22_1 : Bool), v22 = .bool x22_1 ∧ Aside0 (num_digits.j1 kq a0 x2_1 x5_1 x22_1 = some (r1, r2, r3)) ∧ Aside0 (kq ≤ k1) ∧ Drawn0 w wc)
   case first =>
    have H := HC2.out
    clear HC2
    by_cases c3 : x5_1 < (a0.size : Int)
    ·rw [if_pos c3] at H
     have c3b0 : decide (x5_1 < (a0.size : Int)) = true := decide_eq_true c3
     clear c3
     (first | rw [c3b0] | (simp only [i64_w, i32_w]; rw [c3b0]) | skip)
     by_cases c4 : 0 ≤ x5_1
     ·rw [if_pos c4] at H
      have c4b0 : decide (0 ≤ x5_1) = true := decide_eq_true c4
      clear c4
      by_cases c6 : (bt a0 x5_1) ≥ 48
      ·rw [if_pos c6] at H
       have c6b0 : decide (48 ≤ (bt a0 x5_1)) = true := decide_eq_true c6
       clear c6
       have H' := Aside0.mk H
       clear H
       have p5 : 0 ≤ (x5_1 : Int) := of_decide_eq_true (by first | (with_reducible assumption) | assumption)
       have q5 : x5_1 < (a0.size : Int) := of_decide_eq_true (by first | (with_reducible assumption) | assumption)
       have hx5 := bt_at a0 x5_1
       replace p5 := eq_true p5
       replace q5 := eq_true q5
       have p7 : 0 ≤ (x5_1 : Int) := of_decide_eq_true (by first | (with_reducible assumption) | assumption)
       have q7 : x5_1 < (a0.size : Int) := of_decide_eq_true (by first | (with_reducible assumption) | assumption)
       have hx7 := bt_at a0 x5_1
       replace p7 := eq_true p7
       replace q7 := eq_true q7
       go_wp2
       repeat (go_quiet (fail); try go_wp2)
       go_meet
       case rel => exact ⟨_, (decide ((bt a0 x5_1) ≤ 57)), er, H', ⟨by have := HK1.out; first | omega | exact Nat.le_refl _⟩, dr⟩
      ·rw [if_neg c6] at H
       have c6b0 : decide (48 ≤ (bt a0 x5_1)) = false := decide_eq_false c6
       clear c6
       have H' := Aside0.mk H
       clear H
       have p5 : 0 ≤ (x5_1 : Int) := of_decide_eq_true (by first | (with_reducible assumption) | assumption)
       have q5 : x5_1 < (a0.size : Int) := of_decide_eq_true (by first | (with_reducible assumption) | assumption)
       have hx5 := bt_at a0 x5_1
       replace p5 := eq_true p5
       replace q5 := eq_true q5
       go_wp2
       repeat (go_quiet (fail); try go_wp2)
       go_meet
       case rel => exact ⟨_, (false), er, H', ⟨by have := HK1.out; first | omega | exact Nat.le_refl _⟩, dr⟩
     ·rw [if_neg c4] at H
      exact absurd H (by simp)
    ·rw [if_neg c3] at H
     have c3b0 : decide (x5_1 < (a0.size : Int)) = false := decide_eq_false c3
     clear c3
     (first | rw [c3b0] | (simp only [i64_w, i32_w]; rw [c3b0]) | skip)
     have H' := Aside0.mk H
     clear H
     go_wp2
     repeat (go_quiet (fail); try go_wp2)
     go_meet
     case rel => exact ⟨_, (false), er, H', ⟨by have := HK1.out; first | omega | exact Nat.le_refl _⟩, dr⟩
   case rest =>
    clear HC2
    try clear p2
    try clear c3
    try clear c3b0
    try clear c4
    try clear c4b0
    try clear p5
    try clear q5
    try clear hx5
    try clear c6
    try clear c6b0
    try clear p7
    try clear q7
    try clear hx7
    try clear p5
    try clear p7
    try clear q5
    try clear q7
    obtain ⟨kq, x22_1, rfl, HA, HJ1, ⟨mc1, rfl⟩⟩ := hcut
    cases kq with
    | zero => exact absurd HA.out (by simp [num_digits.j1])
    | succ kj1 =>
     have H := HA.out
     clear HA
     simp only [num_digits.j1] at H
     by_cases c8 : x22_1 = true
     ·subst c8
      have H1 : (if 0 ≤ x5_1 then (if x5_1 < (a0.size : Int) then (if x2_1 > ((1000000000000000000 - (((bt a0 x5_1) - 48) % 256)) / 10) then (some (0, (⟨#[]⟩ : ByteArray), false)) else (num_digits.l0 kj1 a0 (wrap64 ((wrap64 (10 * x2_1)) + (((bt a0 x5_1) - 48) % 256))) (wrap64 (x5_1 + 1)))) else (none)) else (none)) = some (r1, r2, r3) := by rw [if_pos rfl] at H; exact H
      clear H
      have H := H1
      clear H1
      by_cases c9 : 0 ≤ x5_1
      ·rw [if_pos c9] at H
       have c9b0 : decide (0 ≤ x5_1) = true := decide_eq_true c9
       clear c9
       by_cases c10 : x5_1 < (a0.size : Int)
       ·rw [if_pos c10] at H
        have c10b0 : decide (x5_1 < (a0.size : Int)) = true := decide_eq_true c10
        clear c10
        by_cases c12 : x2_1 > ((1000000000000000000 - (((bt a0 x5_1) - 48) % 256)) / 10)
        ·rw [if_pos c12] at H
         have c12b0 : decide (((1000000000000000000 - (((bt a0 x5_1) - 48) % 256)) / 10) < x2_1) = true := decide_eq_true c12
         clear c12
         simp only [Option.some.injEq, Prod.mk.injEq] at H
         obtain ⟨rfl, rfl, rfl⟩ := H
         have p11 : 0 ≤ (x5_1 : Int) := of_decide_eq_true (by first | (with_reducible assumption) | assumption)
         have q11 : x5_1 < (a0.size : Int) := of_decide_eq_true (by first | (with_reducible assumption) | assumption)
         have hx11 := bt_at a0 x5_1
         replace p11 := eq_true p11
         replace q11 := eq_true q11
         go_wp2
         repeat (go_quiet (fail); try go_wp2)
         go_ret3
         exact ⟨er, dr⟩
        ·rw [if_neg c12] at H
         have c12b0 : decide (((1000000000000000000 - (((bt a0 x5_1) - 48) % 256)) / 10) < x2_1) = false := decide_eq_false c12
         clear c12
         have H' := Aside0.mk H
         clear H
         have p11 : 0 ≤ (x5_1 : Int) := of_decide_eq_true (by first | (with_reducible assumption) | assumption)
         have q11 : x5_1 < (a0.size : Int) := of_decide_eq_true (by first | (with_reducible assumption) | assumption)
         have hx11 := bt_at a0 x5_1
         replace p11 := eq_true p11
         replace q11 := eq_true q11
         go_wp2
         repeat (go_quiet (fail); try go_wp2)
         go_roundg kj1
         case measure => have := HK1.out; have := HJ1.out; omega
         case rel => exact ⟨(wrap64 ((wrap64 (10 * x2_1)) + (((bt a0 x5_1) - 48) % 256))), (wrap64 (x5_1 + 1)), er, er, H', ⟨by have := HK1.out; have := HJ1.out; omega⟩, dr⟩
       ·rw [if_neg c10] at H
        exact absurd H (by simp)
      ·rw [if_neg c9] at H
       exact absurd H (by simp)
     ·replace c8 := Bool.eq_false_iff.mpr c8
      subst c8
      have H1 : (if 0 ≤ x5_1 then (if x5_1 ≤ (a0.size : Int) then (some (x2_1, a0.extract (x5_1 : Int).toNat a0.size, decide (x5_1 > 0))) else (none)) else (none)) = some (r1, r2, r3) := by rw [if_neg (show ¬ (false = true) by decide)] at H; exact H
      clear H
      have H := H1
      clear H1
      by_cases c13 : 0 ≤ x5_1
      ·rw [if_pos c13] at H
       have c13b0 := eq_true c13
       have c13b1 : decide (0 ≤ x5_1) = true := decide_eq_true c13
       clear c13
       by_cases c14 : x5_1 ≤ (a0.size : Int)
       ·rw [if_pos c14] at H
        have c14b0 := eq_true c14
        have c14b1 : decide (x5_1 ≤ (a0.size : Int)) = true := decide_eq_true c14
        clear c14
        simp only [Option.some.injEq, Prod.mk.injEq] at H
        obtain ⟨rfl, rfl, rfl⟩ := H
        go_wp2
        repeat (go_quiet (fail); try go_wp2)
        go_ret3
        exact ⟨er, dr⟩
       ·rw [if_neg c14] at H
        exact absurd H (by simp)
      ·rw [if_neg c13] at H
       exact absurd H (by simp)
end
section
/-! ### num_power: function 88 -/
def num_power.l0 : Nat → Int → Int → Int → Option (Int)
 | 0, _, _, _ => none
 | k + 1, x3, x4, x5 => if x5 < x4 then (num_power.l0 k (wrap64 (x3 * 10)) x4 (wrap64 (x5 + 1))) else (some x3)
def num_power.f (k : Nat) (a0 : Int) : Option (Int) := num_power.l0 k 1 a0 0
theorem num_power.mono_l : ∀ k, (∀ y0 y1 y2, LeO (num_power.l0 k y0 y1 y2) (num_power.l0 (k + 1) y0 y1 y2))
 | 0 => fun _ _ _ r h => by simp [num_power.l0] at h
 | k + 1 => by
  have ih0 := num_power.mono_l k
  ·intro y0 y1 y2
   unfold num_power.l0
   repeat' first
   | (with_reducible exact ih0 _ _ _)
   | (with_reducible exact LeO.refl _)
   | (with_reducible exact LeO.none _)
   | (with_reducible refine LeO.ite ?_ ?_)
   | (with_reducible refine LeO.bind ?_ (fun _ => ?_))
   | exact ih0 _ _ _
   | exact LeO.none _
   | refine LeO.ite ?_ ?_
   | refine LeO.bind ?_ (fun _ => ?_)
theorem num_power.mono : ∀ a0 k, LeO (num_power.f k a0) (num_power.f (k + 1) a0) := by
 intro a0 k
 have ih0 := num_power.mono_l k
 unfold num_power.f
 repeat' first
   | (with_reducible exact ih0 _ _ _)
   | (with_reducible exact LeO.refl _)
   | (with_reducible exact LeO.none _)
   | (with_reducible refine LeO.ite ?_ ?_)
   | (with_reducible refine LeO.bind ?_ (fun _ => ?_))
   | exact ih0 _ _ _
   | exact LeO.none _
   | refine LeO.ite ?_ ?_
   | refine LeO.bind ?_ (fun _ => ?_)
set_option maxHeartbeats 8000000 in
set_option maxRecDepth 100000 in
theorem num_power.calls (k : Nat) (a0 : Int) (r : Int) (w : World) (h : num_power.f k a0 = some r) :
  Calls Tryd.prog 88 #[.int .i64 a0] w fun e w' => e = .returned (.int .i64 r) ∧ Drawn0 w w' := by
 have H : (num_power.l0 k 1 a0 0) = some r := h
 clear h
 have H' := Aside0.mk H
 clear H
 go_enter Tryd.func88, Tryd.ntmps88
 go_wp2
 go_loopg [3, 5] k (fun kq v3 v5 w' => ∃ (x3_1 : Int) (x5_1 : Int), v3 = .int .i64 x3_1 ∧ v5 = .int .i64 x5_1 ∧ Aside0 (num_power.l0 kq x3_1 a0 x5_1 = some r) ∧ Aside0 (kq ≤ k) ∧ Drawn0 w w')
 case atStart => exact ⟨(1), (0), er, er, H', ⟨Nat.le_refl _⟩, dr⟩
 case round =>
  clear H'
  obtain ⟨x3_1, x5_1, rfl, rfl, HA, HK1, ⟨m1, rfl⟩⟩ := hrel
  cases gk with
  | zero => exact absurd HA.out (by simp [num_power.l0])
  | succ k1 =>
   have H := HA.out
   clear HA
   simp only [num_power.l0] at H
   by_cases c2 : x5_1 < a0
   ·rw [if_pos c2] at H
    have c2b0 : decide (x5_1 < a0) = true := decide_eq_true c2
    clear c2
    have H' := Aside0.mk H
    clear H
    go_wp2
    go_roundg k1
    case measure => have := HK1.out; omega
    case rel => exact ⟨(wrap64 (x3_1 * 10)), (wrap64 (x5_1 + 1)), er, er, H', ⟨by have := HK1.out; omega⟩, dr⟩
   ·rw [if_neg c2] at H
    have c2b0 : decide (x5_1 < a0) = false := decide_eq_false c2
    clear c2
    obtain rfl := Option.some.inj H
    go_wp2
    go_ret
    exact ⟨er, dr⟩
end
section
/-! ### num_Read: function 55 -/
mutual
def num_Read.j0 : Nat → Bool → Int → ByteArray → Int → Bool → Option (Int × Int × Bool)
 | 0, _, _, _, _, _ => none
 | k + 1, x4, x5, x6, x9, x44 => if x44 = true then (some (0, 0, false)) else (if 0 < (x6.size : Int) then (if (bt x6 0) = 47 then (if x4 = true then ((num_Make.f k (wrap64 (-x5)) x9).bind fun bt224 => (some (bt224.1, bt224.2.1, bt224.2.2))) else ((num_Make.f k x5 x9).bind fun bt227 => (some (bt227.1, bt227.2.1, bt227.2.2)))) else (if (bt x6 0) = 46 then (if (x6.size : Int) > 7 then (num_Read.j1 k x4 x5 x6 x9 true) else (num_Read.j1 k x4 x5 x6 x9 (decide (x5 > 1000000000000)))) else (num_Read.j1 k x4 x5 x6 x9 true))) else (none))
def num_Read.j1 : Nat → Bool → Int → ByteArray → Int → Bool → Option (Int × Int × Bool)
 | 0, _, _, _, _, _ => none
 | k + 1, x4, x5, x6, x9, x57 => if x57 = true then (some (0, 0, false)) else ((num_power.f k (wrap64 ((x6.size : Int) - 1))).bind fun t230 => (if x4 = true then ((num_Make.f k (wrap64 (-(wrap64 ((wrap64 (x5 * t230)) + x9)))) t230).bind fun bt231 => (some (bt231.1, bt231.2.1, bt231.2.2))) else ((num_Make.f k (wrap64 ((wrap64 (x5 * t230)) + x9)) t230).bind fun bt234 => (some (bt234.1, bt234.2.1, bt234.2.2)))))
end
def num_Read.f (k : Nat) (a0 : ByteArray) : Option (Int × Int × Bool) := (strings_CutPrefix.f a0 (⟨#[45]⟩ : ByteArray)).bind fun bt210 => ((num_digits.f k bt210.1).bind fun bt212 => (if bt212.2.2 = true then (if bt212.2.1.toList = ([] : List UInt8) then (if bt210.2 = true then ((num_Make.f k (wrap64 (-bt212.1)) 1).bind fun bt215 => (some (bt215.1, bt215.2.1, bt215.2.2))) else ((num_Make.f k bt212.1 1).bind fun bt218 => (some (bt218.1, bt218.2.1, bt218.2.2)))) else (if 1 ≤ (bt212.2.1.size : Int) then ((num_digits.f k (bt212.2.1.extract 1 bt212.2.1.size)).bind fun bt221 => (if bt221.2.2 = true then (num_Read.j0 k bt210.2 bt212.1 bt212.2.1 bt221.1 (bt221.2.1.toList != ([] : List UInt8))) else (num_Read.j0 k bt210.2 bt212.1 bt212.2.1 bt221.1 true))) else (none))) else (some (0, 0, false))))
theorem num_Read.mono_l : ∀ k, (∀ y0 y1 y2 y3 y4, LeO (num_Read.j0 k y0 y1 y2 y3 y4) (num_Read.j0 (k + 1) y0 y1 y2 y3 y4)) ∧ (∀ y0 y1 y2 y3 y4, LeO (num_Read.j1 k y0 y1 y2 y3 y4) (num_Read.j1 (k + 1) y0 y1 y2 y3 y4))
 | 0 => ⟨fun _ _ _ _ _ r h => by simp [num_Read.j0] at h, fun _ _ _ _ _ r h => by simp [num_Read.j1] at h⟩
 | k + 1 => by
  obtain ⟨ih0, ih1⟩ := num_Read.mono_l k
  refine ⟨?_, ?_⟩
  ·intro y0 y1 y2 y3 y4
   unfold num_Read.j0
   repeat' first
   | (with_reducible exact ih0 _ _ _ _ _)
   | (with_reducible exact ih1 _ _ _ _ _)
   | (with_reducible exact num_Make.mono _ _ _)
   | (with_reducible exact num_digits.mono _ _)
   | (with_reducible exact num_power.mono _ _)
   | (with_reducible exact LeO.refl _)
   | (with_reducible exact LeO.none _)
   | (with_reducible refine LeO.ite ?_ ?_)
   | (with_reducible refine LeO.bind ?_ (fun _ => ?_))
   | exact ih0 _ _ _ _ _
   | exact ih1 _ _ _ _ _
   | exact num_Make.mono _ _ _
   | exact num_digits.mono _ _
   | exact num_power.mono _ _
   | exact LeO.none _
   | refine LeO.ite ?_ ?_
   | refine LeO.bind ?_ (fun _ => ?_)
  ·intro y0 y1 y2 y3 y4
   unfold num_Read.j1
   repeat' first
   | (with_reducible exact ih0 _ _ _ _ _)
   | (with_reducible exact ih1 _ _ _ _ _)
   | (with_reducible exact num_Make.mono _ _ _)
   | (with_reducible exact num_digits.mono _ _)
   | (with_reducible exact num_power.mono _ _)
   | (with_reducible exact LeO.refl _)
   | (with_reducible exact LeO.none _)
   | (with_reducible refine LeO.ite ?_ ?_)
   | (with_reducible refine LeO.bind ?_ (fun _ => ?_))
   | exact ih0 _ _ _ _ _
   | exact ih1 _ _ _ _ _
   | exact num_Make.mono _ _ _
   | exact num_digits.mono _ _
   | exact num_power.mono _ _
   | exact LeO.none _
   | refine LeO.ite ?_ ?_
   | refine LeO.bind ?_ (fun _ => ?_)
theorem num_Read.mono : ∀ a0 k, LeO (num_Read.f k a0) (num_Read.f (k + 1) a0) := by
 intro a0 k
 obtain ⟨ih0, ih1⟩ := num_Read.mono_l k
 unfold num_Read.f
 repeat' first
   | (with_reducible exact ih0 _ _ _ _ _)
   | (with_reducible exact ih1 _ _ _ _ _)
   | (with_reducible exact num_Make.mono _ _ _)
   | (with_reducible exact num_digits.mono _ _)
   | (with_reducible exact num_power.mono _ _)
   | (with_reducible exact LeO.refl _)
   | (with_reducible exact LeO.none _)
   | (with_reducible refine LeO.ite ?_ ?_)
   | (with_reducible refine LeO.bind ?_ (fun _ => ?_))
   | exact ih0 _ _ _ _ _
   | exact ih1 _ _ _ _ _
   | exact num_Make.mono _ _ _
   | exact num_digits.mono _ _
   | exact num_power.mono _ _
   | exact LeO.none _
   | refine LeO.ite ?_ ?_
   | refine LeO.bind ?_ (fun _ => ?_)
set_option maxHeartbeats 8000000 in
set_option maxRecDepth 100000 in
theorem num_Read.calls (k : Nat) (a0 : ByteArray) (r1 : Int) (r2 : Int) (r3 : Bool) (w : World) (h : num_Read.f k a0 = some (r1, r2, r3)) :
  Calls Tryd.prog 55 #[.string a0] w fun e w' => e = .returned (.tuple #[.agg #[.int .i64 r1, .int .i64 r2], .bool r3]) ∧ Below w.heap.size w w' := by
 have hu23 := Tryd.underlying23
 have BX := Bx.start w
 have H : ((strings_CutPrefix.f a0 (⟨#[45]⟩ : ByteArray)).bind fun bt210 => ((num_digits.f k bt210.1).bind fun bt212 => (if bt212.2.2 = true then (if bt212.2.1.toList = ([] : List UInt8) then (if bt210.2 = true then ((num_Make.f k (wrap64 (-bt212.1)) 1).bind fun bt215 => (some (bt215.1, bt215.2.1, bt215.2.2))) else ((num_Make.f k bt212.1 1).bind fun bt218 => (some (bt218.1, bt218.2.1, bt218.2.2)))) else (if 1 ≤ (bt212.2.1.size : Int) then ((num_digits.f k (bt212.2.1.extract 1 bt212.2.1.size)).bind fun bt221 => (if bt221.2.2 = true then (num_Read.j0 k bt210.2 bt212.1 bt212.2.1 bt221.1 (bt221.2.1.toList != ([] : List UInt8))) else (num_Read.j0 k bt210.2 bt212.1 bt212.2.1 bt221.1 true))) else (none))) else (some (0, 0, false))))) = some (r1, r2, r3) := h
 clear h
 replace H := Option.bind_eq_some_iff.mp H
 obtain ⟨⟨t210, t211⟩, A20, H⟩ := H
 have A2 := Aside0.mk A20
 clear A20
 replace H := Option.bind_eq_some_iff.mp H
 obtain ⟨⟨t212, t213, t214⟩, A30, H⟩ := H
 replace H : (if t214 = true then (if t213.toList = ([] : List UInt8) then (if t211 = true then ((num_Make.f k (wrap64 (-t212)) 1).bind fun bt215 => (some (bt215.1, bt215.2.1, bt215.2.2))) else ((num_Make.f k t212 1).bind fun bt218 => (some (bt218.1, bt218.2.1, bt218.2.2)))) else (if 1 ≤ (t213.size : Int) then ((num_digits.f k (t213.extract 1 t213.size)).bind fun bt221 => (if bt221.2.2 = true then (num_Read.j0 k t211 t212 t213 bt221.1 (bt221.2.1.toList != ([] : List UInt8))) else (num_Read.j0 k t211 t212 t213 bt221.1 true))) else (none))) else (some (0, 0, false))) = some (r1, r2, r3) := H
 have A3 := Aside0.mk A30
 clear A30
 by_cases c4 : t214 = true
 ·subst c4
  have H1 : (if t213.toList = ([] : List UInt8) then (if t211 = true then ((num_Make.f k (wrap64 (-t212)) 1).bind fun bt215 => (some (bt215.1, bt215.2.1, bt215.2.2))) else ((num_Make.f k t212 1).bind fun bt218 => (some (bt218.1, bt218.2.1, bt218.2.2)))) else (if 1 ≤ (t213.size : Int) then ((num_digits.f k (t213.extract 1 t213.size)).bind fun bt221 => (if bt221.2.2 = true then (num_Read.j0 k t211 t212 t213 bt221.1 (bt221.2.1.toList != ([] : List UInt8))) else (num_Read.j0 k t211 t212 t213 bt221.1 true))) else (none))) = some (r1, r2, r3) := by rw [if_pos rfl] at H; exact H
  clear H
  have H := H1
  clear H1
  by_cases c5 : t213.toList = ([] : List UInt8)
  ·rw [if_pos c5] at H
   have c5b0 : (t213.toList == ([] : List UInt8)) = true := beq_iff_eq.mpr c5
   have c5b1 : (t213.toList != ([] : List UInt8)) = false := bne_eq_false_iff_eq.mpr c5
   clear c5
   by_cases c6 : t211 = true
   ·subst c6
    have H1 : ((num_Make.f k (wrap64 (-t212)) 1).bind fun bt215 => (some (bt215.1, bt215.2.1, bt215.2.2))) = some (r1, r2, r3) := by rw [if_pos rfl] at H; exact H
    clear H
    have H := H1
    clear H1
    replace H := Option.bind_eq_some_iff.mp H
    obtain ⟨⟨t215, t216, t217⟩, A70, H⟩ := H
    replace H : (some (t215, t216, t217)) = some (r1, r2, r3) := H
    have A7 := Aside0.mk A70
    clear A70
    simp only [Option.some.injEq, Prod.mk.injEq] at H
    obtain ⟨rfl, rfl, rfl⟩ := H
    go_enter Tryd.func55, Tryd.ntmps55
    go_wp2_with (first | ((with_reducible refine gate_dst (N := 2) rfl ?_); (try (refine gate_guard (by rfl) ?_; dsimp only)); refine bxe 2 #[.int .i64 0, .int .i64 0] 23 rfl rfl gr ?_; clear BX; intro gb209 w8 GE209 BX) | ((with_reducible refine gate_callee (f := 54) rfl ?_); refine goesL_ (some 14) rfl rfl Tryd.func54 kr rfl #[.string a0, .string (⟨#[45]⟩ : ByteArray)] rfl ga ?_; (with_reducible refine (strings_CutPrefix.calls a0 (⟨#[45]⟩ : ByteArray) t210 true _ A2.out).mono ?_); rintro e w' ⟨rfl, ⟨nd, rfl⟩⟩; refine ⟨_, rfl, ?_⟩) | ((with_reducible refine gate_callee (f := 87) rfl ?_); refine goesL_ (some 19) rfl rfl Tryd.func87 kr rfl #[.string t210] rfl ga ?_; (with_reducible refine (num_digits.calls k t210 t212 t213 true _ A3.out).mono ?_); rintro e w' ⟨rfl, ⟨nd, rfl⟩⟩; refine ⟨_, rfl, ?_⟩) | ((with_reducible refine gate_callee (f := 80) rfl ?_); refine goesL_ (some 76) rfl rfl Tryd.func80 kr rfl #[.int .i64 (wrap64 (-t212)), .int .i64 1] rfl ga ?_; (with_reducible refine (num_Make.calls k (wrap64 (-t212)) 1 t215 t216 t217 _ A7.out).mono ?_); rintro e w11 ⟨rfl, hb⟩; refine ⟨_, rfl, ?_⟩; replace BX := bx_call hb; clear hb))
    refine bodyPost_ret (results_ct rfl _ _ gb209 23 #[.int .i64 t215, .int .i64 t216] (0, 0) _ rfl bx_get Tryd.underlying23 rfl kr) rfl ?_
    exact ⟨er2, bx_bl⟩
   ·replace c6 := Bool.eq_false_iff.mpr c6
    subst c6
    have H1 : ((num_Make.f k t212 1).bind fun bt218 => (some (bt218.1, bt218.2.1, bt218.2.2))) = some (r1, r2, r3) := by rw [if_neg (show ¬ (false = true) by decide)] at H; exact H
    clear H
    have H := H1
    clear H1
    replace H := Option.bind_eq_some_iff.mp H
    obtain ⟨⟨t218, t219, t220⟩, A130, H⟩ := H
    replace H : (some (t218, t219, t220)) = some (r1, r2, r3) := H
    have A13 := Aside0.mk A130
    clear A130
    simp only [Option.some.injEq, Prod.mk.injEq] at H
    obtain ⟨rfl, rfl, rfl⟩ := H
    go_enter Tryd.func55, Tryd.ntmps55
    go_wp2_with (first | ((with_reducible refine gate_dst (N := 2) rfl ?_); (try (refine gate_guard (by rfl) ?_; dsimp only)); refine bxe 2 #[.int .i64 0, .int .i64 0] 23 rfl rfl gr ?_; clear BX; intro gb209 w14 GE209 BX) | ((with_reducible refine gate_callee (f := 54) rfl ?_); refine goesL_ (some 14) rfl rfl Tryd.func54 kr rfl #[.string a0, .string (⟨#[45]⟩ : ByteArray)] rfl ga ?_; (with_reducible refine (strings_CutPrefix.calls a0 (⟨#[45]⟩ : ByteArray) t210 false _ A2.out).mono ?_); rintro e w' ⟨rfl, ⟨nd, rfl⟩⟩; refine ⟨_, rfl, ?_⟩) | ((with_reducible refine gate_callee (f := 87) rfl ?_); refine goesL_ (some 19) rfl rfl Tryd.func87 kr rfl #[.string t210] rfl ga ?_; (with_reducible refine (num_digits.calls k t210 t212 t213 true _ A3.out).mono ?_); rintro e w' ⟨rfl, ⟨nd, rfl⟩⟩; refine ⟨_, rfl, ?_⟩) | ((with_reducible refine gate_callee (f := 80) rfl ?_); refine goesL_ (some 76) rfl rfl Tryd.func80 kr rfl #[.int .i64 t212, .int .i64 1] rfl ga ?_; (with_reducible refine (num_Make.calls k t212 1 t218 t219 t220 _ A13.out).mono ?_); rintro e w17 ⟨rfl, hb⟩; refine ⟨_, rfl, ?_⟩; replace BX := bx_call hb; clear hb))
    refine bodyPost_ret (results_ct rfl _ _ gb209 23 #[.int .i64 t218, .int .i64 t219] (0, 0) _ rfl bx_get Tryd.underlying23 rfl kr) rfl ?_
    exact ⟨er2, bx_bl⟩
  ·rw [if_neg c5] at H
   have c5b0 : (t213.toList == ([] : List UInt8)) = false := beq_eq_false_iff_ne.mpr c5
   have c5b1 : (t213.toList != ([] : List UInt8)) = true := bne_iff_ne.mpr c5
   by_cases c19 : 1 ≤ (t213.size : Int)
   ·rw [if_pos c19] at H
    have c19b0 := eq_true c19
    have c19b1 : decide (1 ≤ (t213.size : Int)) = true := decide_eq_true c19
    clear c19
    replace H := Option.bind_eq_some_iff.mp H
    obtain ⟨⟨t221, t222, t223⟩, A200, H⟩ := H
    replace H : (if t223 = true then (num_Read.j0 k t211 t212 t213 t221 (t222.toList != ([] : List UInt8))) else (num_Read.j0 k t211 t212 t213 t221 true)) = some (r1, r2, r3) := H
    have A20 := Aside0.mk A200
    clear A200
    have HC21 := Aside0.mk H
    clear H
    go_enter Tryd.func55, Tryd.ntmps55
    go_upto_region 10 with (first | ((with_reducible refine gate_dst (N := 2) rfl ?_); (try (refine gate_guard (by rfl) ?_; dsimp only)); refine bxe 2 #[.int .i64 0, .int .i64 0] 23 rfl rfl gr ?_; clear BX; intro gb209 w22 GE209 BX) | ((with_reducible refine gate_callee (f := 54) rfl ?_); refine goesL_ (some 14) rfl rfl Tryd.func54 kr rfl #[.string a0, .string (⟨#[45]⟩ : ByteArray)] rfl ga ?_; (with_reducible refine (strings_CutPrefix.calls a0 (⟨#[45]⟩ : ByteArray) t210 t211 _ A2.out).mono ?_); rintro e w' ⟨rfl, ⟨nd, rfl⟩⟩; refine ⟨_, rfl, ?_⟩) | ((with_reducible refine gate_callee (f := 87) rfl ?_); refine goesL_ (some 19) rfl rfl Tryd.func87 kr rfl #[.string t210] rfl ga ?_; (with_reducible refine (num_digits.calls k t210 t212 t213 true _ A3.out).mono ?_); rintro e w' ⟨rfl, ⟨nd, rfl⟩⟩; refine ⟨_, rfl, ?_⟩) | ((with_reducible refine gate_callee (f := 87) rfl ?_); refine goesL_ (some 31) rfl rfl Tryd.func87 kr rfl #[.string (t213.extract 1 t213.size)] rfl ga ?_; (with_reducible refine (num_digits.calls k (t213.extract 1 t213.size) t221 t222 t223 _ A20.out).mono ?_); rintro e w' ⟨rfl, ⟨nd, rfl⟩⟩; refine ⟨_, rfl, ?_⟩))
    (try simp only [Act.put, List.setIfInBounds_toArray, List.set_cons_zero, List.set_cons_succ])
    go_cut [44] (fun v44 wc => ∃ (kq : Nat) (x44_20 : Bool), v44 = .bool x44_20 ∧ Aside0 (num_Read.j0 kq t211 t212 t213 t221 x44_20 = some (r1, r2, r3)) ∧ Aside0 (kq ≤ k) ∧ Bx w wc [(gb209, 23, #[.int .i64 0, .int .i64 0])])
    case first =>
     have H := HC21.out
     clear HC21
     by_cases c23 : t223 = true
     ·subst c23
      have H1 : (num_Read.j0 k t211 t212 t213 t221 (t222.toList != ([] : List UInt8))) = some (r1, r2, r3) := by rw [if_pos rfl] at H; exact H
      clear H
      have H := H1
      clear H1
      have H' := Aside0.mk H
      clear H
      go_wp2
      go_meet
      case rel => exact ⟨_, ((t222.toList != ([] : List UInt8))), er, H', ⟨by first | omega | exact Nat.le_refl _⟩, bxs⟩
     ·replace c23 := Bool.eq_false_iff.mpr c23
      subst c23
      have H1 : (num_Read.j0 k t211 t212 t213 t221 true) = some (r1, r2, r3) := by rw [if_neg (show ¬ (false = true) by decide)] at H; exact H
      clear H
      have H := H1
      clear H1
      have H' := Aside0.mk H
      clear H
      go_wp2
      go_meet
      case rel => exact ⟨_, (true), er, H', ⟨by first | omega | exact Nat.le_refl _⟩, bxs⟩
    case rest =>
     clear HC21
     try clear c1
     try clear c2
     try clear p2
     try clear c4
     try clear c5
     try clear c5b0
     try clear c5b1
     try clear c6
     try clear p6
     try clear c8
     try clear c19
     try clear c19b0
     try clear c19b1
     try clear c23
     obtain ⟨kq, x44_20, rfl, HA, HJ20, BX⟩ := hcut
     cases kq with
     | zero => exact absurd HA.out (by simp [num_Read.j0])
     | succ kj20 =>
      have H := HA.out
      clear HA
      simp only [num_Read.j0] at H
      by_cases c24 : x44_20 = true
      ·subst c24
       have H1 : (some (0, 0, false)) = some (r1, r2, r3) := by rw [if_pos rfl] at H; exact H
       clear H
       have H := H1
       clear H1
       simp only [Option.some.injEq, Prod.mk.injEq] at H
       obtain ⟨rfl, rfl, rfl⟩ := H
       go_wp2
       refine bodyPost_ret (results_ct rfl _ _ gb209 23 #[.int .i64 0, .int .i64 0] (0, 0) _ rfl bx_get Tryd.underlying23 rfl kr) rfl ?_
       exact ⟨er2, bx_bl⟩
      ·replace c24 := Bool.eq_false_iff.mpr c24
       subst c24
       have H1 : (if 0 < (t213.size : Int) then (if (bt t213 0) = 47 then (if t211 = true then ((num_Make.f kj20 (wrap64 (-t212)) t221).bind fun bt224 => (some (bt224.1, bt224.2.1, bt224.2.2))) else ((num_Make.f kj20 t212 t221).bind fun bt227 => (some (bt227.1, bt227.2.1, bt227.2.2)))) else (if (bt t213 0) = 46 then (if (t213.size : Int) > 7 then (num_Read.j1 kj20 t211 t212 t213 t221 true) else (num_Read.j1 kj20 t211 t212 t213 t221 (decide (t212 > 1000000000000)))) else (num_Read.j1 kj20 t211 t212 t213 t221 true))) else (none)) = some (r1, r2, r3) := by rw [if_neg (show ¬ (false = true) by decide)] at H; exact H
       clear H
       have H := H1
       clear H1
       by_cases c26 : 0 < (t213.size : Int)
       ·rw [if_pos c26] at H
        have c26b0 : decide (0 < (t213.size : Int)) = true := decide_eq_true c26
        have c26b1 : decide (0 < t213.size) = true := decide_eq_true (by omega)
        clear c26
        by_cases c28 : (bt t213 0) = 47
        ·rw [if_pos c28] at H
         have c28b0 : ((bt t213 0) == 47) = true := beq_iff_eq.mpr c28
         have c28b1 : ((bt t213 0) != 47) = false := bne_eq_false_iff_eq.mpr c28
         clear c28
         by_cases c29 : t211 = true
         ·subst c29
          have H1 : ((num_Make.f kj20 (wrap64 (-t212)) t221).bind fun bt224 => (some (bt224.1, bt224.2.1, bt224.2.2))) = some (r1, r2, r3) := by rw [if_pos rfl] at H; exact H
          clear H
          have H := H1
          clear H1
          replace H := Option.bind_eq_some_iff.mp H
          obtain ⟨⟨t224, t225, t226⟩, A300, H⟩ := H
          replace H : (some (t224, t225, t226)) = some (r1, r2, r3) := H
          have A30 := Aside0.mk A300
          clear A300
          simp only [Option.some.injEq, Prod.mk.injEq] at H
          obtain ⟨rfl, rfl, rfl⟩ := H
          have p27 : 0 ≤ (0 : Int) := (by omega)
          have q27 : 0 < t213.size := (by have : (0 : Int) < (t213.size : Int) := of_decide_eq_true (by first | (with_reducible assumption) | assumption); omega)
          have hx27 : ∀ h : 0 < t213.size, ((t213[0]'h).toNat : Int) = bt t213 0 := bt_at t213 0
          clear p27
          have qi27 : (0 < (t213.size : Int)) = True := eq_true (of_decide_eq_true (by first | (with_reducible assumption) | assumption))
          replace q27 := eq_true q27
          go_wp2_with (first | ((with_reducible refine gate_callee (f := 80) rfl ?_); refine goesL_ (some 76) rfl rfl Tryd.func80 kr rfl #[.int .i64 (wrap64 (-t212)), .int .i64 t221] rfl ga ?_; (with_reducible refine (num_Make.calls kj20 (wrap64 (-t212)) t221 t224 t225 t226 _ A30.out).mono ?_); rintro e w31 ⟨rfl, hb⟩; refine ⟨_, rfl, ?_⟩; replace BX := bx_call hb; clear hb))
          refine bodyPost_ret (results_ct rfl _ _ gb209 23 #[.int .i64 t224, .int .i64 t225] (0, 0) _ rfl bx_get Tryd.underlying23 rfl kr) rfl ?_
          exact ⟨er2, bx_bl⟩
         ·replace c29 := Bool.eq_false_iff.mpr c29
          subst c29
          have H1 : ((num_Make.f kj20 t212 t221).bind fun bt227 => (some (bt227.1, bt227.2.1, bt227.2.2))) = some (r1, r2, r3) := by rw [if_neg (show ¬ (false = true) by decide)] at H; exact H
          clear H
          have H := H1
          clear H1
          replace H := Option.bind_eq_some_iff.mp H
          obtain ⟨⟨t227, t228, t229⟩, A330, H⟩ := H
          replace H : (some (t227, t228, t229)) = some (r1, r2, r3) := H
          have A33 := Aside0.mk A330
          clear A330
          simp only [Option.some.injEq, Prod.mk.injEq] at H
          obtain ⟨rfl, rfl, rfl⟩ := H
          have p27 : 0 ≤ (0 : Int) := (by omega)
          have q27 : 0 < t213.size := (by have : (0 : Int) < (t213.size : Int) := of_decide_eq_true (by first | (with_reducible assumption) | assumption); omega)
          have hx27 : ∀ h : 0 < t213.size, ((t213[0]'h).toNat : Int) = bt t213 0 := bt_at t213 0
          clear p27
          have qi27 : (0 < (t213.size : Int)) = True := eq_true (of_decide_eq_true (by first | (with_reducible assumption) | assumption))
          replace q27 := eq_true q27
          go_wp2_with (first | ((with_reducible refine gate_callee (f := 80) rfl ?_); refine goesL_ (some 76) rfl rfl Tryd.func80 kr rfl #[.int .i64 t212, .int .i64 t221] rfl ga ?_; (with_reducible refine (num_Make.calls kj20 t212 t221 t227 t228 t229 _ A33.out).mono ?_); rintro e w34 ⟨rfl, hb⟩; refine ⟨_, rfl, ?_⟩; replace BX := bx_call hb; clear hb))
          refine bodyPost_ret (results_ct rfl _ _ gb209 23 #[.int .i64 t227, .int .i64 t228] (0, 0) _ rfl bx_get Tryd.underlying23 rfl kr) rfl ?_
          exact ⟨er2, bx_bl⟩
        ·rw [if_neg c28] at H
         have c28b0 : ((bt t213 0) == 47) = false := beq_eq_false_iff_ne.mpr c28
         have c28b1 : ((bt t213 0) != 47) = true := bne_iff_ne.mpr c28
         have HC36 := Aside0.mk H
         clear H
         have p27 : 0 ≤ (0 : Int) := (by omega)
         have q27 : 0 < t213.size := (by have : (0 : Int) < (t213.size : Int) := of_decide_eq_true (by first | (with_reducible assumption) | assumption); omega)
         have hx27 : ∀ h : 0 < t213.size, ((t213[0]'h).toNat : Int) = bt t213 0 := bt_at t213 0
         clear p27
         have qi27 : (0 < (t213.size : Int)) = True := eq_true (of_decide_eq_true (by first | (with_reducible assumption) | assumption))
         replace q27 := eq_true q27
         go_upto_region 14 with (fail)
         go_cut [57] (fun v57 wc => ∃ (kq : Nat) (x57_35 : Bool), v57 = .bool x57_35 ∧ Aside0 (num_Read.j1 kq t211 t212 t213 t221 x57_35 = some (r1, r2, r3)) ∧ Aside0 (kq ≤ kj20) ∧ Bx w wc [(gb209, 23, #[.int .i64 0, .int .i64 0])])
         case first =>
          have H := HC36.out
          clear HC36
          by_cases c38 : (bt t213 0) = 46
          ·rw [if_pos c38] at H
           have c38b0 : ((bt t213 0) == 46) = true := beq_iff_eq.mpr c38
           have c38b1 : ((bt t213 0) != 46) = false := bne_eq_false_iff_eq.mpr c38
           clear c38
           (first | rw [c38b0] | (simp only [i64_w, i32_w]; rw [c38b0]) | skip)
           by_cases c39 : (t213.size : Int) > 7
           ·rw [if_pos c39] at H
            have c39b0 : decide (7 < (t213.size : Int)) = true := decide_eq_true c39
            have c39b1 : decide (7 < t213.size) = true := decide_eq_true (by omega)
            clear c39
            have H' := Aside0.mk H
            clear H
            have p37 : 0 ≤ (0 : Int) := (by omega)
            have q37 : 0 < t213.size := (by have : (0 : Int) < (t213.size : Int) := of_decide_eq_true (by first | (with_reducible assumption) | assumption); omega)
            have hx37 : ∀ h : 0 < t213.size, ((t213[0]'h).toNat : Int) = bt t213 0 := bt_at t213 0
            clear p37
            have qi37 : (0 < (t213.size : Int)) = True := eq_true (of_decide_eq_true (by first | (with_reducible assumption) | assumption))
            replace q37 := eq_true q37
            go_wp2
            go_meet
            case rel => exact ⟨_, (true), er, H', ⟨by have := HJ20.out; first | omega | exact Nat.le_refl _⟩, bxs⟩
           ·rw [if_neg c39] at H
            have c39b0 : decide (7 < (t213.size : Int)) = false := decide_eq_false c39
            have c39b1 : decide (7 < t213.size) = false := decide_eq_false (by omega)
            clear c39
            have H' := Aside0.mk H
            clear H
            have p37 : 0 ≤ (0 : Int) := (by omega)
            have q37 : 0 < t213.size := (by have : (0 : Int) < (t213.size : Int) := of_decide_eq_true (by first | (with_reducible assumption) | assumption); omega)
            have hx37 : ∀ h : 0 < t213.size, ((t213[0]'h).toNat : Int) = bt t213 0 := bt_at t213 0
            clear p37
            have qi37 : (0 < (t213.size : Int)) = True := eq_true (of_decide_eq_true (by first | (with_reducible assumption) | assumption))
            replace q37 := eq_true q37
            go_wp2
            go_meet
            case rel => exact ⟨_, (decide (t212 > 1000000000000)), er, H', ⟨by have := HJ20.out; first | omega | exact Nat.le_refl _⟩, bxs⟩
          ·rw [if_neg c38] at H
           have c38b0 : ((bt t213 0) == 46) = false := beq_eq_false_iff_ne.mpr c38
           have c38b1 : ((bt t213 0) != 46) = true := bne_iff_ne.mpr c38
           (first | rw [c38b0] | (simp only [i64_w, i32_w]; rw [c38b0]) | skip)
           have H' := Aside0.mk H
           clear H
           have p37 : 0 ≤ (0 : Int) := (by omega)
           have q37 : 0 < t213.size := (by have : (0 : Int) < (t213.size : Int) := of_decide_eq_true (by first | (with_reducible assumption) | assumption); omega)
           have hx37 : ∀ h : 0 < t213.size, ((t213[0]'h).toNat : Int) = bt t213 0 := bt_at t213 0
           clear p37
           have qi37 : (0 < (t213.size : Int)) = True := eq_true (of_decide_eq_true (by first | (with_reducible assumption) | assumption))
           replace q37 := eq_true q37
           go_wp2
           go_meet
           case rel => exact ⟨_, (true), er, H', ⟨by have := HJ20.out; first | omega | exact Nat.le_refl _⟩, bxs⟩
         case rest =>
          clear HC36
          try clear c1
          try clear c2
          try clear p2
          try clear q2
          try clear hx2
          try clear qi2
          try clear c3
          try clear p3
          try clear q3
          try clear hx3
          try clear qi3
          try clear c4
          try clear c5
          try clear c5b0
          try clear c5b1
          try clear c6
          try clear p6
          try clear c8
          try clear c19
          try clear c19b0
          try clear c19b1
          try clear c23
          try clear c24
          try clear c26
          try clear c26b0
          try clear c26b1
          try clear p27
          try clear q27
          try clear hx27
          try clear qi27
          try clear c28
          try clear c28b0
          try clear c28b1
          try clear c29
          try clear p37
          try clear q37
          try clear hx37
          try clear qi37
          try clear c38
          try clear c38b0
          try clear c38b1
          try clear c39
          try clear c39b0
          try clear c39b1
          try clear p2
          try clear p27
          try clear p37
          try clear p6
          try clear q27
          try clear q37
          obtain ⟨kq, x57_35, rfl, HA, HJ35, BX⟩ := hcut
          cases kq with
          | zero => exact absurd HA.out (by simp [num_Read.j1])
          | succ kj35 =>
           have H := HA.out
           clear HA
           simp only [num_Read.j1] at H
           by_cases c40 : x57_35 = true
           ·subst c40
            have H1 : (some (0, 0, false)) = some (r1, r2, r3) := by rw [if_pos rfl] at H; exact H
            clear H
            have H := H1
            clear H1
            simp only [Option.some.injEq, Prod.mk.injEq] at H
            obtain ⟨rfl, rfl, rfl⟩ := H
            go_wp2
            refine bodyPost_ret (results_ct rfl _ _ gb209 23 #[.int .i64 0, .int .i64 0] (0, 0) _ rfl bx_get Tryd.underlying23 rfl kr) rfl ?_
            exact ⟨er2, bx_bl⟩
           ·replace c40 := Bool.eq_false_iff.mpr c40
            subst c40
            have H1 : ((num_power.f kj35 (wrap64 ((t213.size : Int) - 1))).bind fun t230 => (if t211 = true then ((num_Make.f kj35 (wrap64 (-(wrap64 ((wrap64 (t212 * t230)) + t221)))) t230).bind fun bt231 => (some (bt231.1, bt231.2.1, bt231.2.2))) else ((num_Make.f kj35 (wrap64 ((wrap64 (t212 * t230)) + t221)) t230).bind fun bt234 => (some (bt234.1, bt234.2.1, bt234.2.2))))) = some (r1, r2, r3) := by rw [if_neg (show ¬ (false = true) by decide)] at H; exact H
            clear H
            have H := H1
            clear H1
            replace H := Option.bind_eq_some_iff.mp H
            obtain ⟨t230, A420, H⟩ := H
            replace H : (if t211 = true then ((num_Make.f kj35 (wrap64 (-(wrap64 ((wrap64 (t212 * t230)) + t221)))) t230).bind fun bt231 => (some (bt231.1, bt231.2.1, bt231.2.2))) else ((num_Make.f kj35 (wrap64 ((wrap64 (t212 * t230)) + t221)) t230).bind fun bt234 => (some (bt234.1, bt234.2.1, bt234.2.2)))) = some (r1, r2, r3) := H
            have A42 := Aside0.mk A420
            clear A420
            by_cases c43 : t211 = true
            ·subst c43
             have H1 : ((num_Make.f kj35 (wrap64 (-(wrap64 ((wrap64 (t212 * t230)) + t221)))) t230).bind fun bt231 => (some (bt231.1, bt231.2.1, bt231.2.2))) = some (r1, r2, r3) := by rw [if_pos rfl] at H; exact H
             clear H
             have H := H1
             clear H1
             replace H := Option.bind_eq_some_iff.mp H
             obtain ⟨⟨t231, t232, t233⟩, A440, H⟩ := H
             replace H : (some (t231, t232, t233)) = some (r1, r2, r3) := H
             have A44 := Aside0.mk A440
             clear A440
             simp only [Option.some.injEq, Prod.mk.injEq] at H
             obtain ⟨rfl, rfl, rfl⟩ := H
             go_wp2_with (first | ((with_reducible refine gate_callee (f := 88) rfl ?_); refine goesL_ (some 38) rfl rfl Tryd.func88 kr rfl #[.int .i64 (wrap64 ((t213.size : Int) - 1))] rfl ga ?_; (with_reducible refine (num_power.calls kj35 (wrap64 ((t213.size : Int) - 1)) t230 _ A42.out).mono ?_); rintro e w' ⟨rfl, ⟨nd, rfl⟩⟩; refine ⟨_, rfl, ?_⟩) | ((with_reducible refine gate_callee (f := 80) rfl ?_); refine goesL_ (some 76) rfl rfl Tryd.func80 kr rfl #[.int .i64 (wrap64 (-(wrap64 ((wrap64 (t212 * t230)) + t221)))), .int .i64 t230] rfl ga ?_; (with_reducible refine (num_Make.calls kj35 (wrap64 (-(wrap64 ((wrap64 (t212 * t230)) + t221)))) t230 t231 t232 t233 _ A44.out).mono ?_); rintro e w46 ⟨rfl, hb⟩; refine ⟨_, rfl, ?_⟩; replace BX := bx_call hb; clear hb))
             refine bodyPost_ret (results_ct rfl _ _ gb209 23 #[.int .i64 t231, .int .i64 t232] (0, 0) _ rfl bx_get Tryd.underlying23 rfl kr) rfl ?_
             exact ⟨er2, bx_bl⟩
            ·replace c43 := Bool.eq_false_iff.mpr c43
             subst c43
             have H1 : ((num_Make.f kj35 (wrap64 ((wrap64 (t212 * t230)) + t221)) t230).bind fun bt234 => (some (bt234.1, bt234.2.1, bt234.2.2))) = some (r1, r2, r3) := by rw [if_neg (show ¬ (false = true) by decide)] at H; exact H
             clear H
             have H := H1
             clear H1
             replace H := Option.bind_eq_some_iff.mp H
             obtain ⟨⟨t234, t235, t236⟩, A480, H⟩ := H
             replace H : (some (t234, t235, t236)) = some (r1, r2, r3) := H
             have A48 := Aside0.mk A480
             clear A480
             simp only [Option.some.injEq, Prod.mk.injEq] at H
             obtain ⟨rfl, rfl, rfl⟩ := H
             go_wp2_with (first | ((with_reducible refine gate_callee (f := 88) rfl ?_); refine goesL_ (some 38) rfl rfl Tryd.func88 kr rfl #[.int .i64 (wrap64 ((t213.size : Int) - 1))] rfl ga ?_; (with_reducible refine (num_power.calls kj35 (wrap64 ((t213.size : Int) - 1)) t230 _ A42.out).mono ?_); rintro e w' ⟨rfl, ⟨nd, rfl⟩⟩; refine ⟨_, rfl, ?_⟩) | ((with_reducible refine gate_callee (f := 80) rfl ?_); refine goesL_ (some 76) rfl rfl Tryd.func80 kr rfl #[.int .i64 (wrap64 ((wrap64 (t212 * t230)) + t221)), .int .i64 t230] rfl ga ?_; (with_reducible refine (num_Make.calls kj35 (wrap64 ((wrap64 (t212 * t230)) + t221)) t230 t234 t235 t236 _ A48.out).mono ?_); rintro e w50 ⟨rfl, hb⟩; refine ⟨_, rfl, ?_⟩; replace BX := bx_call hb; clear hb))
             refine bodyPost_ret (results_ct rfl _ _ gb209 23 #[.int .i64 t234, .int .i64 t235] (0, 0) _ rfl bx_get Tryd.underlying23 rfl kr) rfl ?_
             exact ⟨er2, bx_bl⟩
       ·rw [if_neg c26] at H
        exact absurd H (by simp)
   ·rw [if_neg c19] at H
    exact absurd H (by simp)
 ·replace c4 := Bool.eq_false_iff.mpr c4
  subst c4
  have H1 : (some (0, 0, false)) = some (r1, r2, r3) := by rw [if_neg (show ¬ (false = true) by decide)] at H; exact H
  clear H
  have H := H1
  clear H1
  simp only [Option.some.injEq, Prod.mk.injEq] at H
  obtain ⟨rfl, rfl, rfl⟩ := H
  go_enter Tryd.func55, Tryd.ntmps55
  go_wp2_with (first | ((with_reducible refine gate_dst (N := 2) rfl ?_); (try (refine gate_guard (by rfl) ?_; dsimp only)); refine bxe 2 #[.int .i64 0, .int .i64 0] 23 rfl rfl gr ?_; clear BX; intro gb209 w52 GE209 BX) | ((with_reducible refine gate_callee (f := 54) rfl ?_); refine goesL_ (some 14) rfl rfl Tryd.func54 kr rfl #[.string a0, .string (⟨#[45]⟩ : ByteArray)] rfl ga ?_; (with_reducible refine (strings_CutPrefix.calls a0 (⟨#[45]⟩ : ByteArray) t210 t211 _ A2.out).mono ?_); rintro e w' ⟨rfl, ⟨nd, rfl⟩⟩; refine ⟨_, rfl, ?_⟩) | ((with_reducible refine gate_callee (f := 87) rfl ?_); refine goesL_ (some 19) rfl rfl Tryd.func87 kr rfl #[.string t210] rfl ga ?_; (with_reducible refine (num_digits.calls k t210 t212 t213 false _ A3.out).mono ?_); rintro e w' ⟨rfl, ⟨nd, rfl⟩⟩; refine ⟨_, rfl, ?_⟩))
  refine bodyPost_ret (results_ct rfl _ _ gb209 23 #[.int .i64 0, .int .i64 0] (0, 0) _ rfl bx_get Tryd.underlying23 rfl kr) rfl ?_
  exact ⟨er2, bx_bl⟩
end
section
/-! ### num_Text: function 73 -/
def num_Text.j0 : Nat → Int → ByteArray → Int → Int → Option (ByteArray)
 | 0, _, _, _, _ => none
 | k + 1, x3, x4, x293000, x293001 => if x293001 = 0 then (none) else (if ((1000000 : Int) % x293001) = 0 then ((strconv_Itoa.f (wrap64 (Int.tdiv x3 x293001))).bind fun t298 => (if x4.size + t298.size ≤ 9223372036854775807 then (if x293001 = 1 then (some (x4 ++ t298)) else ((strconv_Itoa.f (wrap64 (1000000 + (wrap64 ((Int.tmod x3 x293001) * (wrap64 (Int.tdiv (1000000 : Int) x293001))))))).bind fun t299 => (if (x4 ++ t298).size + 1 ≤ 9223372036854775807 then (if 1 ≤ (t299.size : Int) then ((strings_TrimRight.f (t299.extract 1 t299.size) (⟨#[48]⟩ : ByteArray)).bind fun t300 => (if ((x4 ++ t298) ++ (⟨#[46]⟩ : ByteArray)).size + t300.size ≤ 9223372036854775807 then (some (((x4 ++ t298) ++ (⟨#[46]⟩ : ByteArray)) ++ t300)) else (none))) else (none)) else (none)))) else (none))) else ((strconv_Itoa.f x3).bind fun t296 => (if x4.size + t296.size ≤ 9223372036854775807 then (if (x4 ++ t296).size + 1 ≤ 9223372036854775807 then ((strconv_Itoa.f x293001).bind fun t297 => (if ((x4 ++ t296) ++ (⟨#[47]⟩ : ByteArray)).size + t297.size ≤ 9223372036854775807 then (some (((x4 ++ t296) ++ (⟨#[47]⟩ : ByteArray)) ++ t297)) else (none))) else (none)) else (none))))
def num_Text.f (k : Nat) (a0_0 : Int) (a0_1 : Int) : Option (ByteArray) := (num_taken.f k a0_0 a0_1).bind fun bt293 => ((num_size.f bt293.1).bind fun t295 => (if bt293.1 < 0 then (num_Text.j0 k (wrap64 (t295)) (⟨#[45]⟩ : ByteArray) bt293.1 bt293.2) else (num_Text.j0 k (wrap64 (t295)) (⟨#[]⟩ : ByteArray) bt293.1 bt293.2)))
theorem num_Text.mono_l : ∀ k, (∀ y0 y1 y2 y3, LeO (num_Text.j0 k y0 y1 y2 y3) (num_Text.j0 (k + 1) y0 y1 y2 y3))
 | 0 => fun _ _ _ _ r h => by simp [num_Text.j0] at h
 | k + 1 => by
  have ih0 := num_Text.mono_l k
  ·intro y0 y1 y2 y3
   unfold num_Text.j0
   repeat' first
   | (with_reducible exact ih0 _ _ _ _)
   | (with_reducible exact num_taken.mono _ _ _)
   | (with_reducible exact LeO.refl _)
   | (with_reducible exact LeO.none _)
   | (with_reducible refine LeO.ite ?_ ?_)
   | (with_reducible refine LeO.bind ?_ (fun _ => ?_))
   | exact ih0 _ _ _ _
   | exact num_taken.mono _ _ _
   | exact LeO.none _
   | refine LeO.ite ?_ ?_
   | refine LeO.bind ?_ (fun _ => ?_)
theorem num_Text.mono : ∀ a0 a1 k, LeO (num_Text.f k a0 a1) (num_Text.f (k + 1) a0 a1) := by
 intro a0 a1 k
 have ih0 := num_Text.mono_l k
 unfold num_Text.f
 repeat' first
   | (with_reducible exact ih0 _ _ _ _)
   | (with_reducible exact num_taken.mono _ _ _)
   | (with_reducible exact LeO.refl _)
   | (with_reducible exact LeO.none _)
   | (with_reducible refine LeO.ite ?_ ?_)
   | (with_reducible refine LeO.bind ?_ (fun _ => ?_))
   | exact ih0 _ _ _ _
   | exact num_taken.mono _ _ _
   | exact LeO.none _
   | refine LeO.ite ?_ ?_
   | refine LeO.bind ?_ (fun _ => ?_)
def num_Text.T6 : Bool × List (List Nat × List Nat) := (true, [([], []), ([], []), ([1], [1]), ([0, 2], [0, 2]), ([3], [3]), ([], []), ([5], [5]), ([6, 2], [6]), ([4, 7], [4, 7]), ([8, 7, 0, 1, 2, 3, 4, 5, 6, 7, 8], [8])])
def num_Text.B6 : List Nat := [0, 0, 2, 7, 15, 0, 32, 102, 255, 511]
theorem num_Text.tab6 : rtab .any (opsOf Tryd.f73 6) = num_Text.T6 := by kernel_rfl
theorem num_Text.bits6 : waitsOk num_Text.T6.2 num_Text.B6 = true := by kernel_rfl
def num_Text.T10 : Bool × List (List Nat × List Nat) := (true, [([], []), ([], []), ([1], [1]), ([0, 2], [0, 2]), ([], []), ([4], [4]), ([5], [5]), ([3, 6], [3, 6]), ([7], [7]), ([8], [8]), ([9, 9, 0, 1, 2, 3, 4, 5, 6, 7, 8, 9], [9])])
def num_Text.B10 : List Nat := [0, 0, 2, 7, 0, 16, 48, 127, 255, 511, 1023]
theorem num_Text.tab10 : rtab .any (opsOf Tryd.f73 10) = num_Text.T10 := by kernel_rfl
theorem num_Text.bits10 : waitsOk num_Text.T10.2 num_Text.B10 = true := by kernel_rfl
set_option maxHeartbeats 8000000 in
set_option maxRecDepth 100000 in
theorem num_Text.calls (k : Nat) (a0_0 : Int) (a0_1 : Int) (r : ByteArray) (w : World) (HT0 : TabAt w) (h : num_Text.f k a0_0 a0_1 = some r) :
  Calls Tryd.prog 73 #[.agg #[.int .i64 a0_0, .int .i64 a0_1]] w fun e w' => e = .returned (.string r) ∧ Below w.heap.size w w' := by
 have hu23 := Tryd.underlying23
 have HT := Aside0.mk HT0
 clear HT0
 have BX := Bx.start w
 have H : ((num_taken.f k a0_0 a0_1).bind fun bt293 => ((num_size.f bt293.1).bind fun t295 => (if bt293.1 < 0 then (num_Text.j0 k (wrap64 (t295)) (⟨#[45]⟩ : ByteArray) bt293.1 bt293.2) else (num_Text.j0 k (wrap64 (t295)) (⟨#[]⟩ : ByteArray) bt293.1 bt293.2)))) = some r := h
 clear h
 replace H := Option.bind_eq_some_iff.mp H
 obtain ⟨⟨t293, t294⟩, A20, H⟩ := H
 have A2 := Aside0.mk A20
 clear A20
 replace H := Option.bind_eq_some_iff.mp H
 obtain ⟨t295, A30, H⟩ := H
 replace H : (if t293 < 0 then (num_Text.j0 k (wrap64 (t295)) (⟨#[45]⟩ : ByteArray) t293 t294) else (num_Text.j0 k (wrap64 (t295)) (⟨#[]⟩ : ByteArray) t293 t294)) = some r := H
 have A3 := Aside0.mk A30
 clear A30
 have HC4 := Aside0.mk H
 clear H
 go_enter Tryd.func73, Tryd.ntmps73
 go_upto_if 14 with (first | ((with_reducible refine gate_dst (N := 1) rfl ?_); refine bxe 1 #[.int .i64 a0_0, .int .i64 a0_1] 23 rfl rfl gr ?_; clear BX; intro gb292 w5 GE292 BX) | ((with_reducible refine gate_callee (f := 79) rfl ?_); refine goesL_ (some 7) rfl rfl Tryd.func79 kr rfl #[.agg #[.int .i64 a0_0, .int .i64 a0_1]] rfl ga ?_; (with_reducible refine (num_taken.calls k a0_0 a0_1 t293 t294 _ A2.out).mono ?_); rintro e w7 ⟨rfl, hb⟩; refine ⟨_, rfl, ?_⟩; replace BX := bx_call hb; clear hb) | ((with_reducible refine gate_callee (f := 83) rfl ?_); refine goesL_ (some 10) rfl rfl Tryd.func83 kr rfl #[.int .i64 t293] rfl ga ?_; (with_reducible refine (num_size.calls t293 t295 _ A3.out).mono ?_); rintro e w' ⟨rfl, ⟨nd, rfl⟩⟩; refine ⟨_, rfl, ?_⟩))
 (try simp only [Act.put, List.setIfInBounds_toArray, List.set_cons_zero, List.set_cons_succ])
 go_cut [4] (fun v4 wc => ∃ (kq : Nat) (x4_3 : ByteArray), v4 = .string x4_3 ∧ Aside0 (num_Text.j0 kq (wrap64 (t295)) x4_3 t293 t294 = some r) ∧ Aside0 (kq ≤ k) ∧ Bx w wc [(gb292, 23, #[.int .i64 t293, .int .i64 t294])])
 case first =>
  have H := HC4.out
  clear HC4
  by_cases c9 : t293 < 0
  ·rw [if_pos c9] at H
   have c9b0 : decide (t293 < 0) = true := decide_eq_true c9
   clear c9
   (first | rw [c9b0] | (simp only [i64_w, i32_w]; rw [c9b0]) | skip)
   have H' := Aside0.mk H
   clear H
   go_wp2
   go_meet
   case rel => exact ⟨_, ((⟨#[45]⟩ : ByteArray)), er, H', ⟨by first | omega | exact Nat.le_refl _⟩, bxs⟩
  ·rw [if_neg c9] at H
   have c9b0 : decide (t293 < 0) = false := decide_eq_false c9
   clear c9
   (first | rw [c9b0] | (simp only [i64_w, i32_w]; rw [c9b0]) | skip)
   have H' := Aside0.mk H
   clear H
   go_wp2
   go_meet
   case rel => exact ⟨_, ((⟨#[]⟩ : ByteArray)), er, H', ⟨by first | omega | exact Nat.le_refl _⟩, bxs⟩
 case rest =>
  clear HC4
  try clear p2
  try clear p6
  try clear c7
  try clear c8
  try clear c9
  try clear c9b0
  obtain ⟨kq, x4_3, rfl, HA, HJ3, BX⟩ := hcut
  cases kq with
  | zero => exact absurd HA.out (by simp [num_Text.j0])
  | succ kj3 =>
   have H := HA.out
   clear HA
   simp only [num_Text.j0] at H
   by_cases c10 : t294 = 0
   ·rw [if_pos c10] at H
    exact absurd H (by simp)
   ·rw [if_neg c10] at H
    have c10b0 : (t294 == 0) = false := beq_eq_false_iff_ne.mpr c10
    have c10b1 : (t294 != 0) = true := bne_iff_ne.mpr c10
    by_cases c11 : ((1000000 : Int) % t294) = 0
    ·rw [if_pos c11] at H
     have c11b0 : (((1000000 : Int) % t294) == 0) = true := beq_iff_eq.mpr c11
     have c11b1 : (((1000000 : Int) % t294) != 0) = false := bne_eq_false_iff_eq.mpr c11
     clear c11
     replace H := Option.bind_eq_some_iff.mp H
     obtain ⟨t298, A120, H⟩ := H
     replace H : (if x4_3.size + t298.size ≤ 9223372036854775807 then (if t294 = 1 then (some (x4_3 ++ t298)) else ((strconv_Itoa.f (wrap64 (1000000 + (wrap64 ((Int.tmod (wrap64 (t295)) t294) * (wrap64 (Int.tdiv (1000000 : Int) t294))))))).bind fun t299 => (if (x4_3 ++ t298).size + 1 ≤ 9223372036854775807 then (if 1 ≤ (t299.size : Int) then ((strings_TrimRight.f (t299.extract 1 t299.size) (⟨#[48]⟩ : ByteArray)).bind fun t300 => (if ((x4_3 ++ t298) ++ (⟨#[46]⟩ : ByteArray)).size + t300.size ≤ 9223372036854775807 then (some (((x4_3 ++ t298) ++ (⟨#[46]⟩ : ByteArray)) ++ t300)) else (none))) else (none)) else (none)))) else (none)) = some r := H
     have A12 := Aside0.mk A120
     clear A120
     by_cases c13 : x4_3.size + t298.size ≤ 9223372036854775807
     ·rw [if_pos c13] at H
      have c13b0 := eq_true c13
      have c13b1 : decide (x4_3.size + t298.size ≤ 9223372036854775807) = true := decide_eq_true c13
      try have c13b2 : (9223372036854775807 < x4_3.size + t298.size) = False := eq_false (Nat.not_lt.2 c13)
      by_cases c14 : t294 = 1
      ·rw [if_pos c14] at H
       have c14b0 : (t294 == 1) = true := beq_iff_eq.mpr c14
       have c14b1 : (t294 != 1) = false := bne_eq_false_iff_eq.mpr c14
       clear c14
       obtain rfl := Option.some.inj H
       go_wp2_with (first | ((with_reducible refine gate_callee (f := 96) rfl ?_); refine goesL_ (some 33) rfl rfl Tryd.func96 kr rfl #[.int .i64 (wrap64 (Int.tdiv (wrap64 (t295)) t294))] rfl ga ?_; (with_reducible refine (strconv_Itoa.calls (wrap64 (Int.tdiv (wrap64 (t295)) t294)) t298 _ ?side1 A12.out).mono ?_); (case side1 => exact HT.out.on bx_bl); rintro e w16 ⟨rfl, hb⟩; refine ⟨_, rfl, ?_⟩; replace BX := bx_call hb; clear hb))
       go_ret
       exact ⟨er2, bx_bl⟩
      ·rw [if_neg c14] at H
       have c14b0 : (t294 == 1) = false := beq_eq_false_iff_ne.mpr c14
       have c14b1 : (t294 != 1) = true := bne_iff_ne.mpr c14
       replace H := Option.bind_eq_some_iff.mp H
       obtain ⟨t299, A180, H⟩ := H
       replace H : (if (x4_3 ++ t298).size + 1 ≤ 9223372036854775807 then (if 1 ≤ (t299.size : Int) then ((strings_TrimRight.f (t299.extract 1 t299.size) (⟨#[48]⟩ : ByteArray)).bind fun t300 => (if ((x4_3 ++ t298) ++ (⟨#[46]⟩ : ByteArray)).size + t300.size ≤ 9223372036854775807 then (some (((x4_3 ++ t298) ++ (⟨#[46]⟩ : ByteArray)) ++ t300)) else (none))) else (none)) else (none)) = some r := H
       have A18 := Aside0.mk A180
       clear A180
       by_cases c19 : (x4_3 ++ t298).size + 1 ≤ 9223372036854775807
       ·rw [if_pos c19] at H
        have c19b0 := eq_true c19
        have c19b1 : decide ((x4_3 ++ t298).size + 1 ≤ 9223372036854775807) = true := decide_eq_true c19
        try have c19b2 : (9223372036854775807 < (x4_3 ++ t298).size + 1) = False := eq_false (Nat.not_lt.2 c19)
        have c19b3 : x4_3.size + t298.size + 1 ≤ 9223372036854775807 := by have h_ := c19; simp only [ByteArray.size_append] at h_; exact h_
        have c19b4 : (9223372036854775807 < x4_3.size + t298.size + 1) = False := eq_false (Nat.not_lt.2 c19b3)
        replace c19b3 : decide (x4_3.size + t298.size + 1 ≤ 9223372036854775807) = true := decide_eq_true c19b3
        by_cases c20 : 1 ≤ (t299.size : Int)
        ·rw [if_pos c20] at H
         have c20b0 := eq_true c20
         have c20b1 : decide (1 ≤ (t299.size : Int)) = true := decide_eq_true c20
         clear c20
         replace H := Option.bind_eq_some_iff.mp H
         obtain ⟨t300, A210, H⟩ := H
         replace H : (if ((x4_3 ++ t298) ++ (⟨#[46]⟩ : ByteArray)).size + t300.size ≤ 9223372036854775807 then (some (((x4_3 ++ t298) ++ (⟨#[46]⟩ : ByteArray)) ++ t300)) else (none)) = some r := H
         have A21 := Aside0.mk A210
         clear A210
         by_cases c22 : ((x4_3 ++ t298) ++ (⟨#[46]⟩ : ByteArray)).size + t300.size ≤ 9223372036854775807
         ·rw [if_pos c22] at H
          have c22b0 := eq_true c22
          have c22b1 : decide (((x4_3 ++ t298) ++ (⟨#[46]⟩ : ByteArray)).size + t300.size ≤ 9223372036854775807) = true := decide_eq_true c22
          try have c22b2 : (9223372036854775807 < ((x4_3 ++ t298) ++ (⟨#[46]⟩ : ByteArray)).size + t300.size) = False := eq_false (Nat.not_lt.2 c22)
          have c22b3 : x4_3.size + t298.size + 1 + t300.size ≤ 9223372036854775807 := by have h_ := c22; simp only [ByteArray.size_append] at h_; exact h_
          have c22b4 : (9223372036854775807 < x4_3.size + t298.size + 1 + t300.size) = False := eq_false (Nat.not_lt.2 c22b3)
          replace c22b3 : decide (x4_3.size + t298.size + 1 + t300.size ≤ 9223372036854775807) = true := decide_eq_true c22b3
          obtain rfl := Option.some.inj H
          try go_wp2_with (first | ((with_reducible refine gate_callee (f := 96) rfl ?_); refine goesL_ (some 33) rfl rfl Tryd.func96 kr rfl #[.int .i64 (wrap64 (Int.tdiv (wrap64 (t295)) t294))] rfl ga ?_; (with_reducible refine (strconv_Itoa.calls (wrap64 (Int.tdiv (wrap64 (t295)) t294)) t298 _ ?side1 A12.out).mono ?_); (case side1 => exact HT.out.on bx_bl); rintro e w24 ⟨rfl, hb⟩; refine ⟨_, rfl, ?_⟩; replace BX := bx_call hb; clear hb))
          refine startm [true] (n := 11) (ds := []) #[false, false, false, false, false, false, false, false, false, false, false] kr rfl rfl (fun BX1 => ?_); refine with_tabW num_Text.tab10 num_Text.bits10 (fun HT_ HW_ => ?_)
          clear BX
          have BX := BX1
          clear BX1
          generalize w24.drew = w26 at BX ⊢
          refine pure_ (i := 0) (N := some 39) (v := ?_) (a' := ?_) #[true, false, false, false, false, false, false, false, false, false, false] rfl rfl (any_of HT_.out kr) (fun _ _ _ h => h) (Or.inl ⟨by rfl, ?_⟩) ?_ ?_
          rotate_left
          ·intro w'
           go_simp
           with_reducible rfl
          rotate_left
          ·simp only [Act.put, List.setIfInBounds_toArray, List.set_cons_zero, List.set_cons_succ, i64_w, i32_w]
           rfl
          refine pure_ (i := 1) (N := some 40) (v := ?_) (a' := ?_) #[true, true, false, false, false, false, false, false, false, false, false] rfl rfl (any_of HT_.out kr) (fun _ _ _ h => h) (Or.inl ⟨by rfl, ?_⟩) ?_ ?_
          rotate_left
          ·intro w'
           go_simp
           with_reducible rfl
          rotate_left
          ·simp only [Act.put, List.setIfInBounds_toArray, List.set_cons_zero, List.set_cons_succ, i64_w, i32_w]
           rfl
          refine pure_ (i := 4) (N := some 43) (v := ?_) (a' := ?_) #[true, true, false, false, true, false, false, false, false, false, false] rfl rfl (any_of HT_.out kr) (fun _ _ _ h => h) (Or.inl ⟨by rfl, ?_⟩) ?_ ?_
          rotate_left
          ·intro w'
           go_simp
           with_reducible rfl
          rotate_left
          ·simp only [Act.put, List.setIfInBounds_toArray, List.set_cons_zero, List.set_cons_succ, i64_w, i32_w]
           rfl
          refine take_ (i := 2) (N := some 41) (v := ?_) (a' := ?_) #[true, true, true, false, true, false, false, false, false, false, false] rfl rfl (take_ofW HT_.out HW_.out kr) (fun _ _ _ h => h) (Or.inl ⟨by rfl, ?_⟩) bxs ?_ ?_
          rotate_left
          ·intro w' hS
           go_simp
           with_reducible rfl
          rotate_left
          ·simp only [Act.put, List.setIfInBounds_toArray, List.set_cons_zero, List.set_cons_succ, i64_w, i32_w]
           rfl
          refine pure_ (i := 3) (N := some 42) (v := ?_) (a' := ?_) #[true, true, true, true, true, false, false, false, false, false, false] rfl rfl (any_of HT_.out kr) (fun _ _ _ h => h) (Or.inl ⟨by rfl, ?_⟩) ?_ ?_
          rotate_left
          ·intro w'
           go_simp
           with_reducible rfl
          rotate_left
          ·simp only [Act.put, List.setIfInBounds_toArray, List.set_cons_zero, List.set_cons_succ, i64_w, i32_w]
           rfl
          refine take_ (i := 5) (N := some 44) (v := ?_) (a' := ?_) #[true, true, true, true, true, true, false, false, false, false, false] rfl rfl (take_ofW HT_.out HW_.out kr) (fun _ _ _ h => h) (Or.inl ⟨by rfl, ?_⟩) bxs ?_ ?_
          rotate_left
          ·intro w' hS
           go_simp
           with_reducible rfl
          rotate_left
          ·simp only [Act.put, List.setIfInBounds_toArray, List.set_cons_zero, List.set_cons_succ, i64_w, i32_w]
           rfl
          refine pure_ (i := 6) (N := some 45) (v := ?_) (a' := ?_) #[true, true, true, true, true, true, true, false, false, false, false] rfl rfl (any_of HT_.out kr) (fun _ _ _ h => h) (Or.inl ⟨by rfl, ?_⟩) ?_ ?_
          rotate_left
          ·intro w'
           go_simp
           with_reducible rfl
          rotate_left
          ·simp only [Act.put, List.setIfInBounds_toArray, List.set_cons_zero, List.set_cons_succ, i64_w, i32_w]
           rfl
          refine pure_ (i := 7) (N := some 46) (v := ?_) (a' := ?_) #[true, true, true, true, true, true, true, true, false, false, false] rfl rfl (any_of HT_.out kr) (fun _ _ _ h => h) (Or.inl ⟨by rfl, ?_⟩) ?_ ?_
          rotate_left
          ·intro w'
           go_simp
           with_reducible rfl
          rotate_left
          ·simp only [Act.put, List.setIfInBounds_toArray, List.set_cons_zero, List.set_cons_succ, i64_w, i32_w]
           rfl
          refine pure_ (i := 8) (N := some 47) (v := ?_) (a' := ?_) #[true, true, true, true, true, true, true, true, true, false, false] rfl rfl (any_of HT_.out kr) (fun _ _ _ h => h) (Or.inl ⟨by rfl, ?_⟩) ?_ ?_
          rotate_left
          ·intro w'
           go_simp
           with_reducible rfl
          rotate_left
          ·simp only [Act.put, List.setIfInBounds_toArray, List.set_cons_zero, List.set_cons_succ, i64_w, i32_w]
           rfl
          refine one_ (i := 9) (N := some 48) #[true, true, true, true, true, true, true, true, true, true, false] rfl rfl (one_of HT_.out kr) (by decide) (fun K hK => ?_)
          refine goes_ Tryd.func96 kr rfl #[.int .i64 (wrap64 (1000000 + (wrap64 ((Int.tmod (wrap64 (t295)) t294) * (wrap64 (Int.tdiv (1000000 : Int) t294))))))] (by rfl) rfl rfl ga ?_
          with_reducible refine (strconv_Itoa.calls (wrap64 (1000000 + (wrap64 ((Int.tmod (wrap64 (t295)) t294) * (wrap64 (Int.tdiv (1000000 : Int) t294)))))) t299 _ ?side1 A18.out).mono ?_
          (case side1 => exact HT.out.on bx_bl)
          rintro e w27 ⟨rfl, hb⟩
          refine ⟨_, rfl, ?_⟩
          replace BX := bx_call hb
          clear hb
          refine hK.out _ _ bxs (fun hHeld => ?_)
          clear hK K hHeld
          refine norm_ (a' := ?_) ?_ ?_
          rotate_left
          ·show Act.put _ (some 48) _ = _
           simp only [Act.put, List.setIfInBounds_toArray, List.set_cons_zero, List.set_cons_succ, i64_w, i32_w]
           rfl
          refine pure_ (i := 10) (N := some 5) (v := ?_) (a' := ?_) #[true, true, true, true, true, true, true, true, true, true, true] rfl rfl (any_of HT_.out kr) (fun _ _ _ h => h) (Or.inl ⟨by rfl, ?_⟩) ?_ ?_
          rotate_left
          ·intro w'
           go_simp
           with_reducible rfl
          rotate_left
          ·simp only [Act.put, List.setIfInBounds_toArray, List.set_cons_zero, List.set_cons_succ, i64_w, i32_w]
           rfl
          refine done_ (done_of HT_.out kr) ?_
          try go_wp2_with (first | ((with_reducible refine gate_callee (f := 97) rfl ?_); refine goesL_ (some 53) rfl rfl Tryd.func97 kr rfl #[.string (t299.extract 1 t299.size), .string (⟨#[48]⟩ : ByteArray)] rfl ga ?_; (with_reducible refine (strings_TrimRight.calls (t299.extract 1 t299.size) (⟨#[48]⟩ : ByteArray) t300 _ A21.out).mono ?_); rintro e w' ⟨rfl, ⟨nd, rfl⟩⟩; refine ⟨_, rfl, ?_⟩))
          go_ret
          exact ⟨er2, bx_bl⟩
         ·rw [if_neg c22] at H
          exact absurd H (by simp)
        ·rw [if_neg c20] at H
         exact absurd H (by simp)
       ·rw [if_neg c19] at H
        exact absurd H (by simp)
     ·rw [if_neg c13] at H
      exact absurd H (by simp)
    ·rw [if_neg c11] at H
     have c11b0 : (((1000000 : Int) % t294) == 0) = false := beq_eq_false_iff_ne.mpr c11
     have c11b1 : (((1000000 : Int) % t294) != 0) = true := bne_iff_ne.mpr c11
     replace H := Option.bind_eq_some_iff.mp H
     obtain ⟨t296, A280, H⟩ := H
     replace H : (if x4_3.size + t296.size ≤ 9223372036854775807 then (if (x4_3 ++ t296).size + 1 ≤ 9223372036854775807 then ((strconv_Itoa.f t294).bind fun t297 => (if ((x4_3 ++ t296) ++ (⟨#[47]⟩ : ByteArray)).size + t297.size ≤ 9223372036854775807 then (some (((x4_3 ++ t296) ++ (⟨#[47]⟩ : ByteArray)) ++ t297)) else (none))) else (none)) else (none)) = some r := H
     have A28 := Aside0.mk A280
     clear A280
     by_cases c29 : x4_3.size + t296.size ≤ 9223372036854775807
     ·rw [if_pos c29] at H
      have c29b0 := eq_true c29
      have c29b1 : decide (x4_3.size + t296.size ≤ 9223372036854775807) = true := decide_eq_true c29
      try have c29b2 : (9223372036854775807 < x4_3.size + t296.size) = False := eq_false (Nat.not_lt.2 c29)
      by_cases c30 : (x4_3 ++ t296).size + 1 ≤ 9223372036854775807
      ·rw [if_pos c30] at H
       have c30b0 := eq_true c30
       have c30b1 : decide ((x4_3 ++ t296).size + 1 ≤ 9223372036854775807) = true := decide_eq_true c30
       try have c30b2 : (9223372036854775807 < (x4_3 ++ t296).size + 1) = False := eq_false (Nat.not_lt.2 c30)
       have c30b3 : x4_3.size + t296.size + 1 ≤ 9223372036854775807 := by have h_ := c30; simp only [ByteArray.size_append] at h_; exact h_
       have c30b4 : (9223372036854775807 < x4_3.size + t296.size + 1) = False := eq_false (Nat.not_lt.2 c30b3)
       replace c30b3 : decide (x4_3.size + t296.size + 1 ≤ 9223372036854775807) = true := decide_eq_true c30b3
       replace H := Option.bind_eq_some_iff.mp H
       obtain ⟨t297, A310, H⟩ := H
       replace H : (if ((x4_3 ++ t296) ++ (⟨#[47]⟩ : ByteArray)).size + t297.size ≤ 9223372036854775807 then (some (((x4_3 ++ t296) ++ (⟨#[47]⟩ : ByteArray)) ++ t297)) else (none)) = some r := H
       have A31 := Aside0.mk A310
       clear A310
       by_cases c32 : ((x4_3 ++ t296) ++ (⟨#[47]⟩ : ByteArray)).size + t297.size ≤ 9223372036854775807
       ·rw [if_pos c32] at H
        have c32b0 := eq_true c32
        have c32b1 : decide (((x4_3 ++ t296) ++ (⟨#[47]⟩ : ByteArray)).size + t297.size ≤ 9223372036854775807) = true := decide_eq_true c32
        try have c32b2 : (9223372036854775807 < ((x4_3 ++ t296) ++ (⟨#[47]⟩ : ByteArray)).size + t297.size) = False := eq_false (Nat.not_lt.2 c32)
        have c32b3 : x4_3.size + t296.size + 1 + t297.size ≤ 9223372036854775807 := by have h_ := c32; simp only [ByteArray.size_append] at h_; exact h_
        have c32b4 : (9223372036854775807 < x4_3.size + t296.size + 1 + t297.size) = False := eq_false (Nat.not_lt.2 c32b3)
        replace c32b3 : decide (x4_3.size + t296.size + 1 + t297.size ≤ 9223372036854775807) = true := decide_eq_true c32b3
        obtain rfl := Option.some.inj H
        try go_wp2
        refine startm [true] (n := 10) (ds := []) #[false, false, false, false, false, false, false, false, false, false] kr rfl rfl (fun BX1 => ?_); refine with_tabW num_Text.tab6 num_Text.bits6 (fun HT_ HW_ => ?_)
        clear BX
        have BX := BX1
        clear BX1
        generalize wc.drew = w34 at BX ⊢
        refine pure_ (i := 0) (N := some 19) (v := ?_) (a' := ?_) #[true, false, false, false, false, false, false, false, false, false] rfl rfl (any_of HT_.out kr) (fun _ _ _ h => h) (Or.inl ⟨by rfl, ?_⟩) ?_ ?_
        rotate_left
        ·intro w'
         go_simp
         with_reducible rfl
        rotate_left
        ·simp only [Act.put, List.setIfInBounds_toArray, List.set_cons_zero, List.set_cons_succ, i64_w, i32_w]
         rfl
        refine pure_ (i := 1) (N := some 20) (v := ?_) (a' := ?_) #[true, true, false, false, false, false, false, false, false, false] rfl rfl (any_of HT_.out kr) (fun _ _ _ h => h) (Or.inl ⟨by rfl, ?_⟩) ?_ ?_
        rotate_left
        ·intro w'
         go_simp
         with_reducible rfl
        rotate_left
        ·simp only [Act.put, List.setIfInBounds_toArray, List.set_cons_zero, List.set_cons_succ, i64_w, i32_w]
         rfl
        refine pure_ (i := 5) (N := some 24) (v := ?_) (a' := ?_) #[true, true, false, false, false, true, false, false, false, false] rfl rfl (any_of HT_.out kr) (fun _ _ _ h => h) (Or.inl ⟨by rfl, ?_⟩) ?_ ?_
        rotate_left
        ·intro w'
         go_simp
         with_reducible rfl
        rotate_left
        ·simp only [Act.put, List.setIfInBounds_toArray, List.set_cons_zero, List.set_cons_succ, i64_w, i32_w]
         rfl
        refine take_ (i := 6) (N := some 25) (v := ?_) (a' := ?_) #[true, true, false, false, false, true, true, false, false, false] rfl rfl (take_ofW HT_.out HW_.out kr) (fun _ _ _ h => h) (Or.inl ⟨by rfl, ?_⟩) bxs ?_ ?_
        rotate_left
        ·intro w' hS
         go_simp
         with_reducible rfl
        rotate_left
        ·simp only [Act.put, List.setIfInBounds_toArray, List.set_cons_zero, List.set_cons_succ, i64_w, i32_w]
         rfl
        refine one_ (i := 2) (N := some 21) #[true, true, true, false, false, true, true, false, false, false] rfl rfl (one_of HT_.out kr) (by decide) (fun K hK => ?_)
        refine goes_ Tryd.func96 kr rfl #[.int .i64 (wrap64 (t295))] (by rfl) rfl rfl ga ?_
        with_reducible refine (strconv_Itoa.calls (wrap64 (t295)) t296 _ ?side1 A28.out).mono ?_
        (case side1 => exact HT.out.on bx_bl)
        rintro e w35 ⟨rfl, hb⟩
        refine ⟨_, rfl, ?_⟩
        replace BX := bx_call hb
        clear hb
        refine hK.out _ _ bxs (fun hHeld => ?_)
        clear hK K hHeld
        refine norm_ (a' := ?_) ?_ ?_
        rotate_left
        ·show Act.put _ (some 21) _ = _
         simp only [Act.put, List.setIfInBounds_toArray, List.set_cons_zero, List.set_cons_succ, i64_w, i32_w]
         rfl
        refine pure_ (i := 3) (N := some 22) (v := ?_) (a' := ?_) #[true, true, true, true, false, true, true, false, false, false] rfl rfl (any_of HT_.out kr) (fun _ _ _ h => h) (Or.inl ⟨by rfl, ?_⟩) ?_ ?_
        rotate_left
        ·intro w'
         go_simp
         with_reducible rfl
        rotate_left
        ·simp only [Act.put, List.setIfInBounds_toArray, List.set_cons_zero, List.set_cons_succ, i64_w, i32_w]
         rfl
        refine pure_ (i := 4) (N := some 23) (v := ?_) (a' := ?_) #[true, true, true, true, true, true, true, false, false, false] rfl rfl (any_of HT_.out kr) (fun _ _ _ h => h) (Or.inl ⟨by rfl, ?_⟩) ?_ ?_
        rotate_left
        ·intro w'
         go_simp
         with_reducible rfl
        rotate_left
        ·simp only [Act.put, List.setIfInBounds_toArray, List.set_cons_zero, List.set_cons_succ, i64_w, i32_w]
         rfl
        refine one_ (i := 7) (N := some 26) #[true, true, true, true, true, true, true, true, false, false] rfl rfl (one_of HT_.out kr) (by decide) (fun K hK => ?_)
        refine goes_ Tryd.func96 kr rfl #[.int .i64 t294] (by rfl) rfl rfl ga ?_
        with_reducible refine (strconv_Itoa.calls t294 t297 _ ?side1 A31.out).mono ?_
        (case side1 => exact HT.out.on bx_bl)
        rintro e w36 ⟨rfl, hb⟩
        refine ⟨_, rfl, ?_⟩
        replace BX := bx_call hb
        clear hb
        refine hK.out _ _ bxs (fun hHeld => ?_)
        clear hK K hHeld
        refine norm_ (a' := ?_) ?_ ?_
        rotate_left
        ·show Act.put _ (some 26) _ = _
         simp only [Act.put, List.setIfInBounds_toArray, List.set_cons_zero, List.set_cons_succ, i64_w, i32_w]
         rfl
        refine pure_ (i := 8) (N := some 27) (v := ?_) (a' := ?_) #[true, true, true, true, true, true, true, true, true, false] rfl rfl (any_of HT_.out kr) (fun _ _ _ h => h) (Or.inl ⟨by rfl, ?_⟩) ?_ ?_
        rotate_left
        ·intro w'
         go_simp
         with_reducible rfl
        rotate_left
        ·simp only [Act.put, List.setIfInBounds_toArray, List.set_cons_zero, List.set_cons_succ, i64_w, i32_w]
         rfl
        refine pure_ (i := 9) (N := some 2) (v := ?_) (a' := ?_) #[true, true, true, true, true, true, true, true, true, true] rfl rfl (any_of HT_.out kr) (fun _ _ _ h => h) (Or.inl ⟨by rfl, ?_⟩) ?_ ?_
        rotate_left
        ·intro w'
         go_simp
         with_reducible rfl
        rotate_left
        ·simp only [Act.put, List.setIfInBounds_toArray, List.set_cons_zero, List.set_cons_succ, i64_w, i32_w]
         rfl
        refine done_ (done_of HT_.out kr) ?_
        try go_wp2
        go_ret
        exact ⟨er2, bx_bl⟩
       ·rw [if_neg c32] at H
        exact absurd H (by simp)
      ·rw [if_neg c30] at H
       exact absurd H (by simp)
     ·rw [if_neg c29] at H
      exact absurd H (by simp)
end
end Go.Proofs.YtmakkdlkgfgaoaaDoor.F
