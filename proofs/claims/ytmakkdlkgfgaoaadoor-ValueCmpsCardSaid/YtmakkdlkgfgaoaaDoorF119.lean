-- Laid by program (wip/tools/genv.sh, pack.py, merge.py of this repo) out of the translation; Lean checks it.
import Derived.Test.YtmakkdlkgfgaoaaDoorF0
import Derived.Test.YtmakkdlkgfgaoaaDoorC0
import Derived.Test.YtmakkdlkgfgaoaaDoorF104
import Derived.Test.YtmakkdlkgfgaoaaDoorF109
import Derived.Test.YtmakkdlkgfgaoaaDoorF112
namespace Go.Proofs.YtmakkdlkgfgaoaaDoor.F
open Go.RowKit Go.Proofs.YtmakkdlkgfgaoaaDoorW.PrintWords Go.Proofs.YtmakkdlkgfgaoaaDoorW.PrintLast Go.Proofs.YtmakkdlkgfgaoaaDoorW.PrintMore
attribute [local go_sem] max2_int min2_int max_two min_two max_three min_three max_four min_four
attribute [local go_sem high] bx_cell bx_frozen
set_option linter.unusedVariables false
set_option linter.unusedSimpArgs false

section
/-! ### whittlelaw2_ValueCmps: function 8 -/
def whittlelaw2_ValueCmps.f (k : Nat) (a0_0 : Int) (a0_1 : Int) (a0_2 : Int) (a0_3 : ByteArray) (a0_4 : Bool) (a0_5 : Int) (a1_0 : Int) (a1_1 : Int) (a1_2 : Int) (a1_3 : ByteArray) (a1_4 : Bool) (a1_5 : Int) : Option (Bool) := (whittlelaw2_able.f k).bind fun t952 => (if t952 = true then ((value_Cmp.f k a0_0 a0_1 a0_2 a0_3 a0_4 a0_5 a1_0 a1_1 a1_2 a1_3 a1_4 a1_5).bind fun t953 => ((whittleref2_Cmp.f k a0_0 a0_1 a0_2 a0_3 a0_4 a0_5 a1_0 a1_1 a1_2 a1_3 a1_4 a1_5).bind fun t954 => (if t953 = t954 then ((value_Same.f k a0_0 a0_1 a0_2 a0_3 a0_4 a0_5 a1_0 a1_1 a1_2 a1_3 a1_4 a1_5).bind fun t955 => ((whittleref2_Same.f k a0_0 a0_1 a0_2 a0_3 a0_4 a0_5 a1_0 a1_1 a1_2 a1_3 a1_4 a1_5).bind fun t956 => (some (t955 == t956)))) else (some false)))) else (some false))
theorem whittlelaw2_ValueCmps.mono : ∀ a0 a1 a2 a3 a4 a5 a6 a7 a8 a9 a10 a11 k, LeO (whittlelaw2_ValueCmps.f k a0 a1 a2 a3 a4 a5 a6 a7 a8 a9 a10 a11) (whittlelaw2_ValueCmps.f (k + 1) a0 a1 a2 a3 a4 a5 a6 a7 a8 a9 a10 a11) := by
 intro a0 a1 a2 a3 a4 a5 a6 a7 a8 a9 a10 a11 k
 unfold whittlelaw2_ValueCmps.f
 repeat' first
   | (with_reducible exact value_Cmp.mono _ _ _ _ _ _ _ _ _ _ _ _ _)
   | (with_reducible exact value_Same.mono _ _ _ _ _ _ _ _ _ _ _ _ _)
   | (with_reducible exact whittlelaw2_able.mono _)
   | (with_reducible exact whittleref2_Cmp.mono _ _ _ _ _ _ _ _ _ _ _ _ _)
   | (with_reducible exact whittleref2_Same.mono _ _ _ _ _ _ _ _ _ _ _ _ _)
   | (with_reducible exact LeO.refl _)
   | (with_reducible exact LeO.none _)
   | (with_reducible refine LeO.ite ?_ ?_)
   | (with_reducible refine LeO.bind ?_ (fun _ => ?_))
   | exact value_Cmp.mono _ _ _ _ _ _ _ _ _ _ _ _ _
   | exact value_Same.mono _ _ _ _ _ _ _ _ _ _ _ _ _
   | exact whittlelaw2_able.mono _
   | exact whittleref2_Cmp.mono _ _ _ _ _ _ _ _ _ _ _ _ _
   | exact whittleref2_Same.mono _ _ _ _ _ _ _ _ _ _ _ _ _
   | exact LeO.none _
   | refine LeO.ite ?_ ?_
   | refine LeO.bind ?_ (fun _ => ?_)
def whittlelaw2_ValueCmps.T1 : Bool × List (List Nat × List Nat) := (true, [([], []), ([0, 0], [0]), ([1], [1]), ([1], [1]), ([2, 3, 1, 1], [1, 2, 3]), ([1], [1]), ([1], [1]), ([5, 6, 4, 1], [1, 5, 6]), ([4, 7, 1], [1, 4, 7]), ([1, 8], [1, 8]), ([9, 7], [9]), ([10], [10]), ([10], [10]), ([11, 12, 10, 10], [10, 11, 12]), ([10], [10]), ([10], [10]), ([14, 15, 13, 10], [10, 14, 15]), ([13, 16, 10], [10, 13, 16]), ([10, 17], [10, 17]), ([18, 16, 0, 1, 2, 3, 4, 5, 6, 7, 8, 9, 10, 11, 12, 13, 14, 15, 16, 17, 18], [18])])
def whittlelaw2_ValueCmps.B1 : List Nat := [0, 1, 3, 3, 15, 3, 3, 127, 255, 511, 1023, 2047, 2047, 8191, 2047, 2047, 65535, 131071, 262143, 524287]
theorem whittlelaw2_ValueCmps.tab1 : rtab .any (opsOf Tryd.f8 1) = whittlelaw2_ValueCmps.T1 := by kernel_rfl
theorem whittlelaw2_ValueCmps.bits1 : waitsOk whittlelaw2_ValueCmps.T1.2 whittlelaw2_ValueCmps.B1 = true := by kernel_rfl
set_option maxHeartbeats 8000000 in
set_option maxRecDepth 100000 in
theorem whittlelaw2_ValueCmps.calls (k : Nat) (a0_0 : Int) (a0_1 : Int) (a0_2 : Int) (a0_3 : ByteArray) (a0_4 : Bool) (a0_5 : Int) (a1_0 : Int) (a1_1 : Int) (a1_2 : Int) (a1_3 : ByteArray) (a1_4 : Bool) (a1_5 : Int) (r : Bool) (w : World) (HT0 : TabAt w) (hr0 : r = true) (h : whittlelaw2_ValueCmps.f k a0_0 a0_1 a0_2 a0_3 a0_4 a0_5 a1_0 a1_1 a1_2 a1_3 a1_4 a1_5 = some r) :
  Calls Tryd.prog 8 #[.agg #[.int .i64 a0_0, .int .i64 a0_1, .int .i64 a0_2, .string a0_3, .bool a0_4, .int .i64 a0_5], .agg #[.int .i64 a1_0, .int .i64 a1_1, .int .i64 a1_2, .string a1_3, .bool a1_4, .int .i64 a1_5]] w fun e w' => e = .returned (.bool r) ∧ Below w.heap.size w w' := by
 have hu25 := Tryd.underlying25
 have HT := Aside0.mk HT0
 clear HT0
 have HR := Aside0.mk hr0
 clear hr0
 have BX := Bx.start w
 have H : ((whittlelaw2_able.f k).bind fun t952 => (if t952 = true then ((value_Cmp.f k a0_0 a0_1 a0_2 a0_3 a0_4 a0_5 a1_0 a1_1 a1_2 a1_3 a1_4 a1_5).bind fun t953 => ((whittleref2_Cmp.f k a0_0 a0_1 a0_2 a0_3 a0_4 a0_5 a1_0 a1_1 a1_2 a1_3 a1_4 a1_5).bind fun t954 => (if t953 = t954 then ((value_Same.f k a0_0 a0_1 a0_2 a0_3 a0_4 a0_5 a1_0 a1_1 a1_2 a1_3 a1_4 a1_5).bind fun t955 => ((whittleref2_Same.f k a0_0 a0_1 a0_2 a0_3 a0_4 a0_5 a1_0 a1_1 a1_2 a1_3 a1_4 a1_5).bind fun t956 => (some (t955 == t956)))) else (some false)))) else (some false))) = some r := h
 clear h
 replace H := Option.bind_eq_some_iff.mp H
 obtain ⟨t952, A30, H⟩ := H
 replace H : (if t952 = true then ((value_Cmp.f k a0_0 a0_1 a0_2 a0_3 a0_4 a0_5 a1_0 a1_1 a1_2 a1_3 a1_4 a1_5).bind fun t953 => ((whittleref2_Cmp.f k a0_0 a0_1 a0_2 a0_3 a0_4 a0_5 a1_0 a1_1 a1_2 a1_3 a1_4 a1_5).bind fun t954 => (if t953 = t954 then ((value_Same.f k a0_0 a0_1 a0_2 a0_3 a0_4 a0_5 a1_0 a1_1 a1_2 a1_3 a1_4 a1_5).bind fun t955 => ((whittleref2_Same.f k a0_0 a0_1 a0_2 a0_3 a0_4 a0_5 a1_0 a1_1 a1_2 a1_3 a1_4 a1_5).bind fun t956 => (some (t955 == t956)))) else (some false)))) else (some false)) = some r := H
 have A3 := Aside0.mk A30
 clear A30
 by_cases c4 : t952 = true
 ·subst c4
  have H1 : ((value_Cmp.f k a0_0 a0_1 a0_2 a0_3 a0_4 a0_5 a1_0 a1_1 a1_2 a1_3 a1_4 a1_5).bind fun t953 => ((whittleref2_Cmp.f k a0_0 a0_1 a0_2 a0_3 a0_4 a0_5 a1_0 a1_1 a1_2 a1_3 a1_4 a1_5).bind fun t954 => (if t953 = t954 then ((value_Same.f k a0_0 a0_1 a0_2 a0_3 a0_4 a0_5 a1_0 a1_1 a1_2 a1_3 a1_4 a1_5).bind fun t955 => ((whittleref2_Same.f k a0_0 a0_1 a0_2 a0_3 a0_4 a0_5 a1_0 a1_1 a1_2 a1_3 a1_4 a1_5).bind fun t956 => (some (t955 == t956)))) else (some false)))) = some r := by rw [if_pos rfl] at H; exact H
  clear H
  have H := H1
  clear H1
  replace H := Option.bind_eq_some_iff.mp H
  obtain ⟨t953, A50, H⟩ := H
  have A5 := Aside0.mk A50
  clear A50
  replace H := Option.bind_eq_some_iff.mp H
  obtain ⟨t954, A60, H⟩ := H
  replace H : (if t953 = t954 then ((value_Same.f k a0_0 a0_1 a0_2 a0_3 a0_4 a0_5 a1_0 a1_1 a1_2 a1_3 a1_4 a1_5).bind fun t955 => ((whittleref2_Same.f k a0_0 a0_1 a0_2 a0_3 a0_4 a0_5 a1_0 a1_1 a1_2 a1_3 a1_4 a1_5).bind fun t956 => (some (t955 == t956)))) else (some false)) = some r := H
  have A6 := Aside0.mk A60
  clear A60
  by_cases c7 : t953 = t954
  ·rw [if_pos c7] at H
   have c7b0 : (t953 == t954) = true := beq_iff_eq.mpr c7
   have c7b1 : (t953 != t954) = false := bne_eq_false_iff_eq.mpr c7
   clear c7
   replace H := Option.bind_eq_some_iff.mp H
   obtain ⟨t955, A80, H⟩ := H
   have A8 := Aside0.mk A80
   clear A80
   replace H := Option.bind_eq_some_iff.mp H
   obtain ⟨t956, A90, H⟩ := H
   replace H : (some (t955 == t956)) = some r := H
   have A9 := Aside0.mk A90
   clear A90
   clear HR
   obtain rfl := Option.some.inj H
   go_enter Tryd.func8, Tryd.ntmps8
   try go_wp2_with (first | ((with_reducible refine gate_dst (N := 2) rfl ?_); refine bxe 2 #[.int .i64 a0_0, .int .i64 a0_1, .int .i64 a0_2, .string a0_3, .bool a0_4, .int .i64 a0_5] 25 rfl rfl gr ?_; clear BX; intro gb950 w10 GE950 BX) | ((with_reducible refine gate_dst (N := 3) rfl ?_); refine bxe 3 #[.int .i64 a1_0, .int .i64 a1_1, .int .i64 a1_2, .string a1_3, .bool a1_4, .int .i64 a1_5] 25 rfl rfl gr ?_; clear BX; intro gb951 w11 GE951 BX))
   refine startm [true, true] (n := 20) (ds := []) #[false, false, false, false, false, false, false, false, false, false, false, false, false, false, false, false, false, false, false, false] kr rfl rfl (fun BX1 => ?_); refine with_tabW whittlelaw2_ValueCmps.tab1 whittlelaw2_ValueCmps.bits1 (fun HT_ HW_ => ?_)
   clear BX
   have BX := BX1
   clear BX1
   generalize w11.drew = w12 at BX ⊢
   refine one_ (i := 0) (N := some 5) #[true, false, false, false, false, false, false, false, false, false, false, false, false, false, false, false, false, false, false, false] rfl rfl (one_of HT_.out kr) (by decide) (fun K hK => ?_)
   refine goes_ Tryd.func15 kr rfl #[] (by rfl) rfl rfl ga ?_
   with_reducible refine (whittlelaw2_able.calls k  true _ ?side1 A3.out).mono ?_
   (case side1 => exact HT.out.on bx_bl)
   rintro e w13 ⟨rfl, hb⟩
   refine ⟨_, rfl, ?_⟩
   replace BX := bx_call hb
   clear hb
   refine hK.out _ _ bxs (fun hHeld => ?_)
   clear hK K hHeld
   refine norm_ (a' := ?_) ?_ ?_
   rotate_left
   ·show Act.put _ (some 5) _ = _
    simp only [Act.put, List.setIfInBounds_toArray, List.set_cons_zero, List.set_cons_succ, i64_w, i32_w]
    rfl
   refine pure_ (i := 1) (N := some 6) (v := ?_) (a' := ?_) #[true, true, false, false, false, false, false, false, false, false, false, false, false, false, false, false, false, false, false, false] rfl rfl (any_of HT_.out kr) (fun _ _ _ h => h) (Or.inl ⟨by rfl, ?_⟩) ?_ ?_
   rotate_left
   ·intro w'
    go_simp
    with_reducible rfl
   rotate_left
   ·simp only [Act.put, List.setIfInBounds_toArray, List.set_cons_zero, List.set_cons_succ, i64_w, i32_w]
    rfl
   refine take_ (i := 2) (N := some 7) (v := ?_) (a' := ?_) #[true, true, true, false, false, false, false, false, false, false, false, false, false, false, false, false, false, false, false, false] rfl rfl (take_ofW HT_.out HW_.out kr) (fun _ _ _ h => h) (Or.inl ⟨by rfl, ?_⟩) bxs ?_ ?_
   rotate_left
   ·intro w' hS
    go_simp
    with_reducible rfl
   rotate_left
   ·simp only [Act.put, List.setIfInBounds_toArray, List.set_cons_zero, List.set_cons_succ, i64_w, i32_w]
    rfl
   refine take_ (i := 3) (N := some 8) (v := ?_) (a' := ?_) #[true, true, true, true, false, false, false, false, false, false, false, false, false, false, false, false, false, false, false, false] rfl rfl (take_ofW HT_.out HW_.out kr) (fun _ _ _ h => h) (Or.inl ⟨by rfl, ?_⟩) bxs ?_ ?_
   rotate_left
   ·intro w' hS
    go_simp
    with_reducible rfl
   rotate_left
   ·simp only [Act.put, List.setIfInBounds_toArray, List.set_cons_zero, List.set_cons_succ, i64_w, i32_w]
    rfl
   refine take_ (i := 5) (N := some 10) (v := ?_) (a' := ?_) #[true, true, true, true, false, true, false, false, false, false, false, false, false, false, false, false, false, false, false, false] rfl rfl (take_ofW HT_.out HW_.out kr) (fun _ _ _ h => h) (Or.inl ⟨by rfl, ?_⟩) bxs ?_ ?_
   rotate_left
   ·intro w' hS
    go_simp
    with_reducible rfl
   rotate_left
   ·simp only [Act.put, List.setIfInBounds_toArray, List.set_cons_zero, List.set_cons_succ, i64_w, i32_w]
    rfl
   refine take_ (i := 6) (N := some 11) (v := ?_) (a' := ?_) #[true, true, true, true, false, true, true, false, false, false, false, false, false, false, false, false, false, false, false, false] rfl rfl (take_ofW HT_.out HW_.out kr) (fun _ _ _ h => h) (Or.inl ⟨by rfl, ?_⟩) bxs ?_ ?_
   rotate_left
   ·intro w' hS
    go_simp
    with_reducible rfl
   rotate_left
   ·simp only [Act.put, List.setIfInBounds_toArray, List.set_cons_zero, List.set_cons_succ, i64_w, i32_w]
    rfl
   refine one_ (i := 4) (N := some 9) #[true, true, true, true, true, true, true, false, false, false, false, false, false, false, false, false, false, false, false, false] rfl rfl (one_of HT_.out kr) (by decide) (fun K hK => ?_)
   refine goes_ Tryd.func32 kr rfl #[.agg #[.int .i64 a0_0, .int .i64 a0_1, .int .i64 a0_2, .string a0_3, .bool a0_4, .int .i64 a0_5], .agg #[.int .i64 a1_0, .int .i64 a1_1, .int .i64 a1_2, .string a1_3, .bool a1_4, .int .i64 a1_5]] (by rfl) rfl rfl ga ?_
   with_reducible refine (value_Cmp.calls k a0_0 a0_1 a0_2 a0_3 a0_4 a0_5 a1_0 a1_1 a1_2 a1_3 a1_4 a1_5 t953 _ A5.out).mono ?_
   rintro e w14 ⟨rfl, hb⟩
   refine ⟨_, rfl, ?_⟩
   replace BX := bx_call hb
   clear hb
   refine hK.out _ _ bxs (fun hHeld => ?_)
   clear hK K hHeld
   refine norm_ (a' := ?_) ?_ ?_
   rotate_left
   ·show Act.put _ (some 9) _ = _
    simp only [Act.put, List.setIfInBounds_toArray, List.set_cons_zero, List.set_cons_succ, i64_w, i32_w]
    rfl
   refine one_ (i := 7) (N := some 12) #[true, true, true, true, true, true, true, true, false, false, false, false, false, false, false, false, false, false, false, false] rfl rfl (one_of HT_.out kr) (by decide) (fun K hK => ?_)
   refine goes_ Tryd.func33 kr rfl #[.agg #[.int .i64 a0_0, .int .i64 a0_1, .int .i64 a0_2, .string a0_3, .bool a0_4, .int .i64 a0_5], .agg #[.int .i64 a1_0, .int .i64 a1_1, .int .i64 a1_2, .string a1_3, .bool a1_4, .int .i64 a1_5]] (by rfl) rfl rfl ga ?_
   with_reducible refine (whittleref2_Cmp.calls k a0_0 a0_1 a0_2 a0_3 a0_4 a0_5 a1_0 a1_1 a1_2 a1_3 a1_4 a1_5 t954 _ A6.out).mono ?_
   rintro e w15 ⟨rfl, hb⟩
   refine ⟨_, rfl, ?_⟩
   replace BX := bx_call hb
   clear hb
   refine hK.out _ _ bxs (fun hHeld => ?_)
   clear hK K hHeld
   refine norm_ (a' := ?_) ?_ ?_
   rotate_left
   ·show Act.put _ (some 12) _ = _
    simp only [Act.put, List.setIfInBounds_toArray, List.set_cons_zero, List.set_cons_succ, i64_w, i32_w]
    rfl
   refine pure_ (i := 8) (N := some 13) (v := ?_) (a' := ?_) #[true, true, true, true, true, true, true, true, true, false, false, false, false, false, false, false, false, false, false, false] rfl rfl (any_of HT_.out kr) (fun _ _ _ h => h) (Or.inl ⟨by rfl, ?_⟩) ?_ ?_
   rotate_left
   ·intro w'
    go_simp
    with_reducible rfl
   rotate_left
   ·simp only [Act.put, List.setIfInBounds_toArray, List.set_cons_zero, List.set_cons_succ, i64_w, i32_w]
    rfl
   refine pure_ (i := 9) (N := some 14) (v := ?_) (a' := ?_) #[true, true, true, true, true, true, true, true, true, true, false, false, false, false, false, false, false, false, false, false] rfl rfl (any_of HT_.out kr) (fun _ _ _ h => h) (Or.inl ⟨by rfl, ?_⟩) ?_ ?_
   rotate_left
   ·intro w'
    go_simp
    with_reducible rfl
   rotate_left
   ·simp only [Act.put, List.setIfInBounds_toArray, List.set_cons_zero, List.set_cons_succ, i64_w, i32_w]
    rfl
   refine pure_ (i := 10) (N := some 15) (v := ?_) (a' := ?_) #[true, true, true, true, true, true, true, true, true, true, true, false, false, false, false, false, false, false, false, false] rfl rfl (any_of HT_.out kr) (fun _ _ _ h => h) (Or.inl ⟨by rfl, ?_⟩) ?_ ?_
   rotate_left
   ·intro w'
    go_simp
    with_reducible rfl
   rotate_left
   ·simp only [Act.put, List.setIfInBounds_toArray, List.set_cons_zero, List.set_cons_succ, i64_w, i32_w]
    rfl
   refine take_ (i := 11) (N := some 16) (v := ?_) (a' := ?_) #[true, true, true, true, true, true, true, true, true, true, true, true, false, false, false, false, false, false, false, false] rfl rfl (take_ofW HT_.out HW_.out kr) (fun _ _ _ h => h) (Or.inl ⟨by rfl, ?_⟩) bxs ?_ ?_
   rotate_left
   ·intro w' hS
    go_simp
    with_reducible rfl
   rotate_left
   ·simp only [Act.put, List.setIfInBounds_toArray, List.set_cons_zero, List.set_cons_succ, i64_w, i32_w]
    rfl
   refine take_ (i := 12) (N := some 17) (v := ?_) (a' := ?_) #[true, true, true, true, true, true, true, true, true, true, true, true, true, false, false, false, false, false, false, false] rfl rfl (take_ofW HT_.out HW_.out kr) (fun _ _ _ h => h) (Or.inl ⟨by rfl, ?_⟩) bxs ?_ ?_
   rotate_left
   ·intro w' hS
    go_simp
    with_reducible rfl
   rotate_left
   ·simp only [Act.put, List.setIfInBounds_toArray, List.set_cons_zero, List.set_cons_succ, i64_w, i32_w]
    rfl
   refine take_ (i := 14) (N := some 19) (v := ?_) (a' := ?_) #[true, true, true, true, true, true, true, true, true, true, true, true, true, false, true, false, false, false, false, false] rfl rfl (take_ofW HT_.out HW_.out kr) (fun _ _ _ h => h) (Or.inl ⟨by rfl, ?_⟩) bxs ?_ ?_
   rotate_left
   ·intro w' hS
    go_simp
    with_reducible rfl
   rotate_left
   ·simp only [Act.put, List.setIfInBounds_toArray, List.set_cons_zero, List.set_cons_succ, i64_w, i32_w]
    rfl
   refine take_ (i := 15) (N := some 20) (v := ?_) (a' := ?_) #[true, true, true, true, true, true, true, true, true, true, true, true, true, false, true, true, false, false, false, false] rfl rfl (take_ofW HT_.out HW_.out kr) (fun _ _ _ h => h) (Or.inl ⟨by rfl, ?_⟩) bxs ?_ ?_
   rotate_left
   ·intro w' hS
    go_simp
    with_reducible rfl
   rotate_left
   ·simp only [Act.put, List.setIfInBounds_toArray, List.set_cons_zero, List.set_cons_succ, i64_w, i32_w]
    rfl
   refine one_ (i := 13) (N := some 18) #[true, true, true, true, true, true, true, true, true, true, true, true, true, true, true, true, false, false, false, false] rfl rfl (one_of HT_.out kr) (by decide) (fun K hK => ?_)
   refine goes_ Tryd.func34 kr rfl #[.agg #[.int .i64 a0_0, .int .i64 a0_1, .int .i64 a0_2, .string a0_3, .bool a0_4, .int .i64 a0_5], .agg #[.int .i64 a1_0, .int .i64 a1_1, .int .i64 a1_2, .string a1_3, .bool a1_4, .int .i64 a1_5]] (by rfl) rfl rfl ga ?_
   with_reducible refine (value_Same.calls k a0_0 a0_1 a0_2 a0_3 a0_4 a0_5 a1_0 a1_1 a1_2 a1_3 a1_4 a1_5 t955 _ A8.out).mono ?_
   rintro e w16 ⟨rfl, hb⟩
   refine ⟨_, rfl, ?_⟩
   replace BX := bx_call hb
   clear hb
   refine hK.out _ _ bxs (fun hHeld => ?_)
   clear hK K hHeld
   refine norm_ (a' := ?_) ?_ ?_
   rotate_left
   ·show Act.put _ (some 18) _ = _
    simp only [Act.put, List.setIfInBounds_toArray, List.set_cons_zero, List.set_cons_succ, i64_w, i32_w]
    rfl
   refine one_ (i := 16) (N := some 21) #[true, true, true, true, true, true, true, true, true, true, true, true, true, true, true, true, true, false, false, false] rfl rfl (one_of HT_.out kr) (by decide) (fun K hK => ?_)
   refine goes_ Tryd.func35 kr rfl #[.agg #[.int .i64 a0_0, .int .i64 a0_1, .int .i64 a0_2, .string a0_3, .bool a0_4, .int .i64 a0_5], .agg #[.int .i64 a1_0, .int .i64 a1_1, .int .i64 a1_2, .string a1_3, .bool a1_4, .int .i64 a1_5]] (by rfl) rfl rfl ga ?_
   with_reducible refine (whittleref2_Same.calls k a0_0 a0_1 a0_2 a0_3 a0_4 a0_5 a1_0 a1_1 a1_2 a1_3 a1_4 a1_5 t956 _ A9.out).mono ?_
   rintro e w17 ⟨rfl, hb⟩
   refine ⟨_, rfl, ?_⟩
   replace BX := bx_call hb
   clear hb
   refine hK.out _ _ bxs (fun hHeld => ?_)
   clear hK K hHeld
   refine norm_ (a' := ?_) ?_ ?_
   rotate_left
   ·show Act.put _ (some 21) _ = _
    simp only [Act.put, List.setIfInBounds_toArray, List.set_cons_zero, List.set_cons_succ, i64_w, i32_w]
    rfl
   refine pure_ (i := 17) (N := some 22) (v := ?_) (a' := ?_) #[true, true, true, true, true, true, true, true, true, true, true, true, true, true, true, true, true, true, false, false] rfl rfl (any_of HT_.out kr) (fun _ _ _ h => h) (Or.inl ⟨by rfl, ?_⟩) ?_ ?_
   rotate_left
   ·intro w'
    go_simp
    with_reducible rfl
   rotate_left
   ·simp only [Act.put, List.setIfInBounds_toArray, List.set_cons_zero, List.set_cons_succ, i64_w, i32_w]
    rfl
   refine pure_ (i := 18) (N := some 23) (v := ?_) (a' := ?_) #[true, true, true, true, true, true, true, true, true, true, true, true, true, true, true, true, true, true, true, false] rfl rfl (any_of HT_.out kr) (fun _ _ _ h => h) (Or.inl ⟨by rfl, ?_⟩) ?_ ?_
   rotate_left
   ·intro w'
    go_simp
    with_reducible rfl
   rotate_left
   ·simp only [Act.put, List.setIfInBounds_toArray, List.set_cons_zero, List.set_cons_succ, i64_w, i32_w]
    rfl
   refine pure_ (i := 19) (N := some 4) (v := ?_) (a' := ?_) #[true, true, true, true, true, true, true, true, true, true, true, true, true, true, true, true, true, true, true, true] rfl rfl (any_of HT_.out kr) (fun _ _ _ h => h) (Or.inl ⟨by rfl, ?_⟩) ?_ ?_
   rotate_left
   ·intro w'
    go_simp
    with_reducible rfl
   rotate_left
   ·simp only [Act.put, List.setIfInBounds_toArray, List.set_cons_zero, List.set_cons_succ, i64_w, i32_w]
    rfl
   refine done_ (done_of HT_.out kr) ?_
   try go_wp2
   go_ret
   exact ⟨er2, bx_bl⟩
  ·rw [if_neg c7] at H
   have c7b0 : (t953 == t954) = false := beq_eq_false_iff_ne.mpr c7
   have c7b1 : (t953 != t954) = true := bne_iff_ne.mpr c7
   exact absurd (Option.some.inj H) (by rw [HR.out]; decide)
 ·replace c4 := Bool.eq_false_iff.mpr c4
  subst c4
  have H1 : (some false) = some r := by rw [if_neg (show ¬ (false = true) by decide)] at H; exact H
  clear H
  have H := H1
  clear H1
  exact absurd (Option.some.inj H) (by rw [HR.out]; decide)
end
end Go.Proofs.YtmakkdlkgfgaoaaDoor.F
