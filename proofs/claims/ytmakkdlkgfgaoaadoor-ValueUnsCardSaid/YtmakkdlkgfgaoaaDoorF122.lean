-- Laid by program (wip/tools/genv.sh, pack.py, merge.py of this repo) out of the translation; Lean checks it.
import Derived.Test.YtmakkdlkgfgaoaaDoorF0
import Derived.Test.YtmakkdlkgfgaoaaDoorC0
import Derived.Test.YtmakkdlkgfgaoaaDoorF100
import Derived.Test.YtmakkdlkgfgaoaaDoorF104
import Derived.Test.YtmakkdlkgfgaoaaDoorF108
import Derived.Test.YtmakkdlkgfgaoaaDoorF112
namespace Go.Proofs.YtmakkdlkgfgaoaaDoor.F
open Go.RowKit Go.Proofs.YtmakkdlkgfgaoaaDoorW.PrintWords Go.Proofs.YtmakkdlkgfgaoaaDoorW.PrintLast Go.Proofs.YtmakkdlkgfgaoaaDoorW.PrintMore
attribute [local go_sem] max2_int min2_int max_two min_two max_three min_three max_four min_four
attribute [local go_sem high] bx_cell bx_frozen
set_option linter.unusedVariables false
set_option linter.unusedSimpArgs false

section
attribute [local go_sem high] eqA25
/-! ### whittlelaw2_ValueUns: function 12 -/
def whittlelaw2_ValueUns.f (k : Nat) (a0 : Int) (a1_0 : Int) (a1_1 : Int) (a1_2 : Int) (a1_3 : ByteArray) (a1_4 : Bool) (a1_5 : Int) : Option (Bool) := (whittlelaw2_able.f k).bind fun t1312 => (if t1312 = true then ((value_Un.f k a0 a1_0 a1_1 a1_2 a1_3 a1_4 a1_5).bind fun bt1313 => ((whittleref2_Un.f k a0 a1_0 a1_1 a1_2 a1_3 a1_4 a1_5).bind fun bt1319 => (some (bt1313.1 == bt1319.1 && ((bt1313.2.1 == bt1319.2.1 && (bt1313.2.2.1 == bt1319.2.2.1)) && (bt1313.2.2.2.1.toList == bt1319.2.2.2.1.toList && (bt1313.2.2.2.2.1 == bt1319.2.2.2.2.1 && (bt1313.2.2.2.2.2 == bt1319.2.2.2.2.2)))))))) else (some false))
theorem whittlelaw2_ValueUns.mono : ∀ a0 a1 a2 a3 a4 a5 a6 k, LeO (whittlelaw2_ValueUns.f k a0 a1 a2 a3 a4 a5 a6) (whittlelaw2_ValueUns.f (k + 1) a0 a1 a2 a3 a4 a5 a6) := by
 intro a0 a1 a2 a3 a4 a5 a6 k
 unfold whittlelaw2_ValueUns.f
 repeat' first
   | (with_reducible exact value_Un.mono _ _ _ _ _ _ _ _)
   | (with_reducible exact whittlelaw2_able.mono _)
   | (with_reducible exact whittleref2_Un.mono _ _ _ _ _ _ _ _)
   | (with_reducible exact LeO.refl _)
   | (with_reducible exact LeO.none _)
   | (with_reducible refine LeO.ite ?_ ?_)
   | (with_reducible refine LeO.bind ?_ (fun _ => ?_))
   | exact value_Un.mono _ _ _ _ _ _ _ _
   | exact whittlelaw2_able.mono _
   | exact whittleref2_Un.mono _ _ _ _ _ _ _ _
   | exact LeO.none _
   | refine LeO.ite ?_ ?_
   | refine LeO.bind ?_ (fun _ => ?_)
def whittlelaw2_ValueUns.T1 : Bool × List (List Nat × List Nat) := (true, [([], []), ([0, 0], [0]), ([1], [1]), ([1], [1]), ([2, 3, 1, 1], [1, 2, 3]), ([1], [1]), ([1], [1]), ([5, 6, 4, 1], [1, 5, 6]), ([4, 7, 1], [1, 4, 7]), ([1, 8], [1, 8]), ([9, 7, 0, 1, 2, 3, 4, 5, 6, 7, 8, 9], [9])])
def whittlelaw2_ValueUns.B1 : List Nat := [0, 1, 3, 3, 15, 3, 3, 127, 255, 511, 1023]
theorem whittlelaw2_ValueUns.tab1 : rtab .any (opsOf Tryd.f12 1) = whittlelaw2_ValueUns.T1 := by kernel_rfl
theorem whittlelaw2_ValueUns.bits1 : waitsOk whittlelaw2_ValueUns.T1.2 whittlelaw2_ValueUns.B1 = true := by kernel_rfl
set_option maxHeartbeats 8000000 in
set_option maxRecDepth 100000 in
theorem whittlelaw2_ValueUns.calls (k : Nat) (a0 : Int) (a1_0 : Int) (a1_1 : Int) (a1_2 : Int) (a1_3 : ByteArray) (a1_4 : Bool) (a1_5 : Int) (r : Bool) (w : World) (HT0 : TabAt w) (hr0 : r = true) (h : whittlelaw2_ValueUns.f k a0 a1_0 a1_1 a1_2 a1_3 a1_4 a1_5 = some r) :
  Calls Tryd.prog 12 #[.int .i64 a0, .agg #[.int .i64 a1_0, .int .i64 a1_1, .int .i64 a1_2, .string a1_3, .bool a1_4, .int .i64 a1_5]] w fun e w' => e = .returned (.bool r) ∧ Below w.heap.size w w' := by
 have hu25 := Tryd.underlying25
 have HT := Aside0.mk HT0
 clear HT0
 have HR := Aside0.mk hr0
 clear hr0
 have BX := Bx.start w
 have H : ((whittlelaw2_able.f k).bind fun t1312 => (if t1312 = true then ((value_Un.f k a0 a1_0 a1_1 a1_2 a1_3 a1_4 a1_5).bind fun bt1313 => ((whittleref2_Un.f k a0 a1_0 a1_1 a1_2 a1_3 a1_4 a1_5).bind fun bt1319 => (some (bt1313.1 == bt1319.1 && ((bt1313.2.1 == bt1319.2.1 && (bt1313.2.2.1 == bt1319.2.2.1)) && (bt1313.2.2.2.1.toList == bt1319.2.2.2.1.toList && (bt1313.2.2.2.2.1 == bt1319.2.2.2.2.1 && (bt1313.2.2.2.2.2 == bt1319.2.2.2.2.2)))))))) else (some false))) = some r := h
 clear h
 replace H := Option.bind_eq_some_iff.mp H
 obtain ⟨t1312, A30, H⟩ := H
 replace H : (if t1312 = true then ((value_Un.f k a0 a1_0 a1_1 a1_2 a1_3 a1_4 a1_5).bind fun bt1313 => ((whittleref2_Un.f k a0 a1_0 a1_1 a1_2 a1_3 a1_4 a1_5).bind fun bt1319 => (some (bt1313.1 == bt1319.1 && ((bt1313.2.1 == bt1319.2.1 && (bt1313.2.2.1 == bt1319.2.2.1)) && (bt1313.2.2.2.1.toList == bt1319.2.2.2.1.toList && (bt1313.2.2.2.2.1 == bt1319.2.2.2.2.1 && (bt1313.2.2.2.2.2 == bt1319.2.2.2.2.2)))))))) else (some false)) = some r := H
 have A3 := Aside0.mk A30
 clear A30
 by_cases c4 : t1312 = true
 ·subst c4
  have H1 : ((value_Un.f k a0 a1_0 a1_1 a1_2 a1_3 a1_4 a1_5).bind fun bt1313 => ((whittleref2_Un.f k a0 a1_0 a1_1 a1_2 a1_3 a1_4 a1_5).bind fun bt1319 => (some (bt1313.1 == bt1319.1 && ((bt1313.2.1 == bt1319.2.1 && (bt1313.2.2.1 == bt1319.2.2.1)) && (bt1313.2.2.2.1.toList == bt1319.2.2.2.1.toList && (bt1313.2.2.2.2.1 == bt1319.2.2.2.2.1 && (bt1313.2.2.2.2.2 == bt1319.2.2.2.2.2)))))))) = some r := by rw [if_pos rfl] at H; exact H
  clear H
  have H := H1
  clear H1
  replace H := Option.bind_eq_some_iff.mp H
  obtain ⟨⟨t1313, t1314, t1315, t1316, t1317, t1318⟩, A50, H⟩ := H
  have A5 := Aside0.mk A50
  clear A50
  replace H := Option.bind_eq_some_iff.mp H
  obtain ⟨⟨t1319, t1320, t1321, t1322, t1323, t1324⟩, A60, H⟩ := H
  replace H : (some (t1313 == t1319 && ((t1314 == t1320 && (t1315 == t1321)) && (t1316.toList == t1322.toList && (t1317 == t1323 && (t1318 == t1324)))))) = some r := H
  have A6 := Aside0.mk A60
  clear A60
  clear HR
  obtain rfl := Option.some.inj H
  go_enter Tryd.func12, Tryd.ntmps12
  try go_wp2_with (first | ((with_reducible refine gate_dst (N := 3) rfl ?_); refine bxe 3 #[.int .i64 a1_0, .int .i64 a1_1, .int .i64 a1_2, .string a1_3, .bool a1_4, .int .i64 a1_5] 25 rfl rfl gr ?_; clear BX; intro gb1311 w7 GE1311 BX))
  refine startm [true] (n := 11) (ds := []) #[false, false, false, false, false, false, false, false, false, false, false] kr rfl rfl (fun BX1 => ?_); refine with_tabW whittlelaw2_ValueUns.tab1 whittlelaw2_ValueUns.bits1 (fun HT_ HW_ => ?_)
  clear BX
  have BX := BX1
  clear BX1
  generalize w7.drew = w8 at BX ⊢
  refine one_ (i := 0) (N := some 5) #[true, false, false, false, false, false, false, false, false, false, false] rfl rfl (one_of HT_.out kr) (by decide) (fun K hK => ?_)
  refine goes_ Tryd.func15 kr rfl #[] (by rfl) rfl rfl ga ?_
  with_reducible refine (whittlelaw2_able.calls k  true _ ?side1 A3.out).mono ?_
  (case side1 => exact HT.out.on bx_bl)
  rintro e w9 ⟨rfl, hb⟩
  refine ⟨_, rfl, ?_⟩
  replace BX := bx_call hb
  clear hb
  refine hK.out _ _ bxs (fun hHeld => ?_)
  clear hK K hHeld
  refine norm_ (a' := ?_) ?_ ?_
  rotate_left
  ·show Act.put _ (some 5) _ = _
   simp only [Act.put, List.setIfInBounds_toArray, List.set_cons_zero, List.set_cons_succ, i64_w, i32_w]
   rfl
  refine pure_ (i := 1) (N := some 6) (v := ?_) (a' := ?_) #[true, true, false, false, false, false, false, false, false, false, false] rfl rfl (any_of HT_.out kr) (fun _ _ _ h => h) (Or.inl ⟨by rfl, ?_⟩) ?_ ?_
  rotate_left
  ·intro w'
   go_simp
   with_reducible rfl
  rotate_left
  ·simp only [Act.put, List.setIfInBounds_toArray, List.set_cons_zero, List.set_cons_succ, i64_w, i32_w]
   rfl
  refine pure_ (i := 2) (N := some 7) (v := ?_) (a' := ?_) #[true, true, true, false, false, false, false, false, false, false, false] rfl rfl (any_of HT_.out kr) (fun _ _ _ h => h) (Or.inl ⟨by rfl, ?_⟩) ?_ ?_
  rotate_left
  ·intro w'
   go_simp
   with_reducible rfl
  rotate_left
  ·simp only [Act.put, List.setIfInBounds_toArray, List.set_cons_zero, List.set_cons_succ, i64_w, i32_w]
   rfl
  refine pure_ (i := 5) (N := some 10) (v := ?_) (a' := ?_) #[true, true, true, false, false, true, false, false, false, false, false] rfl rfl (any_of HT_.out kr) (fun _ _ _ h => h) (Or.inl ⟨by rfl, ?_⟩) ?_ ?_
  rotate_left
  ·intro w'
   go_simp
   with_reducible rfl
  rotate_left
  ·simp only [Act.put, List.setIfInBounds_toArray, List.set_cons_zero, List.set_cons_succ, i64_w, i32_w]
   rfl
  refine take_ (i := 3) (N := some 8) (v := ?_) (a' := ?_) #[true, true, true, true, false, true, false, false, false, false, false] rfl rfl (take_ofW HT_.out HW_.out kr) (fun _ _ _ h => h) (Or.inl ⟨by rfl, ?_⟩) bxs ?_ ?_
  rotate_left
  ·intro w' hS
   go_simp
   with_reducible rfl
  rotate_left
  ·simp only [Act.put, List.setIfInBounds_toArray, List.set_cons_zero, List.set_cons_succ, i64_w, i32_w]
   rfl
  refine take_ (i := 6) (N := some 11) (v := ?_) (a' := ?_) #[true, true, true, true, false, true, true, false, false, false, false] rfl rfl (take_ofW HT_.out HW_.out kr) (fun _ _ _ h => h) (Or.inl ⟨by rfl, ?_⟩) bxs ?_ ?_
  rotate_left
  ·intro w' hS
   go_simp
   with_reducible rfl
  rotate_left
  ·simp only [Act.put, List.setIfInBounds_toArray, List.set_cons_zero, List.set_cons_succ, i64_w, i32_w]
   rfl
  refine one_ (i := 4) (N := some 9) #[true, true, true, true, true, true, true, false, false, false, false] rfl rfl (one_of HT_.out kr) (by decide) (fun K hK => ?_)
  refine goes_ Tryd.func43 kr rfl #[.int .i64 a0, .agg #[.int .i64 a1_0, .int .i64 a1_1, .int .i64 a1_2, .string a1_3, .bool a1_4, .int .i64 a1_5]] (by rfl) rfl rfl ga ?_
  with_reducible refine (value_Un.calls k a0 a1_0 a1_1 a1_2 a1_3 a1_4 a1_5 t1313 t1314 t1315 t1316 t1317 t1318 _ A5.out).mono ?_
  rintro e w10 ⟨rfl, hb⟩
  refine ⟨_, rfl, ?_⟩
  replace BX := bx_call hb
  clear hb
  refine hK.out _ _ bxs (fun hHeld => ?_)
  clear hK K hHeld
  refine norm_ (a' := ?_) ?_ ?_
  rotate_left
  ·show Act.put _ (some 9) _ = _
   simp only [Act.put, List.setIfInBounds_toArray, List.set_cons_zero, List.set_cons_succ, i64_w, i32_w]
   rfl
  refine one_ (i := 7) (N := some 12) #[true, true, true, true, true, true, true, true, false, false, false] rfl rfl (one_of HT_.out kr) (by decide) (fun K hK => ?_)
  refine goes_ Tryd.func44 kr rfl #[.int .i64 a0, .agg #[.int .i64 a1_0, .int .i64 a1_1, .int .i64 a1_2, .string a1_3, .bool a1_4, .int .i64 a1_5]] (by rfl) rfl rfl ga ?_
  with_reducible refine (whittleref2_Un.calls k a0 a1_0 a1_1 a1_2 a1_3 a1_4 a1_5 t1319 t1320 t1321 t1322 t1323 t1324 _ A6.out).mono ?_
  rintro e w11 ⟨rfl, hb⟩
  refine ⟨_, rfl, ?_⟩
  replace BX := bx_call hb
  clear hb
  refine hK.out _ _ bxs (fun hHeld => ?_)
  clear hK K hHeld
  refine norm_ (a' := ?_) ?_ ?_
  rotate_left
  ·show Act.put _ (some 12) _ = _
   simp only [Act.put, List.setIfInBounds_toArray, List.set_cons_zero, List.set_cons_succ, i64_w, i32_w]
   rfl
  refine pure_ (i := 8) (N := some 13) (v := ?_) (a' := ?_) #[true, true, true, true, true, true, true, true, true, false, false] rfl rfl (any_of HT_.out kr) (fun _ _ _ h => h) (Or.inl ⟨by rfl, ?_⟩) ?_ ?_
  rotate_left
  ·intro w'
   go_simp
   with_reducible rfl
  rotate_left
  ·simp only [Act.put, List.setIfInBounds_toArray, List.set_cons_zero, List.set_cons_succ, i64_w, i32_w]
   rfl
  refine pure_ (i := 9) (N := some 14) (v := ?_) (a' := ?_) #[true, true, true, true, true, true, true, true, true, true, false] rfl rfl (any_of HT_.out kr) (fun _ _ _ h => h) (Or.inl ⟨by rfl, ?_⟩) ?_ ?_
  rotate_left
  ·intro w'
   go_simp
   with_reducible rfl
  rotate_left
  ·simp only [Act.put, List.setIfInBounds_toArray, List.set_cons_zero, List.set_cons_succ, i64_w, i32_w]
   rfl
  refine pure_ (i := 10) (N := some 4) (v := ?_) (a' := ?_) #[true, true, true, true, true, true, true, true, true, true, true] rfl rfl (any_of HT_.out kr) (fun _ _ _ h => h) (Or.inl ⟨by rfl, ?_⟩) ?_ ?_
  rotate_left
  ·intro w'
   go_simp
   with_reducible rfl
  rotate_left
  ·simp only [Act.put, List.setIfInBounds_toArray, List.set_cons_zero, List.set_cons_succ, i64_w, i32_w]
   rfl
  refine done_ (done_of HT_.out kr) ?_
  try go_wp2
  go_ret
  exact ⟨er2, bx_bl⟩
 ·replace c4 := Bool.eq_false_iff.mpr c4
  subst c4
  have H1 : (some false) = some r := by rw [if_neg (show ¬ (false = true) by decide)] at H; exact H
  clear H
  have H := H1
  clear H1
  exact absurd (Option.some.inj H) (by rw [HR.out]; decide)
end
end Go.Proofs.YtmakkdlkgfgaoaaDoor.F
