-- Laid by program (wip/tools/gen.sh of this repo) out of the translation; Lean checks it.
import Derived.Test.YtlcjfabbnclalaaDoorC0
import Derived.Test.YtlcjfabbnclalaaDoorF0
import Derived.Test.YtlcjfabbnclalaaDoorF1
import Derived.Test.YtlcjfabbnclalaaDoorF2
import Derived.Test.YtlcjfabbnclalaaDoorF3
import Derived.Test.YtlcjfabbnclalaaDoorF4
import Derived.Test.YtlcjfabbnclalaaDoorF5
import Derived.Test.YtlcjfabbnclalaaDoorF6
import Derived.Test.YtlcjfabbnclalaaDoorF15
import Derived.Test.YtlcjfabbnclalaaDoorF17
import Derived.Test.YtlcjfabbnclalaaDoorF19
import Derived.Test.YtlcjfabbnclalaaDoorF21
import Derived.Test.YtlcjfabbnclalaaDoorF23
import Derived.Test.YtlcjfabbnclalaaDoorF26
import Derived.Test.YtlcjfabbnclalaaDoorF29
import Derived.Test.YtlcjfabbnclalaaDoorF31
import Derived.Test.YtlcjfabbnclalaaDoorF34
import Derived.Test.YtlcjfabbnclalaaDoorG1
namespace Go.Proofs.YtlcjfabbnclalaaDoor.F
open Go.RowKit Go.Proofs.YtlcjfabbnclalaaDoorW.PrintWords Go.Proofs.YtlcjfabbnclalaaDoorW.PrintLast Go.Proofs.YtlcjfabbnclalaaDoorW.PrintMore
attribute [local go_sem] max2_int min2_int max_two min_two max_three min_three max_four min_four   -- for this text's walks alone
attribute [local go_sem high] bx_cell bx_frozen
set_option linter.unusedVariables false
set_option linter.unusedSimpArgs false

attribute [local go_sem high] eqA23
/-! ### whittlelaw1_NumWrong: function 19 -/
mutual
def whittlelaw1_NumWrong.j0 : Nat → Int → Bool → Int → Int → Int → Int → Option (Bool)
 | 0, _, _, _, _, _, _ => none
 | k + 1, x3, x47, x263000, x263001, x264000, x264001 => if x47 = true then ((whittlelaw1_able.f k).bind fun t266 => (some t266)) else ((whittlelaw1_zero.f).bind fun bt267 => ((num_Add.f k x264000 x264001 x263000 x263001).bind fun bt270 => ((num_Add.f k bt267.1 bt267.2 x263000 x263001).bind fun bt274 => ((num_Sub.f k x263000 x263001 x264000 x264001).bind fun bt278 => ((num_Sub.f k x263000 x263001 bt267.1 bt267.2).bind fun bt282 => ((num_Mul.f k x264000 x264001 x263000 x263001).bind fun bt286 => ((num_Mul.f k bt267.1 bt267.2 x263000 x263001).bind fun bt290 => ((num_Div.f k x264000 x264001 x263000 x263001).bind fun bt294 => ((num_Div.f k bt267.1 bt267.2 x263000 x263001).bind fun bt298 => ((num_Pow.f k x264000 x264001 x3).bind fun bt302 => ((num_Pow.f k bt267.1 bt267.2 x3).bind fun bt306 => ((num_Div.f k x263000 x263001 x264000 x264001).bind fun bt310 => ((num_Mod.f k x263000 x263001 x264000 x264001).bind fun bt314 => ((num_Sum.f k (([(⟨x263000, x263001⟩ : S23), (⟨x264000, x264001⟩ : S23)] : List (S23)))).bind fun bt321 => ((num_Sum.f k (([(⟨x263000, x263001⟩ : S23)] : List (S23)))).bind fun bt328 => (if (!(bt270.1 == bt274.1) || (!(bt270.2.1 == bt274.2.1))) = true then (whittlelaw1_NumWrong.j1 k true x263000 x263001 x264000 x264001 bt267.1 bt267.2) else (if (bt270.2.2 != bt274.2.2) = true then (whittlelaw1_NumWrong.j1 k true x263000 x263001 x264000 x264001 bt267.1 bt267.2) else (if (!(bt278.1 == bt282.1) || (!(bt278.2.1 == bt282.2.1))) = true then (whittlelaw1_NumWrong.j1 k true x263000 x263001 x264000 x264001 bt267.1 bt267.2) else (if (bt278.2.2 != bt282.2.2) = true then (whittlelaw1_NumWrong.j1 k true x263000 x263001 x264000 x264001 bt267.1 bt267.2) else (if (!(bt286.1 == bt290.1) || (!(bt286.2.1 == bt290.2.1))) = true then (whittlelaw1_NumWrong.j1 k true x263000 x263001 x264000 x264001 bt267.1 bt267.2) else (if (bt286.2.2 != bt290.2.2) = true then (whittlelaw1_NumWrong.j1 k true x263000 x263001 x264000 x264001 bt267.1 bt267.2) else (if (!(bt294.1 == bt298.1) || (!(bt294.2.1 == bt298.2.1))) = true then (whittlelaw1_NumWrong.j1 k true x263000 x263001 x264000 x264001 bt267.1 bt267.2) else (if (bt294.2.2 != bt298.2.2) = true then (whittlelaw1_NumWrong.j1 k true x263000 x263001 x264000 x264001 bt267.1 bt267.2) else (if (!(bt302.1 == bt306.1) || (!(bt302.2.1 == bt306.2.1))) = true then (whittlelaw1_NumWrong.j1 k true x263000 x263001 x264000 x264001 bt267.1 bt267.2) else (if (bt302.2.2 != bt306.2.2) = true then (whittlelaw1_NumWrong.j1 k true x263000 x263001 x264000 x264001 bt267.1 bt267.2) else (if (!(bt321.1 == bt328.1) || (!(bt321.2.1 == bt328.2.1))) = true then (whittlelaw1_NumWrong.j1 k true x263000 x263001 x264000 x264001 bt267.1 bt267.2) else (if (bt321.2.2 != bt328.2.2) = true then (whittlelaw1_NumWrong.j1 k true x263000 x263001 x264000 x264001 bt267.1 bt267.2) else (if bt310.2.2 = true then (whittlelaw1_NumWrong.j1 k true x263000 x263001 x264000 x264001 bt267.1 bt267.2) else (whittlelaw1_NumWrong.j1 k bt314.2.2 x263000 x263001 x264000 x264001 bt267.1 bt267.2)))))))))))))))))))))))))))))
def whittlelaw1_NumWrong.j1 : Nat → Bool → Int → Int → Int → Int → Int → Int → Option (Bool)
 | 0, _, _, _, _, _, _, _ => none
 | k + 1, x198, x263000, x263001, x264000, x264001, x270000, x270001 => if x198 = true then (some false) else ((num_Right.f k x264000 x264001).bind fun t332 => (if t332 = true then (some false) else ((num_Text.f k x264000 x264001).bind fun t333 => (if t333.toList = ([48] : List UInt8) then ((num_Floor.f k x264000 x264001).bind fun bt334 => (if (bt334.1 == x270000 && (bt334.2 == x270001)) = true then ((num_Neg.f k x264000 x264001).bind fun bt336 => (if (bt336.1 == x270000 && (bt336.2 == x270001)) = true then ((num_Abs.f k x264000 x264001).bind fun bt338 => (if (bt338.1 == x270000 && (bt338.2 == x270001)) = true then ((num_Cmp.f k x264000 x264001 x263000 x263001).bind fun t340 => ((num_Cmp.f k x270000 x270001 x263000 x263001).bind fun t341 => (some (t340 == t341)))) else (some false))) else (some false))) else (some false))) else (some false)))))
end
def whittlelaw1_NumWrong.f (k : Nat) (a0 : Int) (a1 : Int) (a2_0 : Int) (a2_1 : Int) (a3 : Int) : Option (Bool) := (whittlelaw1_able.f k).bind fun t264 => (if t264 = true then ((whittlelaw1_right.f k a0 a1).bind fun t265 => (whittlelaw1_NumWrong.j0 k a3 t265 a2_0 a2_1 a0 a1)) else (whittlelaw1_NumWrong.j0 k a3 true a2_0 a2_1 a0 a1))
theorem whittlelaw1_NumWrong.mono_l : ∀ k, (∀ y0 y1 y2 y3 y4 y5, LeO (whittlelaw1_NumWrong.j0 k y0 y1 y2 y3 y4 y5) (whittlelaw1_NumWrong.j0 (k + 1) y0 y1 y2 y3 y4 y5)) ∧ (∀ y0 y1 y2 y3 y4 y5 y6, LeO (whittlelaw1_NumWrong.j1 k y0 y1 y2 y3 y4 y5 y6) (whittlelaw1_NumWrong.j1 (k + 1) y0 y1 y2 y3 y4 y5 y6))
 | 0 => ⟨fun _ _ _ _ _ _ r h => by simp [whittlelaw1_NumWrong.j0] at h, fun _ _ _ _ _ _ _ r h => by simp [whittlelaw1_NumWrong.j1] at h⟩
 | k + 1 => by
  obtain ⟨ih0, ih1⟩ := whittlelaw1_NumWrong.mono_l k
  refine ⟨?_, ?_⟩
  ·intro y0 y1 y2 y3 y4 y5
   unfold whittlelaw1_NumWrong.j0
   repeat' first
   | (with_reducible exact ih0 _ _ _ _ _ _)
   | (with_reducible exact ih1 _ _ _ _ _ _ _)
   | (with_reducible exact num_Abs.mono _ _ _)
   | (with_reducible exact num_Add.mono _ _ _ _ _)
   | (with_reducible exact num_Cmp.mono _ _ _ _ _)
   | (with_reducible exact num_Div.mono _ _ _ _ _)
   | (with_reducible exact num_Floor.mono _ _ _)
   | (with_reducible exact num_Mod.mono _ _ _ _ _)
   | (with_reducible exact num_Mul.mono _ _ _ _ _)
   | (with_reducible exact num_Neg.mono _ _ _)
   | (with_reducible exact num_Pow.mono _ _ _ _)
   | (with_reducible exact num_Right.mono _ _ _)
   | (with_reducible exact num_Sub.mono _ _ _ _ _)
   | (with_reducible exact num_Sum.mono _ _)
   | (with_reducible exact num_Text.mono _ _ _)
   | (with_reducible exact whittlelaw1_able.mono _)
   | (with_reducible exact whittlelaw1_right.mono _ _ _)
   | (with_reducible exact LeO.refl _)
   | (with_reducible exact LeO.none _)
   | (with_reducible refine LeO.ite ?_ ?_)
   | (with_reducible refine LeO.bind ?_ (fun _ => ?_))
   | exact ih0 _ _ _ _ _ _
   | exact ih1 _ _ _ _ _ _ _
   | exact num_Abs.mono _ _ _
   | exact num_Add.mono _ _ _ _ _
   | exact num_Cmp.mono _ _ _ _ _
   | exact num_Div.mono _ _ _ _ _
   | exact num_Floor.mono _ _ _
   | exact num_Mod.mono _ _ _ _ _
   | exact num_Mul.mono _ _ _ _ _
   | exact num_Neg.mono _ _ _
   | exact num_Pow.mono _ _ _ _
   | exact num_Right.mono _ _ _
   | exact num_Sub.mono _ _ _ _ _
   | exact num_Sum.mono _ _
   | exact num_Text.mono _ _ _
   | exact whittlelaw1_able.mono _
   | exact whittlelaw1_right.mono _ _ _
   | exact LeO.none _
   | refine LeO.ite ?_ ?_
   | refine LeO.bind ?_ (fun _ => ?_)
  ·intro y0 y1 y2 y3 y4 y5 y6
   unfold whittlelaw1_NumWrong.j1
   repeat' first
   | (with_reducible exact ih0 _ _ _ _ _ _)
   | (with_reducible exact ih1 _ _ _ _ _ _ _)
   | (with_reducible exact num_Abs.mono _ _ _)
   | (with_reducible exact num_Add.mono _ _ _ _ _)
   | (with_reducible exact num_Cmp.mono _ _ _ _ _)
   | (with_reducible exact num_Div.mono _ _ _ _ _)
   | (with_reducible exact num_Floor.mono _ _ _)
   | (with_reducible exact num_Mod.mono _ _ _ _ _)
   | (with_reducible exact num_Mul.mono _ _ _ _ _)
   | (with_reducible exact num_Neg.mono _ _ _)
   | (with_reducible exact num_Pow.mono _ _ _ _)
   | (with_reducible exact num_Right.mono _ _ _)
   | (with_reducible exact num_Sub.mono _ _ _ _ _)
   | (with_reducible exact num_Sum.mono _ _)
   | (with_reducible exact num_Text.mono _ _ _)
   | (with_reducible exact whittlelaw1_able.mono _)
   | (with_reducible exact whittlelaw1_right.mono _ _ _)
   | (with_reducible exact LeO.refl _)
   | (with_reducible exact LeO.none _)
   | (with_reducible refine LeO.ite ?_ ?_)
   | (with_reducible refine LeO.bind ?_ (fun _ => ?_))
   | exact ih0 _ _ _ _ _ _
   | exact ih1 _ _ _ _ _ _ _
   | exact num_Abs.mono _ _ _
   | exact num_Add.mono _ _ _ _ _
   | exact num_Cmp.mono _ _ _ _ _
   | exact num_Div.mono _ _ _ _ _
   | exact num_Floor.mono _ _ _
   | exact num_Mod.mono _ _ _ _ _
   | exact num_Mul.mono _ _ _ _ _
   | exact num_Neg.mono _ _ _
   | exact num_Pow.mono _ _ _ _
   | exact num_Right.mono _ _ _
   | exact num_Sub.mono _ _ _ _ _
   | exact num_Sum.mono _ _
   | exact num_Text.mono _ _ _
   | exact whittlelaw1_able.mono _
   | exact whittlelaw1_right.mono _ _ _
   | exact LeO.none _
   | refine LeO.ite ?_ ?_
   | refine LeO.bind ?_ (fun _ => ?_)
theorem whittlelaw1_NumWrong.mono : ∀ a0 a1 a2 a3 a4 k, LeO (whittlelaw1_NumWrong.f k a0 a1 a2 a3 a4) (whittlelaw1_NumWrong.f (k + 1) a0 a1 a2 a3 a4) := by
 intro a0 a1 a2 a3 a4 k
 obtain ⟨ih0, ih1⟩ := whittlelaw1_NumWrong.mono_l k
 unfold whittlelaw1_NumWrong.f
 repeat' first
   | (with_reducible exact ih0 _ _ _ _ _ _)
   | (with_reducible exact ih1 _ _ _ _ _ _ _)
   | (with_reducible exact num_Abs.mono _ _ _)
   | (with_reducible exact num_Add.mono _ _ _ _ _)
   | (with_reducible exact num_Cmp.mono _ _ _ _ _)
   | (with_reducible exact num_Div.mono _ _ _ _ _)
   | (with_reducible exact num_Floor.mono _ _ _)
   | (with_reducible exact num_Mod.mono _ _ _ _ _)
   | (with_reducible exact num_Mul.mono _ _ _ _ _)
   | (with_reducible exact num_Neg.mono _ _ _)
   | (with_reducible exact num_Pow.mono _ _ _ _)
   | (with_reducible exact num_Right.mono _ _ _)
   | (with_reducible exact num_Sub.mono _ _ _ _ _)
   | (with_reducible exact num_Sum.mono _ _)
   | (with_reducible exact num_Text.mono _ _ _)
   | (with_reducible exact whittlelaw1_able.mono _)
   | (with_reducible exact whittlelaw1_right.mono _ _ _)
   | (with_reducible exact LeO.refl _)
   | (with_reducible exact LeO.none _)
   | (with_reducible refine LeO.ite ?_ ?_)
   | (with_reducible refine LeO.bind ?_ (fun _ => ?_))
   | exact ih0 _ _ _ _ _ _
   | exact ih1 _ _ _ _ _ _ _
   | exact num_Abs.mono _ _ _
   | exact num_Add.mono _ _ _ _ _
   | exact num_Cmp.mono _ _ _ _ _
   | exact num_Div.mono _ _ _ _ _
   | exact num_Floor.mono _ _ _
   | exact num_Mod.mono _ _ _ _ _
   | exact num_Mul.mono _ _ _ _ _
   | exact num_Neg.mono _ _ _
   | exact num_Pow.mono _ _ _ _
   | exact num_Right.mono _ _ _
   | exact num_Sub.mono _ _ _ _ _
   | exact num_Sum.mono _ _
   | exact num_Text.mono _ _ _
   | exact whittlelaw1_able.mono _
   | exact whittlelaw1_right.mono _ _ _
   | exact LeO.none _
   | refine LeO.ite ?_ ?_
   | refine LeO.bind ?_ (fun _ => ?_)
def whittlelaw1_NumWrong.T21 : Bool × List (List Nat × List Nat) := (true, [([], []), ([0], [0]), ([1], [1]), ([2, 1], [2]), ([3], [3]), ([4, 3, 3], [3, 4]), ([5, 3], [3, 5]), ([3, 6], [3, 6]), ([7, 5], [7]), ([8], [8]), ([9, 8, 8], [8, 9]), ([8], [8]), ([10, 11, 8], [8, 10, 11]), ([8, 12], [8, 12]), ([13, 10], [13]), ([14], [14]), ([15, 14, 14], [14, 15]), ([14], [14]), ([16, 17, 14], [14, 16, 17]), ([14, 18], [14, 18]), ([19, 16], [19]), ([20], [20]), ([21, 20, 20], [20, 21]), ([20], [20]), ([22, 23, 20], [20, 22, 23]), ([20, 24], [20, 24]), ([25, 22], [25]), ([26], [26]), ([26], [26]), ([27, 28, 26, 26], [26, 27, 28]), ([26], [26]), ([26], [26]), ([30, 31, 29, 26], [26, 30, 31]), ([29, 32, 26], [26, 29, 32]), ([26, 33], [26, 33]), ([34, 32, 0, 1, 2, 3, 4, 5, 6, 7, 8, 9, 10, 11, 12, 13, 14, 15, 16, 17, 18, 19, 20, 21, 22, 23, 24, 25, 26, 27, 28, 29, 30, 31, 32, 33, 34], [34])])
def whittlelaw1_NumWrong.B21 : List Nat := [0, 1, 3, 7, 15, 31, 63, 127, 255, 511, 1023, 511, 4095, 8191, 16383, 32767, 65535, 32767, 262143, 524287, 1048575, 2097151, 4194303, 2097151, 16777215, 33554431, 67108863, 134217727, 134217727, 536870911, 134217727, 134217727, 4294967295, 8589934591, 17179869183, 34359738367]
theorem whittlelaw1_NumWrong.tab21 : rtab .any (opsOf Tryd.f19 21) = whittlelaw1_NumWrong.T21 := by kernel_rfl
theorem whittlelaw1_NumWrong.bits21 : waitsOk whittlelaw1_NumWrong.T21.2 whittlelaw1_NumWrong.B21 = true := by kernel_rfl
set_option maxHeartbeats 8000000 in
set_option maxRecDepth 100000 in
theorem whittlelaw1_NumWrong.calls (k : Nat) (a0 : Int) (a1 : Int) (a2_0 : Int) (a2_1 : Int) (a3 : Int) (r : Bool) (w : World) (HT0 : TabAt w) (hr0 : r = true) (h : whittlelaw1_NumWrong.f k a0 a1 a2_0 a2_1 a3 = some r) :
  Calls Tryd.prog 19 #[.int .i64 a0, .int .i64 a1, .agg #[.int .i64 a2_0, .int .i64 a2_1], .int .i64 a3] w fun e w' => e = .returned (.bool r) ∧ Below w.heap.size w w' := by
 have hu23 := Tryd.underlying23
 have HT := Aside0.mk HT0
 clear HT0
 have HR := Aside0.mk hr0
 clear hr0
 have BX := Bx.start w
 have H : ((whittlelaw1_able.f k).bind fun t264 => (if t264 = true then ((whittlelaw1_right.f k a0 a1).bind fun t265 => (whittlelaw1_NumWrong.j0 k a3 t265 a2_0 a2_1 a0 a1)) else (whittlelaw1_NumWrong.j0 k a3 true a2_0 a2_1 a0 a1))) = some r := h
 clear h
 have HC5 := Aside0.mk H
 clear H
 go_enter Tryd.func19, Tryd.ntmps19
 go_upto_region 2 with (first | ((with_reducible refine gate_dst (N := 6) rfl ?_); refine bxe 6 #[.int .i64 a2_0, .int .i64 a2_1] 23 rfl rfl gr ?_; clear BX; intro gb262 w6 GE262 BX) | ((with_reducible refine gate_dst (N := 9) rfl ?_); refine bxe 9 #[.int .i64 0, .int .i64 0] 23 rfl rfl gr ?_; clear BX; intro gb263 w7 GE263 BX))
 (try simp only [Act.put, List.setIfInBounds_toArray, List.set_cons_zero, List.set_cons_succ])
 go_cut [47] (fun v47 wc => ∃ (kq : Nat) (x47_4 : Bool), v47 = .bool x47_4 ∧ Aside0 (whittlelaw1_NumWrong.j0 kq a3 x47_4 a2_0 a2_1 a0 a1 = some r) ∧ Aside0 (kq ≤ k) ∧ Bx w wc [(gb263, 23, #[.int .i64 a0, .int .i64 a1]), (gb262, 23, #[.int .i64 a2_0, .int .i64 a2_1])])
 case first => as_aux_lemma =>
  have H := HC5.out
  clear HC5
  replace H := Option.bind_eq_some_iff.mp H
  obtain ⟨t264, A100, H⟩ := H
  replace H : (if t264 = true then ((whittlelaw1_right.f k a0 a1).bind fun t265 => (whittlelaw1_NumWrong.j0 k a3 t265 a2_0 a2_1 a0 a1)) else (whittlelaw1_NumWrong.j0 k a3 true a2_0 a2_1 a0 a1)) = some r := H
  have A10 := Aside0.mk A100
  clear A100
  by_cases c11 : t264 = true
  ·subst c11
   have H1 : ((whittlelaw1_right.f k a0 a1).bind fun t265 => (whittlelaw1_NumWrong.j0 k a3 t265 a2_0 a2_1 a0 a1)) = some r := by rw [if_pos rfl] at H; exact H
   clear H
   have H := H1
   clear H1
   replace H := Option.bind_eq_some_iff.mp H
   obtain ⟨t265, A120, H⟩ := H
   replace H : (whittlelaw1_NumWrong.j0 k a3 t265 a2_0 a2_1 a0 a1) = some r := H
   have A12 := Aside0.mk A120
   clear A120
   have H' := Aside0.mk H
   clear H
   go_wp2_with (first | ((with_reducible refine gate_callee (f := 22) rfl ?_); refine goesL_ (some 42) rfl rfl Tryd.func22 kr rfl #[] rfl ga ?_; (with_reducible refine (whittlelaw1_able.calls k  true _ ?side1 A10.out).mono ?_); (case side1 => exact HT.out.on bx_bl); rintro e w13 ⟨rfl, hb⟩; refine ⟨_, rfl, ?_⟩; replace BX := bx_call hb; clear hb) | (go_at_call 31; (with_reducible refine (whittlelaw1_right.calls k a0 a1 t265 _ A12.out).mono ?_); rintro e w16 ⟨rfl, hb⟩; replace BX := bx_call hb; clear hb))
   go_meet
   case rel => exact ⟨_, (t265), er, H', ⟨by first | omega | exact Nat.le_refl _⟩, bxs⟩
  ·replace c11 := Bool.eq_false_iff.mpr c11
   subst c11
   have H1 : (whittlelaw1_NumWrong.j0 k a3 true a2_0 a2_1 a0 a1) = some r := by rw [if_neg (show ¬ (false = true) by decide)] at H; exact H
   clear H
   have H := H1
   clear H1
   have H' := Aside0.mk H
   clear H
   go_wp2_with (first | ((with_reducible refine gate_callee (f := 22) rfl ?_); refine goesL_ (some 42) rfl rfl Tryd.func22 kr rfl #[] rfl ga ?_; (with_reducible refine (whittlelaw1_able.calls k  false _ ?side1 A10.out).mono ?_); (case side1 => exact HT.out.on bx_bl); rintro e w17 ⟨rfl, hb⟩; refine ⟨_, rfl, ?_⟩; replace BX := bx_call hb; clear hb))
   go_meet
   case rel => exact ⟨_, (true), er, H', ⟨by first | omega | exact Nat.le_refl _⟩, bxs⟩
 case rest => as_aux_lemma =>
  clear HC5
  try clear c1
  try clear c2
  try clear p2
  try clear c8
  try clear c11
  try clear c14
  obtain ⟨kq, x47_4, rfl, HA, HJ4, BX⟩ := hcut
  cases kq with
  | zero => exact absurd HA.out (by simp [whittlelaw1_NumWrong.j0])
  | succ kj4 =>
   have H := HA.out
   clear HA
   simp only [whittlelaw1_NumWrong.j0] at H
   by_cases c18 : x47_4 = true
   ·subst c18
    have H1 : ((whittlelaw1_able.f kj4).bind fun t266 => (some t266)) = some r := by rw [if_pos rfl] at H; exact H
    clear H
    have H := H1
    clear H1
    replace H := Option.bind_eq_some_iff.mp H
    obtain ⟨t266, A190, H⟩ := H
    replace H : (some t266) = some r := H
    have A19 := Aside0.mk A190
    clear A190
    clear HR
    obtain rfl := Option.some.inj H
    go_wp2_with (first | ((with_reducible refine gate_callee (f := 22) rfl ?_); refine goesL_ (some 48) rfl rfl Tryd.func22 kr rfl #[] rfl ga ?_; (with_reducible refine (whittlelaw1_able.calls kj4  t266 _ ?side1 A19.out).mono ?_); (case side1 => exact HT.out.on bx_bl); rintro e w20 ⟨rfl, hb⟩; refine ⟨_, rfl, ?_⟩; replace BX := bx_call hb; clear hb))
    go_ret
    exact ⟨er2, bx_bl⟩
   ·replace c18 := Bool.eq_false_iff.mpr c18
    subst c18
    have H1 : ((whittlelaw1_zero.f).bind fun bt267 => ((num_Add.f kj4 a0 a1 a2_0 a2_1).bind fun bt270 => ((num_Add.f kj4 bt267.1 bt267.2 a2_0 a2_1).bind fun bt274 => ((num_Sub.f kj4 a2_0 a2_1 a0 a1).bind fun bt278 => ((num_Sub.f kj4 a2_0 a2_1 bt267.1 bt267.2).bind fun bt282 => ((num_Mul.f kj4 a0 a1 a2_0 a2_1).bind fun bt286 => ((num_Mul.f kj4 bt267.1 bt267.2 a2_0 a2_1).bind fun bt290 => ((num_Div.f kj4 a0 a1 a2_0 a2_1).bind fun bt294 => ((num_Div.f kj4 bt267.1 bt267.2 a2_0 a2_1).bind fun bt298 => ((num_Pow.f kj4 a0 a1 a3).bind fun bt302 => ((num_Pow.f kj4 bt267.1 bt267.2 a3).bind fun bt306 => ((num_Div.f kj4 a2_0 a2_1 a0 a1).bind fun bt310 => ((num_Mod.f kj4 a2_0 a2_1 a0 a1).bind fun bt314 => ((num_Sum.f kj4 (([(⟨a2_0, a2_1⟩ : S23), (⟨a0, a1⟩ : S23)] : List (S23)))).bind fun bt321 => ((num_Sum.f kj4 (([(⟨a2_0, a2_1⟩ : S23)] : List (S23)))).bind fun bt328 => (if (!(bt270.1 == bt274.1) || (!(bt270.2.1 == bt274.2.1))) = true then (whittlelaw1_NumWrong.j1 kj4 true a2_0 a2_1 a0 a1 bt267.1 bt267.2) else (if (bt270.2.2 != bt274.2.2) = true then (whittlelaw1_NumWrong.j1 kj4 true a2_0 a2_1 a0 a1 bt267.1 bt267.2) else (if (!(bt278.1 == bt282.1) || (!(bt278.2.1 == bt282.2.1))) = true then (whittlelaw1_NumWrong.j1 kj4 true a2_0 a2_1 a0 a1 bt267.1 bt267.2) else (if (bt278.2.2 != bt282.2.2) = true then (whittlelaw1_NumWrong.j1 kj4 true a2_0 a2_1 a0 a1 bt267.1 bt267.2) else (if (!(bt286.1 == bt290.1) || (!(bt286.2.1 == bt290.2.1))) = true then (whittlelaw1_NumWrong.j1 kj4 true a2_0 a2_1 a0 a1 bt267.1 bt267.2) else (if (bt286.2.2 != bt290.2.2) = true then (whittlelaw1_NumWrong.j1 kj4 true a2_0 a2_1 a0 a1 bt267.1 bt267.2) else (if (!(bt294.1 == bt298.1) || (!(bt294.2.1 == bt298.2.1))) = true then (whittlelaw1_NumWrong.j1 kj4 true a2_0 a2_1 a0 a1 bt267.1 bt267.2) else (if (bt294.2.2 != bt298.2.2) = true then (whittlelaw1_NumWrong.j1 kj4 true a2_0 a2_1 a0 a1 bt267.1 bt267.2) else (if (!(bt302.1 == bt306.1) || (!(bt302.2.1 == bt306.2.1))) = true then (whittlelaw1_NumWrong.j1 kj4 true a2_0 a2_1 a0 a1 bt267.1 bt267.2) else (if (bt302.2.2 != bt306.2.2) = true then (whittlelaw1_NumWrong.j1 kj4 true a2_0 a2_1 a0 a1 bt267.1 bt267.2) else (if (!(bt321.1 == bt328.1) || (!(bt321.2.1 == bt328.2.1))) = true then (whittlelaw1_NumWrong.j1 kj4 true a2_0 a2_1 a0 a1 bt267.1 bt267.2) else (if (bt321.2.2 != bt328.2.2) = true then (whittlelaw1_NumWrong.j1 kj4 true a2_0 a2_1 a0 a1 bt267.1 bt267.2) else (if bt310.2.2 = true then (whittlelaw1_NumWrong.j1 kj4 true a2_0 a2_1 a0 a1 bt267.1 bt267.2) else (whittlelaw1_NumWrong.j1 kj4 bt314.2.2 a2_0 a2_1 a0 a1 bt267.1 bt267.2))))))))))))))))))))))))))))) = some r := by rw [if_neg (show ¬ (false = true) by decide)] at H; exact H
    clear H
    have H := H1
    clear H1
    replace H := Option.bind_eq_some_iff.mp H
    obtain ⟨⟨t267, t268⟩, A210, H⟩ := H
    have A21 := Aside0.mk A210
    clear A210
    replace H := Option.bind_eq_some_iff.mp H
    obtain ⟨⟨t270, t271, t272⟩, A220, H⟩ := H
    have A22 := Aside0.mk A220
    clear A220
    replace H := Option.bind_eq_some_iff.mp H
    obtain ⟨⟨t274, t275, t276⟩, A230, H⟩ := H
    have A23 := Aside0.mk A230
    clear A230
    replace H := Option.bind_eq_some_iff.mp H
    obtain ⟨⟨t278, t279, t280⟩, A240, H⟩ := H
    have A24 := Aside0.mk A240
    clear A240
    replace H := Option.bind_eq_some_iff.mp H
    obtain ⟨⟨t282, t283, t284⟩, A250, H⟩ := H
    have A25 := Aside0.mk A250
    clear A250
    replace H := Option.bind_eq_some_iff.mp H
    obtain ⟨⟨t286, t287, t288⟩, A260, H⟩ := H
    have A26 := Aside0.mk A260
    clear A260
    replace H := Option.bind_eq_some_iff.mp H
    obtain ⟨⟨t290, t291, t292⟩, A270, H⟩ := H
    have A27 := Aside0.mk A270
    clear A270
    replace H := Option.bind_eq_some_iff.mp H
    obtain ⟨⟨t294, t295, t296⟩, A280, H⟩ := H
    have A28 := Aside0.mk A280
    clear A280
    replace H := Option.bind_eq_some_iff.mp H
    obtain ⟨⟨t298, t299, t300⟩, A290, H⟩ := H
    have A29 := Aside0.mk A290
    clear A290
    replace H := Option.bind_eq_some_iff.mp H
    obtain ⟨⟨t302, t303, t304⟩, A300, H⟩ := H
    have A30 := Aside0.mk A300
    clear A300
    replace H := Option.bind_eq_some_iff.mp H
    obtain ⟨⟨t306, t307, t308⟩, A310, H⟩ := H
    have A31 := Aside0.mk A310
    clear A310
    replace H := Option.bind_eq_some_iff.mp H
    obtain ⟨⟨t310, t311, t312⟩, A320, H⟩ := H
    have A32 := Aside0.mk A320
    clear A320
    replace H := Option.bind_eq_some_iff.mp H
    obtain ⟨⟨t314, t315, t316⟩, A330, H⟩ := H
    replace H : ((num_Sum.f kj4 (([(⟨a2_0, a2_1⟩ : S23), (⟨a0, a1⟩ : S23)] : List (S23)))).bind fun bt321 => ((num_Sum.f kj4 (([(⟨a2_0, a2_1⟩ : S23)] : List (S23)))).bind fun bt328 => (if (!(t270 == t274) || (!(t271 == t275))) = true then (whittlelaw1_NumWrong.j1 kj4 true a2_0 a2_1 a0 a1 t267 t268) else (if (t272 != t276) = true then (whittlelaw1_NumWrong.j1 kj4 true a2_0 a2_1 a0 a1 t267 t268) else (if (!(t278 == t282) || (!(t279 == t283))) = true then (whittlelaw1_NumWrong.j1 kj4 true a2_0 a2_1 a0 a1 t267 t268) else (if (t280 != t284) = true then (whittlelaw1_NumWrong.j1 kj4 true a2_0 a2_1 a0 a1 t267 t268) else (if (!(t286 == t290) || (!(t287 == t291))) = true then (whittlelaw1_NumWrong.j1 kj4 true a2_0 a2_1 a0 a1 t267 t268) else (if (t288 != t292) = true then (whittlelaw1_NumWrong.j1 kj4 true a2_0 a2_1 a0 a1 t267 t268) else (if (!(t294 == t298) || (!(t295 == t299))) = true then (whittlelaw1_NumWrong.j1 kj4 true a2_0 a2_1 a0 a1 t267 t268) else (if (t296 != t300) = true then (whittlelaw1_NumWrong.j1 kj4 true a2_0 a2_1 a0 a1 t267 t268) else (if (!(t302 == t306) || (!(t303 == t307))) = true then (whittlelaw1_NumWrong.j1 kj4 true a2_0 a2_1 a0 a1 t267 t268) else (if (t304 != t308) = true then (whittlelaw1_NumWrong.j1 kj4 true a2_0 a2_1 a0 a1 t267 t268) else (if (!(bt321.1 == bt328.1) || (!(bt321.2.1 == bt328.2.1))) = true then (whittlelaw1_NumWrong.j1 kj4 true a2_0 a2_1 a0 a1 t267 t268) else (if (bt321.2.2 != bt328.2.2) = true then (whittlelaw1_NumWrong.j1 kj4 true a2_0 a2_1 a0 a1 t267 t268) else (if t312 = true then (whittlelaw1_NumWrong.j1 kj4 true a2_0 a2_1 a0 a1 t267 t268) else (whittlelaw1_NumWrong.j1 kj4 t316 a2_0 a2_1 a0 a1 t267 t268)))))))))))))))) = some r := H
    have A33 := Aside0.mk A330
    clear A330
    obtain ⟨y318, hy318⟩ : ∃ y_ : List (S23), y_ = (([(⟨a2_0, a2_1⟩ : S23), (⟨a0, a1⟩ : S23)] : List (S23))) := ⟨_, rfl⟩
    replace H : ((num_Sum.f kj4 y318).bind fun bt321 => ((num_Sum.f kj4 (([(⟨a2_0, a2_1⟩ : S23)] : List (S23)))).bind fun bt328 => (if (!(t270 == t274) || (!(t271 == t275))) = true then (whittlelaw1_NumWrong.j1 kj4 true a2_0 a2_1 a0 a1 t267 t268) else (if (t272 != t276) = true then (whittlelaw1_NumWrong.j1 kj4 true a2_0 a2_1 a0 a1 t267 t268) else (if (!(t278 == t282) || (!(t279 == t283))) = true then (whittlelaw1_NumWrong.j1 kj4 true a2_0 a2_1 a0 a1 t267 t268) else (if (t280 != t284) = true then (whittlelaw1_NumWrong.j1 kj4 true a2_0 a2_1 a0 a1 t267 t268) else (if (!(t286 == t290) || (!(t287 == t291))) = true then (whittlelaw1_NumWrong.j1 kj4 true a2_0 a2_1 a0 a1 t267 t268) else (if (t288 != t292) = true then (whittlelaw1_NumWrong.j1 kj4 true a2_0 a2_1 a0 a1 t267 t268) else (if (!(t294 == t298) || (!(t295 == t299))) = true then (whittlelaw1_NumWrong.j1 kj4 true a2_0 a2_1 a0 a1 t267 t268) else (if (t296 != t300) = true then (whittlelaw1_NumWrong.j1 kj4 true a2_0 a2_1 a0 a1 t267 t268) else (if (!(t302 == t306) || (!(t303 == t307))) = true then (whittlelaw1_NumWrong.j1 kj4 true a2_0 a2_1 a0 a1 t267 t268) else (if (t304 != t308) = true then (whittlelaw1_NumWrong.j1 kj4 true a2_0 a2_1 a0 a1 t267 t268) else (if (!(bt321.1 == bt328.1) || (!(bt321.2.1 == bt328.2.1))) = true then (whittlelaw1_NumWrong.j1 kj4 true a2_0 a2_1 a0 a1 t267 t268) else (if (bt321.2.2 != bt328.2.2) = true then (whittlelaw1_NumWrong.j1 kj4 true a2_0 a2_1 a0 a1 t267 t268) else (if t312 = true then (whittlelaw1_NumWrong.j1 kj4 true a2_0 a2_1 a0 a1 t267 t268) else (whittlelaw1_NumWrong.j1 kj4 t316 a2_0 a2_1 a0 a1 t267 t268)))))))))))))))) = some r := by first | (rw [hy318]; with_reducible exact H) | (have H2_ := (Option.bind_some _ _).symm.trans H; rw [hy318]; with_reducible exact H2_) | (have H2_ := (Option.bind_some _ _).symm.trans H; with_reducible exact H2_) | with_reducible exact H | (rw [hy318]; exact H) | exact H
    have Ny318 := Aside0.mk hy318
    clear hy318
    replace H := Option.bind_eq_some_iff.mp H
    obtain ⟨⟨t321, t322, t323⟩, A340, H⟩ := H
    replace H : ((num_Sum.f kj4 (([(⟨a2_0, a2_1⟩ : S23)] : List (S23)))).bind fun bt328 => (if (!(t270 == t274) || (!(t271 == t275))) = true then (whittlelaw1_NumWrong.j1 kj4 true a2_0 a2_1 a0 a1 t267 t268) else (if (t272 != t276) = true then (whittlelaw1_NumWrong.j1 kj4 true a2_0 a2_1 a0 a1 t267 t268) else (if (!(t278 == t282) || (!(t279 == t283))) = true then (whittlelaw1_NumWrong.j1 kj4 true a2_0 a2_1 a0 a1 t267 t268) else (if (t280 != t284) = true then (whittlelaw1_NumWrong.j1 kj4 true a2_0 a2_1 a0 a1 t267 t268) else (if (!(t286 == t290) || (!(t287 == t291))) = true then (whittlelaw1_NumWrong.j1 kj4 true a2_0 a2_1 a0 a1 t267 t268) else (if (t288 != t292) = true then (whittlelaw1_NumWrong.j1 kj4 true a2_0 a2_1 a0 a1 t267 t268) else (if (!(t294 == t298) || (!(t295 == t299))) = true then (whittlelaw1_NumWrong.j1 kj4 true a2_0 a2_1 a0 a1 t267 t268) else (if (t296 != t300) = true then (whittlelaw1_NumWrong.j1 kj4 true a2_0 a2_1 a0 a1 t267 t268) else (if (!(t302 == t306) || (!(t303 == t307))) = true then (whittlelaw1_NumWrong.j1 kj4 true a2_0 a2_1 a0 a1 t267 t268) else (if (t304 != t308) = true then (whittlelaw1_NumWrong.j1 kj4 true a2_0 a2_1 a0 a1 t267 t268) else (if (!(t321 == bt328.1) || (!(t322 == bt328.2.1))) = true then (whittlelaw1_NumWrong.j1 kj4 true a2_0 a2_1 a0 a1 t267 t268) else (if (t323 != bt328.2.2) = true then (whittlelaw1_NumWrong.j1 kj4 true a2_0 a2_1 a0 a1 t267 t268) else (if t312 = true then (whittlelaw1_NumWrong.j1 kj4 true a2_0 a2_1 a0 a1 t267 t268) else (whittlelaw1_NumWrong.j1 kj4 t316 a2_0 a2_1 a0 a1 t267 t268))))))))))))))) = some r := H
    have A34 := Aside0.mk A340
    clear A340
    obtain ⟨y325, hy325⟩ : ∃ y_ : List (S23), y_ = (([(⟨a2_0, a2_1⟩ : S23)] : List (S23))) := ⟨_, rfl⟩
    replace H : ((num_Sum.f kj4 y325).bind fun bt328 => (if (!(t270 == t274) || (!(t271 == t275))) = true then (whittlelaw1_NumWrong.j1 kj4 true a2_0 a2_1 a0 a1 t267 t268) else (if (t272 != t276) = true then (whittlelaw1_NumWrong.j1 kj4 true a2_0 a2_1 a0 a1 t267 t268) else (if (!(t278 == t282) || (!(t279 == t283))) = true then (whittlelaw1_NumWrong.j1 kj4 true a2_0 a2_1 a0 a1 t267 t268) else (if (t280 != t284) = true then (whittlelaw1_NumWrong.j1 kj4 true a2_0 a2_1 a0 a1 t267 t268) else (if (!(t286 == t290) || (!(t287 == t291))) = true then (whittlelaw1_NumWrong.j1 kj4 true a2_0 a2_1 a0 a1 t267 t268) else (if (t288 != t292) = true then (whittlelaw1_NumWrong.j1 kj4 true a2_0 a2_1 a0 a1 t267 t268) else (if (!(t294 == t298) || (!(t295 == t299))) = true then (whittlelaw1_NumWrong.j1 kj4 true a2_0 a2_1 a0 a1 t267 t268) else (if (t296 != t300) = true then (whittlelaw1_NumWrong.j1 kj4 true a2_0 a2_1 a0 a1 t267 t268) else (if (!(t302 == t306) || (!(t303 == t307))) = true then (whittlelaw1_NumWrong.j1 kj4 true a2_0 a2_1 a0 a1 t267 t268) else (if (t304 != t308) = true then (whittlelaw1_NumWrong.j1 kj4 true a2_0 a2_1 a0 a1 t267 t268) else (if (!(t321 == bt328.1) || (!(t322 == bt328.2.1))) = true then (whittlelaw1_NumWrong.j1 kj4 true a2_0 a2_1 a0 a1 t267 t268) else (if (t323 != bt328.2.2) = true then (whittlelaw1_NumWrong.j1 kj4 true a2_0 a2_1 a0 a1 t267 t268) else (if t312 = true then (whittlelaw1_NumWrong.j1 kj4 true a2_0 a2_1 a0 a1 t267 t268) else (whittlelaw1_NumWrong.j1 kj4 t316 a2_0 a2_1 a0 a1 t267 t268))))))))))))))) = some r := by first | (rw [hy325]; with_reducible exact H) | (have H2_ := (Option.bind_some _ _).symm.trans H; rw [hy325]; with_reducible exact H2_) | (have H2_ := (Option.bind_some _ _).symm.trans H; with_reducible exact H2_) | with_reducible exact H | (rw [hy325]; exact H) | exact H
    have Ny325 := Aside0.mk hy325
    clear hy325
    replace H := Option.bind_eq_some_iff.mp H
    obtain ⟨⟨t328, t329, t330⟩, A350, H⟩ := H
    replace H : (if (!(t270 == t274) || (!(t271 == t275))) = true then (whittlelaw1_NumWrong.j1 kj4 true a2_0 a2_1 a0 a1 t267 t268) else (if (t272 != t276) = true then (whittlelaw1_NumWrong.j1 kj4 true a2_0 a2_1 a0 a1 t267 t268) else (if (!(t278 == t282) || (!(t279 == t283))) = true then (whittlelaw1_NumWrong.j1 kj4 true a2_0 a2_1 a0 a1 t267 t268) else (if (t280 != t284) = true then (whittlelaw1_NumWrong.j1 kj4 true a2_0 a2_1 a0 a1 t267 t268) else (if (!(t286 == t290) || (!(t287 == t291))) = true then (whittlelaw1_NumWrong.j1 kj4 true a2_0 a2_1 a0 a1 t267 t268) else (if (t288 != t292) = true then (whittlelaw1_NumWrong.j1 kj4 true a2_0 a2_1 a0 a1 t267 t268) else (if (!(t294 == t298) || (!(t295 == t299))) = true then (whittlelaw1_NumWrong.j1 kj4 true a2_0 a2_1 a0 a1 t267 t268) else (if (t296 != t300) = true then (whittlelaw1_NumWrong.j1 kj4 true a2_0 a2_1 a0 a1 t267 t268) else (if (!(t302 == t306) || (!(t303 == t307))) = true then (whittlelaw1_NumWrong.j1 kj4 true a2_0 a2_1 a0 a1 t267 t268) else (if (t304 != t308) = true then (whittlelaw1_NumWrong.j1 kj4 true a2_0 a2_1 a0 a1 t267 t268) else (if (!(t321 == t328) || (!(t322 == t329))) = true then (whittlelaw1_NumWrong.j1 kj4 true a2_0 a2_1 a0 a1 t267 t268) else (if (t323 != t330) = true then (whittlelaw1_NumWrong.j1 kj4 true a2_0 a2_1 a0 a1 t267 t268) else (if t312 = true then (whittlelaw1_NumWrong.j1 kj4 true a2_0 a2_1 a0 a1 t267 t268) else (whittlelaw1_NumWrong.j1 kj4 t316 a2_0 a2_1 a0 a1 t267 t268)))))))))))))) = some r := H
    have A35 := Aside0.mk A350
    clear A350
    have HC36 := Aside0.mk H
    clear H
    go_upto_region 19 with (first | ((with_reducible refine gate_callee (f := 32) rfl ?_); refine goesL_ (some 49) rfl rfl Tryd.func32 kr rfl #[] rfl ga ?_; (with_reducible refine (whittlelaw1_zero.calls  t267 t268 _ A21.out).mono ?_); rintro e w37 ⟨rfl, hb⟩; refine ⟨_, rfl, ?_⟩; replace BX := bx_call hb; clear hb) | ((with_reducible refine gate_dst (N := 10) rfl ?_); refine bxe 10 #[.int .i64 0, .int .i64 0] 23 rfl rfl gr ?_; clear BX; intro gb269 w38 GE269 BX) | ((with_reducible refine gate_callee (f := 33) rfl ?_); refine goesL_ (some 53) rfl rfl Tryd.func33 kr rfl #[.agg #[.int .i64 a0, .int .i64 a1], .agg #[.int .i64 a2_0, .int .i64 a2_1]] rfl ga ?_; (with_reducible refine (num_Add.calls kj4 a0 a1 a2_0 a2_1 t270 t271 t272 _ A22.out).mono ?_); rintro e w45 ⟨rfl, hb⟩; refine ⟨_, rfl, ?_⟩; replace BX := bx_call hb; clear hb) | ((with_reducible refine gate_dst (N := 11) rfl ?_); refine bxe 11 #[.int .i64 0, .int .i64 0] 23 rfl rfl gr ?_; clear BX; intro gb273 w46 GE273 BX) | ((with_reducible refine gate_callee (f := 33) rfl ?_); refine goesL_ (some 59) rfl rfl Tryd.func33 kr rfl #[.agg #[.int .i64 t267, .int .i64 t268], .agg #[.int .i64 a2_0, .int .i64 a2_1]] rfl ga ?_; (with_reducible refine (num_Add.calls kj4 t267 t268 a2_0 a2_1 t274 t275 t276 _ A23.out).mono ?_); rintro e w53 ⟨rfl, hb⟩; refine ⟨_, rfl, ?_⟩; replace BX := bx_call hb; clear hb) | ((with_reducible refine gate_dst (N := 13) rfl ?_); refine bxe 13 #[.int .i64 0, .int .i64 0] 23 rfl rfl gr ?_; clear BX; intro gb277 w54 GE277 BX) | ((with_reducible refine gate_callee (f := 35) rfl ?_); refine goesL_ (some 65) rfl rfl Tryd.func35 kr rfl #[.agg #[.int .i64 a2_0, .int .i64 a2_1], .agg #[.int .i64 a0, .int .i64 a1]] rfl ga ?_; (with_reducible refine (num_Sub.calls kj4 a2_0 a2_1 a0 a1 t278 t279 t280 _ A24.out).mono ?_); rintro e w62 ⟨rfl, hb⟩; refine ⟨_, rfl, ?_⟩; replace BX := bx_call hb; clear hb) | ((with_reducible refine gate_dst (N := 15) rfl ?_); refine bxe 15 #[.int .i64 0, .int .i64 0] 23 rfl rfl gr ?_; clear BX; intro gb281 w63 GE281 BX) | ((with_reducible refine gate_callee (f := 35) rfl ?_); refine goesL_ (some 71) rfl rfl Tryd.func35 kr rfl #[.agg #[.int .i64 a2_0, .int .i64 a2_1], .agg #[.int .i64 t267, .int .i64 t268]] rfl ga ?_; (with_reducible refine (num_Sub.calls kj4 a2_0 a2_1 t267 t268 t282 t283 t284 _ A25.out).mono ?_); rintro e w72 ⟨rfl, hb⟩; refine ⟨_, rfl, ?_⟩; replace BX := bx_call hb; clear hb) | ((with_reducible refine gate_dst (N := 17) rfl ?_); refine bxe 17 #[.int .i64 0, .int .i64 0] 23 rfl rfl gr ?_; clear BX; intro gb285 w73 GE285 BX) | ((with_reducible refine gate_callee (f := 39) rfl ?_); refine goesL_ (some 77) rfl rfl Tryd.func39 kr rfl #[.agg #[.int .i64 a0, .int .i64 a1], .agg #[.int .i64 a2_0, .int .i64 a2_1]] rfl ga ?_; (with_reducible refine (num_Mul.calls kj4 a0 a1 a2_0 a2_1 t286 t287 t288 _ A26.out).mono ?_); rintro e w83 ⟨rfl, hb⟩; refine ⟨_, rfl, ?_⟩; replace BX := bx_call hb; clear hb) | ((with_reducible refine gate_dst (N := 19) rfl ?_); refine bxe 19 #[.int .i64 0, .int .i64 0] 23 rfl rfl gr ?_; clear BX; intro gb289 w84 GE289 BX) | ((with_reducible refine gate_callee (f := 39) rfl ?_); refine goesL_ (some 83) rfl rfl Tryd.func39 kr rfl #[.agg #[.int .i64 t267, .int .i64 t268], .agg #[.int .i64 a2_0, .int .i64 a2_1]] rfl ga ?_; (with_reducible refine (num_Mul.calls kj4 t267 t268 a2_0 a2_1 t290 t291 t292 _ A27.out).mono ?_); rintro e w95 ⟨rfl, hb⟩; refine ⟨_, rfl, ?_⟩; replace BX := bx_call hb; clear hb) | ((with_reducible refine gate_dst (N := 21) rfl ?_); refine bxe 21 #[.int .i64 0, .int .i64 0] 23 rfl rfl gr ?_; clear BX; intro gb293 w96 GE293 BX) | ((with_reducible refine gate_callee (f := 41) rfl ?_); refine goesL_ (some 89) rfl rfl Tryd.func41 kr rfl #[.agg #[.int .i64 a0, .int .i64 a1], .agg #[.int .i64 a2_0, .int .i64 a2_1]] rfl ga ?_; (with_reducible refine (num_Div.calls kj4 a0 a1 a2_0 a2_1 t294 t295 t296 _ A28.out).mono ?_); rintro e w108 ⟨rfl, hb⟩; refine ⟨_, rfl, ?_⟩; replace BX := bx_call hb; clear hb) | ((with_reducible refine gate_dst (N := 23) rfl ?_); refine bxe 23 #[.int .i64 0, .int .i64 0] 23 rfl rfl gr ?_; clear BX; intro gb297 w109 GE297 BX) | ((with_reducible refine gate_callee (f := 41) rfl ?_); refine goesL_ (some 95) rfl rfl Tryd.func41 kr rfl #[.agg #[.int .i64 t267, .int .i64 t268], .agg #[.int .i64 a2_0, .int .i64 a2_1]] rfl ga ?_; (with_reducible refine (num_Div.calls kj4 t267 t268 a2_0 a2_1 t298 t299 t300 _ A29.out).mono ?_); rintro e w122 ⟨rfl, hb⟩; refine ⟨_, rfl, ?_⟩; replace BX := bx_call hb; clear hb) | ((with_reducible refine gate_dst (N := 25) rfl ?_); refine bxe 25 #[.int .i64 0, .int .i64 0] 23 rfl rfl gr ?_; clear BX; intro gb301 w123 GE301 BX) | ((with_reducible refine gate_callee (f := 43) rfl ?_); refine goesL_ (some 101) rfl rfl Tryd.func43 kr rfl #[.agg #[.int .i64 a0, .int .i64 a1], .int .i64 a3] rfl ga ?_; (with_reducible refine (num_Pow.calls kj4 a0 a1 a3 t302 t303 t304 _ A30.out).mono ?_); rintro e w136 ⟨rfl, hb⟩; refine ⟨_, rfl, ?_⟩; replace BX := bx_call hb; clear hb) | ((with_reducible refine gate_dst (N := 27) rfl ?_); refine bxe 27 #[.int .i64 0, .int .i64 0] 23 rfl rfl gr ?_; clear BX; intro gb305 w137 GE305 BX) | ((with_reducible refine gate_callee (f := 43) rfl ?_); refine goesL_ (some 107) rfl rfl Tryd.func43 kr rfl #[.agg #[.int .i64 t267, .int .i64 t268], .int .i64 a3] rfl ga ?_; (with_reducible refine (num_Pow.calls kj4 t267 t268 a3 t306 t307 t308 _ A31.out).mono ?_); rintro e w151 ⟨rfl, hb⟩; refine ⟨_, rfl, ?_⟩; replace BX := bx_call hb; clear hb) | ((with_reducible refine gate_dst (N := 29) rfl ?_); refine bxe 29 #[.int .i64 0, .int .i64 0] 23 rfl rfl gr ?_; clear BX; intro gb309 w152 GE309 BX) | ((with_reducible refine gate_callee (f := 41) rfl ?_); refine goesL_ (some 113) rfl rfl Tryd.func41 kr rfl #[.agg #[.int .i64 a2_0, .int .i64 a2_1], .agg #[.int .i64 a0, .int .i64 a1]] rfl ga ?_; (with_reducible refine (num_Div.calls kj4 a2_0 a2_1 a0 a1 t310 t311 t312 _ A32.out).mono ?_); rintro e w168 ⟨rfl, hb⟩; refine ⟨_, rfl, ?_⟩; replace BX := bx_call hb; clear hb) | ((with_reducible refine gate_dst (N := 31) rfl ?_); refine bxe 31 #[.int .i64 0, .int .i64 0] 23 rfl rfl gr ?_; clear BX; intro gb313 w169 GE313 BX) | ((with_reducible refine gate_callee (f := 49) rfl ?_); refine goesL_ (some 119) rfl rfl Tryd.func49 kr rfl #[.agg #[.int .i64 a2_0, .int .i64 a2_1], .agg #[.int .i64 a0, .int .i64 a1]] rfl ga ?_; (with_reducible refine (num_Mod.calls kj4 a2_0 a2_1 a0 a1 t314 t315 t316 _ A33.out).mono ?_); rintro e w186 ⟨rfl, hb⟩; refine ⟨_, rfl, ?_⟩; replace BX := bx_call hb; clear hb) | ((with_reducible refine gate_dst (N := 33) rfl ?_); refine bxe 33 #[.int .i64 0, .int .i64 0] 23 rfl rfl gr ?_; clear BX; intro gb317 w187 GE317 BX) | ((with_reducible refine gate_dst (N := 125) rfl ?_); refine Kd.R_lit k23 _ 23 ?hg (N := 125) ?hd (xs := ([(⟨a2_0, a2_1⟩ : S23), (⟨a0, a1⟩ : S23)] : List (S23))) (inner := [.int .i64 a2_0, .int .i64 a2_1, .int .i64 a0, .int .i64 a1]) (ok := fun _ => True) (okp := fun _ => True) ?hr ?hp (fun _ hk => hk) trivial (Below.refl _ _) (Nat.le_refl _) (by simp) ?_; (case hd => rfl); (case hg => rfl); (case hr => first | (go_simp; done) | (go_simp; rfl)); (case hp => exact (Reps.c2 (show Kd.M k23 _ _ _ (⟨a2_0, a2_1⟩ : S23) [.int .i64 a2_0, .int .i64 a2_1] from (k23_mkM _ _ _ (⟨a2_0, a2_1⟩ : S23) )) (Reps.c2 (show Kd.M k23 _ _ _ (⟨a0, a1⟩ : S23) [.int .i64 a0, .int .i64 a1] from (k23_mkM _ _ _ (⟨a0, a1⟩ : S23) )) (Reps.none _ _)))); intro v319 w205 ho206 hb hg_ hnew_; clear hg_ hnew_; (first | rw [← Ny318.out] at ho206 | (simp only [Int.reduceToNat] at ho206; rw [← Ny318.out] at ho206)); replace BX := bx_call hb; clear hb; obtain ⟨Ao207, co207, eo207⟩ := Kd.R_slice ho206; subst eo207; have HO320 := Aside0.mk (Kd.R_reads' ho206); clear ho206) | ((with_reducible refine gate_callee (f := 37) rfl ?_); refine goesL_ (some 126) rfl rfl Tryd.func37 kr rfl #[.slice Ao207 y318.length co207] rfl ga ?_; (with_reducible refine (num_Sum.calls kj4 _ _ y318 t321 t322 t323 _ ?side1 ?side2 A34.out).mono ?_); (case side1 => repeat (first | exact HO320.out.2.2 | (with_reducible refine Kd.C_alloc ?_ _) | (with_reducible refine Kd.C_drewN ?_ _) | (with_reducible refine Kd.C_drew ?_))); (case side2 => exact HO320.out.2.1); rintro e w208 ⟨rfl, hb⟩; refine ⟨_, rfl, ?_⟩; replace BX := bx_call hb; clear hb) | ((with_reducible refine gate_dst (N := 35) rfl ?_); refine bxe 35 #[.int .i64 0, .int .i64 0] 23 rfl rfl gr ?_; clear BX; intro gb324 w209 GE324 BX) | ((with_reducible refine gate_dst (N := 131) rfl ?_); refine Kd.R_lit k23 _ 23 ?hg (N := 131) ?hd (xs := ([(⟨a2_0, a2_1⟩ : S23)] : List (S23))) (inner := [.int .i64 a2_0, .int .i64 a2_1]) (ok := fun _ => True) (okp := fun _ => True) ?hr ?hp (fun _ hk => hk) trivial (Below.refl _ _) (Nat.le_refl _) (by simp) ?_; (case hd => rfl); (case hg => rfl); (case hr => first | (go_simp; done) | (go_simp; rfl)); (case hp => exact (Reps.c2 (show Kd.M k23 _ _ _ (⟨a2_0, a2_1⟩ : S23) [.int .i64 a2_0, .int .i64 a2_1] from (k23_mkM _ _ _ (⟨a2_0, a2_1⟩ : S23) )) (Reps.none _ _))); intro v326 w227 ho228 hb hg_ hnew_; clear hg_ hnew_; (first | rw [← Ny325.out] at ho228 | (simp only [Int.reduceToNat] at ho228; rw [← Ny325.out] at ho228)); replace BX := bx_call hb; clear hb; obtain ⟨Ao229, co229, eo229⟩ := Kd.R_slice ho228; subst eo229; have HO327 := Aside0.mk (Kd.R_reads' ho228); clear ho228) | ((with_reducible refine gate_callee (f := 37) rfl ?_); refine goesL_ (some 132) rfl rfl Tryd.func37 kr rfl #[.slice Ao229 y325.length co229] rfl ga ?_; (with_reducible refine (num_Sum.calls kj4 _ _ y325 t328 t329 t330 _ ?side1 ?side2 A35.out).mono ?_); (case side1 => repeat (first | exact HO327.out.2.2 | (with_reducible refine Kd.C_alloc ?_ _) | (with_reducible refine Kd.C_drewN ?_ _) | (with_reducible refine Kd.C_drew ?_))); (case side2 => exact HO327.out.2.1); rintro e w230 ⟨rfl, hb⟩; refine ⟨_, rfl, ?_⟩; replace BX := bx_call hb; clear hb) | ((with_reducible refine gate_dst (N := 37) rfl ?_); refine bxe 37 #[.int .i64 0, .int .i64 0] 23 rfl rfl gr ?_; clear BX; intro gb331 w231 GE331 BX))
    (try simp only [Act.put, List.setIfInBounds_toArray, List.set_cons_zero, List.set_cons_succ])
    go_cut [198] (fun v198 wc => ∃ (kq : Nat) (x198_35 : Bool), v198 = .bool x198_35 ∧ Aside0 (whittlelaw1_NumWrong.j1 kq x198_35 a2_0 a2_1 a0 a1 t267 t268 = some r) ∧ Aside0 (kq ≤ kj4) ∧ Bx w wc [(gb331, 23, #[.int .i64 t328, .int .i64 t329]), (gb324, 23, #[.int .i64 t321, .int .i64 t322]), (gb317, 23, #[.int .i64 t314, .int .i64 t315]), (gb313, 23, #[.int .i64 t310, .int .i64 t311]), (gb309, 23, #[.int .i64 t306, .int .i64 t307]), (gb305, 23, #[.int .i64 t302, .int .i64 t303]), (gb301, 23, #[.int .i64 t298, .int .i64 t299]), (gb297, 23, #[.int .i64 t294, .int .i64 t295]), (gb293, 23, #[.int .i64 t290, .int .i64 t291]), (gb289, 23, #[.int .i64 t286, .int .i64 t287]), (gb285, 23, #[.int .i64 t282, .int .i64 t283]), (gb281, 23, #[.int .i64 t278, .int .i64 t279]), (gb277, 23, #[.int .i64 t274, .int .i64 t275]), (gb273, 23, #[.int .i64 t270, .int .i64 t271]), (gb269, 23, #[.int .i64 t267, .int .i64 t268]), (gb263, 23, #[.int .i64 a0, .int .i64 a1]), (gb262, 23, #[.int .i64 a2_0, .int .i64 a2_1])])
    case first => as_aux_lemma =>
     have H := HC36.out
     clear HC36
     by_cases c249 : (!(t270 == t274) || (!(t271 == t275))) = true
     ·rw [if_pos c249] at H
      have c249b0 : (!(t270 == t274) || (!(t271 == t275))) = true := c249
      clear c249
      (first | rw [c249b0] | (simp only [i64_w, i32_w]; rw [c249b0]) | skip)
      exact (no_meet (g := fun k_ => whittlelaw1_NumWrong.j1 k_ true a2_0 a2_1 a0 a1 t267 t268) HR.out H (by simp only [whittlelaw1_NumWrong.j1]) (fun k_ => by simp only [whittlelaw1_NumWrong.j1]; first | exact if_pos rfl | rfl | simp)).elim
     ·rw [if_neg c249] at H
      have c249b0 : (!(t270 == t274) || (!(t271 == t275))) = false := by simpa using c249
      clear c249
      (first | rw [c249b0] | (simp only [i64_w, i32_w]; rw [c249b0]) | skip)
      by_cases c250 : (t272 != t276) = true
      ·rw [if_pos c250] at H
       have c250b0 : (t272 != t276) = true := c250
       (try (have c250b1 : decide (t272 = t276) = false := by simpa using c250))
       (try (have c250b2 : (t272 == t276) = false := by simpa using c250))
       (try (have c250b3 : ¬ (t272 = t276) := by simpa using c250))
       clear c250
       exact (no_meet (g := fun k_ => whittlelaw1_NumWrong.j1 k_ true a2_0 a2_1 a0 a1 t267 t268) HR.out H (by simp only [whittlelaw1_NumWrong.j1]) (fun k_ => by simp only [whittlelaw1_NumWrong.j1]; first | exact if_pos rfl | rfl | simp)).elim
      ·rw [if_neg c250] at H
       have c250b0 : (t272 != t276) = false := by simpa using c250
       (try (have c250b1 : decide (t272 = t276) = true := by simpa using c250))
       (try (have c250b2 : (t272 == t276) = true := by simpa using c250))
       clear c250
       by_cases c251 : (!(t278 == t282) || (!(t279 == t283))) = true
       ·rw [if_pos c251] at H
        have c251b0 : (!(t278 == t282) || (!(t279 == t283))) = true := c251
        clear c251
        exact (no_meet (g := fun k_ => whittlelaw1_NumWrong.j1 k_ true a2_0 a2_1 a0 a1 t267 t268) HR.out H (by simp only [whittlelaw1_NumWrong.j1]) (fun k_ => by simp only [whittlelaw1_NumWrong.j1]; first | exact if_pos rfl | rfl | simp)).elim
       ·rw [if_neg c251] at H
        have c251b0 : (!(t278 == t282) || (!(t279 == t283))) = false := by simpa using c251
        clear c251
        by_cases c252 : (t280 != t284) = true
        ·rw [if_pos c252] at H
         have c252b0 : (t280 != t284) = true := c252
         (try (have c252b1 : decide (t280 = t284) = false := by simpa using c252))
         (try (have c252b2 : (t280 == t284) = false := by simpa using c252))
         (try (have c252b3 : ¬ (t280 = t284) := by simpa using c252))
         clear c252
         exact (no_meet (g := fun k_ => whittlelaw1_NumWrong.j1 k_ true a2_0 a2_1 a0 a1 t267 t268) HR.out H (by simp only [whittlelaw1_NumWrong.j1]) (fun k_ => by simp only [whittlelaw1_NumWrong.j1]; first | exact if_pos rfl | rfl | simp)).elim
        ·rw [if_neg c252] at H
         have c252b0 : (t280 != t284) = false := by simpa using c252
         (try (have c252b1 : decide (t280 = t284) = true := by simpa using c252))
         (try (have c252b2 : (t280 == t284) = true := by simpa using c252))
         clear c252
         by_cases c253 : (!(t286 == t290) || (!(t287 == t291))) = true
         ·rw [if_pos c253] at H
          have c253b0 : (!(t286 == t290) || (!(t287 == t291))) = true := c253
          clear c253
          exact (no_meet (g := fun k_ => whittlelaw1_NumWrong.j1 k_ true a2_0 a2_1 a0 a1 t267 t268) HR.out H (by simp only [whittlelaw1_NumWrong.j1]) (fun k_ => by simp only [whittlelaw1_NumWrong.j1]; first | exact if_pos rfl | rfl | simp)).elim
         ·rw [if_neg c253] at H
          have c253b0 : (!(t286 == t290) || (!(t287 == t291))) = false := by simpa using c253
          clear c253
          by_cases c254 : (t288 != t292) = true
          ·rw [if_pos c254] at H
           have c254b0 : (t288 != t292) = true := c254
           (try (have c254b1 : decide (t288 = t292) = false := by simpa using c254))
           (try (have c254b2 : (t288 == t292) = false := by simpa using c254))
           (try (have c254b3 : ¬ (t288 = t292) := by simpa using c254))
           clear c254
           exact (no_meet (g := fun k_ => whittlelaw1_NumWrong.j1 k_ true a2_0 a2_1 a0 a1 t267 t268) HR.out H (by simp only [whittlelaw1_NumWrong.j1]) (fun k_ => by simp only [whittlelaw1_NumWrong.j1]; first | exact if_pos rfl | rfl | simp)).elim
          ·rw [if_neg c254] at H
           have c254b0 : (t288 != t292) = false := by simpa using c254
           (try (have c254b1 : decide (t288 = t292) = true := by simpa using c254))
           (try (have c254b2 : (t288 == t292) = true := by simpa using c254))
           clear c254
           by_cases c255 : (!(t294 == t298) || (!(t295 == t299))) = true
           ·rw [if_pos c255] at H
            have c255b0 : (!(t294 == t298) || (!(t295 == t299))) = true := c255
            clear c255
            exact (no_meet (g := fun k_ => whittlelaw1_NumWrong.j1 k_ true a2_0 a2_1 a0 a1 t267 t268) HR.out H (by simp only [whittlelaw1_NumWrong.j1]) (fun k_ => by simp only [whittlelaw1_NumWrong.j1]; first | exact if_pos rfl | rfl | simp)).elim
           ·rw [if_neg c255] at H
            have c255b0 : (!(t294 == t298) || (!(t295 == t299))) = false := by simpa using c255
            clear c255
            by_cases c256 : (t296 != t300) = true
            ·rw [if_pos c256] at H
             have c256b0 : (t296 != t300) = true := c256
             (try (have c256b1 : decide (t296 = t300) = false := by simpa using c256))
             (try (have c256b2 : (t296 == t300) = false := by simpa using c256))
             (try (have c256b3 : ¬ (t296 = t300) := by simpa using c256))
             clear c256
             exact (no_meet (g := fun k_ => whittlelaw1_NumWrong.j1 k_ true a2_0 a2_1 a0 a1 t267 t268) HR.out H (by simp only [whittlelaw1_NumWrong.j1]) (fun k_ => by simp only [whittlelaw1_NumWrong.j1]; first | exact if_pos rfl | rfl | simp)).elim
            ·rw [if_neg c256] at H
             have c256b0 : (t296 != t300) = false := by simpa using c256
             (try (have c256b1 : decide (t296 = t300) = true := by simpa using c256))
             (try (have c256b2 : (t296 == t300) = true := by simpa using c256))
             clear c256
             by_cases c257 : (!(t302 == t306) || (!(t303 == t307))) = true
             ·rw [if_pos c257] at H
              have c257b0 : (!(t302 == t306) || (!(t303 == t307))) = true := c257
              clear c257
              exact (no_meet (g := fun k_ => whittlelaw1_NumWrong.j1 k_ true a2_0 a2_1 a0 a1 t267 t268) HR.out H (by simp only [whittlelaw1_NumWrong.j1]) (fun k_ => by simp only [whittlelaw1_NumWrong.j1]; first | exact if_pos rfl | rfl | simp)).elim
             ·rw [if_neg c257] at H
              have c257b0 : (!(t302 == t306) || (!(t303 == t307))) = false := by simpa using c257
              clear c257
              by_cases c258 : (t304 != t308) = true
              ·rw [if_pos c258] at H
               have c258b0 : (t304 != t308) = true := c258
               (try (have c258b1 : decide (t304 = t308) = false := by simpa using c258))
               (try (have c258b2 : (t304 == t308) = false := by simpa using c258))
               (try (have c258b3 : ¬ (t304 = t308) := by simpa using c258))
               clear c258
               exact (no_meet (g := fun k_ => whittlelaw1_NumWrong.j1 k_ true a2_0 a2_1 a0 a1 t267 t268) HR.out H (by simp only [whittlelaw1_NumWrong.j1]) (fun k_ => by simp only [whittlelaw1_NumWrong.j1]; first | exact if_pos rfl | rfl | simp)).elim
              ·rw [if_neg c258] at H
               have c258b0 : (t304 != t308) = false := by simpa using c258
               (try (have c258b1 : decide (t304 = t308) = true := by simpa using c258))
               (try (have c258b2 : (t304 == t308) = true := by simpa using c258))
               clear c258
               by_cases c259 : (!(t321 == t328) || (!(t322 == t329))) = true
               ·rw [if_pos c259] at H
                have c259b0 : (!(t321 == t328) || (!(t322 == t329))) = true := c259
                clear c259
                exact (no_meet (g := fun k_ => whittlelaw1_NumWrong.j1 k_ true a2_0 a2_1 a0 a1 t267 t268) HR.out H (by simp only [whittlelaw1_NumWrong.j1]) (fun k_ => by simp only [whittlelaw1_NumWrong.j1]; first | exact if_pos rfl | rfl | simp)).elim
               ·rw [if_neg c259] at H
                have c259b0 : (!(t321 == t328) || (!(t322 == t329))) = false := by simpa using c259
                clear c259
                by_cases c260 : (t323 != t330) = true
                ·rw [if_pos c260] at H
                 have c260b0 : (t323 != t330) = true := c260
                 (try (have c260b1 : decide (t323 = t330) = false := by simpa using c260))
                 (try (have c260b2 : (t323 == t330) = false := by simpa using c260))
                 (try (have c260b3 : ¬ (t323 = t330) := by simpa using c260))
                 clear c260
                 exact (no_meet (g := fun k_ => whittlelaw1_NumWrong.j1 k_ true a2_0 a2_1 a0 a1 t267 t268) HR.out H (by simp only [whittlelaw1_NumWrong.j1]) (fun k_ => by simp only [whittlelaw1_NumWrong.j1]; first | exact if_pos rfl | rfl | simp)).elim
                ·rw [if_neg c260] at H
                 have c260b0 : (t323 != t330) = false := by simpa using c260
                 (try (have c260b1 : decide (t323 = t330) = true := by simpa using c260))
                 (try (have c260b2 : (t323 == t330) = true := by simpa using c260))
                 clear c260
                 by_cases c261 : t312 = true
                 ·subst c261
                  have H1 : (whittlelaw1_NumWrong.j1 kj4 true a2_0 a2_1 a0 a1 t267 t268) = some r := by rw [if_pos rfl] at H; exact H
                  clear H
                  have H := H1
                  clear H1
                  exact (no_meet (g := fun k_ => whittlelaw1_NumWrong.j1 k_ true a2_0 a2_1 a0 a1 t267 t268) HR.out H (by simp only [whittlelaw1_NumWrong.j1]) (fun k_ => by simp only [whittlelaw1_NumWrong.j1]; first | exact if_pos rfl | rfl | simp)).elim
                 ·replace c261 := Bool.eq_false_iff.mpr c261
                  subst c261
                  have H1 : (whittlelaw1_NumWrong.j1 kj4 t316 a2_0 a2_1 a0 a1 t267 t268) = some r := by rw [if_neg (show ¬ (false = true) by decide)] at H; exact H
                  clear H
                  have H := H1
                  clear H1
                  have H' := Aside0.mk H
                  clear H
                  go_wp2
                  go_meet
                  case rel => exact ⟨_, (t316), er, H', ⟨by have := HJ4.out; first | omega | exact Nat.le_refl _⟩, bxs⟩
    case rest => as_aux_lemma =>
     clear HC36
     try clear c1
     try clear c2
     try clear p2
     try clear c3
     try clear c4
     try clear c5
     try clear c6
     try clear c7
     try clear c8
     try clear c9
     try clear c10
     try clear c11
     try clear c12
     try clear c13
     try clear c14
     try clear c15
     try clear c16
     try clear c17
     try clear c18
     try clear c19
     try clear c20
     try clear c21
     try clear c22
     try clear c23
     try clear c24
     try clear c25
     try clear c26
     try clear c27
     try clear c28
     try clear c29
     try clear c30
     try clear c31
     try clear c32
     try clear c33
     try clear c34
     try clear c35
     try clear c36
     try clear c37
     try clear c38
     try clear c39
     try clear c40
     try clear c41
     try clear c42
     try clear c43
     try clear c47
     try clear c48
     try clear c49
     try clear c55
     try clear c56
     try clear c57
     try clear c58
     try clear c64
     try clear c65
     try clear c66
     try clear c67
     try clear c68
     try clear c74
     try clear c75
     try clear c76
     try clear c77
     try clear c78
     try clear c79
     try clear c85
     try clear c86
     try clear c87
     try clear c88
     try clear c89
     try clear c90
     try clear c91
     try clear c97
     try clear c98
     try clear c99
     try clear c100
     try clear c101
     try clear c102
     try clear c103
     try clear c104
     try clear c110
     try clear c111
     try clear c112
     try clear c113
     try clear c114
     try clear c115
     try clear c116
     try clear c117
     try clear c118
     try clear c124
     try clear c125
     try clear c126
     try clear c127
     try clear c128
     try clear c129
     try clear c130
     try clear c131
     try clear c132
     try clear c133
     try clear c138
     try clear c139
     try clear c140
     try clear c141
     try clear c142
     try clear c143
     try clear c144
     try clear c145
     try clear c146
     try clear c147
     try clear c148
     try clear c153
     try clear c154
     try clear c155
     try clear c156
     try clear c157
     try clear c158
     try clear c159
     try clear c160
     try clear c161
     try clear c162
     try clear c163
     try clear c164
     try clear c170
     try clear c171
     try clear c172
     try clear c173
     try clear c174
     try clear c175
     try clear c176
     try clear c177
     try clear c178
     try clear c179
     try clear c180
     try clear c181
     try clear c182
     try clear c188
     try clear c189
     try clear c190
     try clear c191
     try clear c192
     try clear c193
     try clear c194
     try clear c195
     try clear c196
     try clear c197
     try clear c198
     try clear c199
     try clear c200
     try clear c201
     try clear c210
     try clear c211
     try clear c212
     try clear c213
     try clear c214
     try clear c215
     try clear c216
     try clear c217
     try clear c218
     try clear c219
     try clear c220
     try clear c221
     try clear c222
     try clear c223
     try clear c224
     try clear c232
     try clear c233
     try clear c234
     try clear c235
     try clear c236
     try clear c237
     try clear c238
     try clear c239
     try clear c240
     try clear c241
     try clear c242
     try clear c243
     try clear c244
     try clear c245
     try clear c246
     try clear c247
     try clear c249
     try clear c249b0
     try clear c250
     try clear c250b0
     try clear c250b1
     try clear c250b2
     try clear c251
     try clear c251b0
     try clear c252
     try clear c252b0
     try clear c252b1
     try clear c252b2
     try clear c253
     try clear c253b0
     try clear c254
     try clear c254b0
     try clear c254b1
     try clear c254b2
     try clear c255
     try clear c255b0
     try clear c256
     try clear c256b0
     try clear c256b1
     try clear c256b2
     try clear c257
     try clear c257b0
     try clear c258
     try clear c258b0
     try clear c258b1
     try clear c258b2
     try clear c259
     try clear c259b0
     try clear c260
     try clear c260b0
     try clear c260b1
     try clear c260b2
     try clear c261
     try clear c262
     try clear c263
     try clear c264
     try clear c265
     try clear c266
     try clear c267
     try clear c268
     try clear c269
     try clear c270
     try clear c271
     try clear c272
     try clear c273
     try clear c274
     try clear c275
     try clear c276
     try clear c277
     try clear c279
     try clear c280
     try clear c281
     try clear c282
     try clear c283
     try clear c284
     try clear c285
     try clear c286
     try clear c287
     try clear c288
     try clear c289
     try clear c290
     try clear c291
     try clear c292
     try clear c293
     try clear c295
     try clear c296
     try clear c297
     try clear c298
     try clear c299
     try clear c300
     try clear c301
     try clear c302
     try clear c303
     try clear c304
     try clear c305
     try clear c306
     try clear c307
     try clear c308
     try clear c310
     try clear c311
     try clear c312
     try clear c313
     try clear c314
     try clear c315
     try clear c316
     try clear c317
     try clear c318
     try clear c319
     try clear c320
     try clear c321
     try clear c322
     try clear c324
     try clear c325
     try clear c326
     try clear c327
     try clear c328
     try clear c329
     try clear c330
     try clear c331
     try clear c332
     try clear c333
     try clear c334
     try clear c335
     try clear c337
     try clear c338
     try clear c339
     try clear c340
     try clear c341
     try clear c342
     try clear c343
     try clear c344
     try clear c345
     try clear c346
     try clear c347
     try clear c349
     try clear c350
     try clear c351
     try clear c352
     try clear c353
     try clear c354
     try clear c355
     try clear c356
     try clear c357
     try clear c358
     try clear c360
     try clear c361
     try clear c362
     try clear c363
     try clear c364
     try clear c365
     try clear c366
     try clear c367
     try clear c368
     try clear c370
     try clear c371
     try clear c372
     try clear c373
     try clear c374
     try clear c375
     try clear c376
     try clear c377
     try clear c379
     try clear c380
     try clear c381
     try clear c382
     try clear c383
     try clear c384
     try clear c385
     try clear c387
     try clear c388
     try clear c389
     try clear c390
     try clear c391
     try clear c392
     try clear c394
     try clear c395
     try clear c396
     try clear c397
     try clear c398
     try clear p2
     obtain ⟨kq, x198_35, rfl, HA, HJ35, BX⟩ := hcut
     cases kq with
     | zero => exact absurd HA.out (by simp [whittlelaw1_NumWrong.j1])
     | succ kj35 =>
      have H := HA.out
      clear HA
      simp only [whittlelaw1_NumWrong.j1] at H
      by_cases c400 : x198_35 = true
      ·subst c400
       have H1 : (some false) = some r := by rw [if_pos rfl] at H; exact H
       clear H
       have H := H1
       clear H1
       exact absurd (Option.some.inj H) (by rw [HR.out]; decide)
      ·replace c400 := Bool.eq_false_iff.mpr c400
       subst c400
       have H1 : ((num_Right.f kj35 a0 a1).bind fun t332 => (if t332 = true then (some false) else ((num_Text.f kj35 a0 a1).bind fun t333 => (if t333.toList = ([48] : List UInt8) then ((num_Floor.f kj35 a0 a1).bind fun bt334 => (if (bt334.1 == t267 && (bt334.2 == t268)) = true then ((num_Neg.f kj35 a0 a1).bind fun bt336 => (if (bt336.1 == t267 && (bt336.2 == t268)) = true then ((num_Abs.f kj35 a0 a1).bind fun bt338 => (if (bt338.1 == t267 && (bt338.2 == t268)) = true then ((num_Cmp.f kj35 a0 a1 a2_0 a2_1).bind fun t340 => ((num_Cmp.f kj35 t267 t268 a2_0 a2_1).bind fun t341 => (some (t340 == t341)))) else (some false))) else (some false))) else (some false))) else (some false))))) = some r := by rw [if_neg (show ¬ (false = true) by decide)] at H; exact H
       clear H
       have H := H1
       clear H1
       replace H := Option.bind_eq_some_iff.mp H
       obtain ⟨t332, A4010, H⟩ := H
       replace H : (if t332 = true then (some false) else ((num_Text.f kj35 a0 a1).bind fun t333 => (if t333.toList = ([48] : List UInt8) then ((num_Floor.f kj35 a0 a1).bind fun bt334 => (if (bt334.1 == t267 && (bt334.2 == t268)) = true then ((num_Neg.f kj35 a0 a1).bind fun bt336 => (if (bt336.1 == t267 && (bt336.2 == t268)) = true then ((num_Abs.f kj35 a0 a1).bind fun bt338 => (if (bt338.1 == t267 && (bt338.2 == t268)) = true then ((num_Cmp.f kj35 a0 a1 a2_0 a2_1).bind fun t340 => ((num_Cmp.f kj35 t267 t268 a2_0 a2_1).bind fun t341 => (some (t340 == t341)))) else (some false))) else (some false))) else (some false))) else (some false)))) = some r := H
       have A401 := Aside0.mk A4010
       clear A4010
       by_cases c402 : t332 = true
       ·subst c402
        have H1 : (some false) = some r := by rw [if_pos rfl] at H; exact H
        clear H
        have H := H1
        clear H1
        exact absurd (Option.some.inj H) (by rw [HR.out]; decide)
       ·replace c402 := Bool.eq_false_iff.mpr c402
        subst c402
        have H1 : ((num_Text.f kj35 a0 a1).bind fun t333 => (if t333.toList = ([48] : List UInt8) then ((num_Floor.f kj35 a0 a1).bind fun bt334 => (if (bt334.1 == t267 && (bt334.2 == t268)) = true then ((num_Neg.f kj35 a0 a1).bind fun bt336 => (if (bt336.1 == t267 && (bt336.2 == t268)) = true then ((num_Abs.f kj35 a0 a1).bind fun bt338 => (if (bt338.1 == t267 && (bt338.2 == t268)) = true then ((num_Cmp.f kj35 a0 a1 a2_0 a2_1).bind fun t340 => ((num_Cmp.f kj35 t267 t268 a2_0 a2_1).bind fun t341 => (some (t340 == t341)))) else (some false))) else (some false))) else (some false))) else (some false))) = some r := by rw [if_neg (show ¬ (false = true) by decide)] at H; exact H
        clear H
        have H := H1
        clear H1
        replace H := Option.bind_eq_some_iff.mp H
        obtain ⟨t333, A4030, H⟩ := H
        replace H : (if t333.toList = ([48] : List UInt8) then ((num_Floor.f kj35 a0 a1).bind fun bt334 => (if (bt334.1 == t267 && (bt334.2 == t268)) = true then ((num_Neg.f kj35 a0 a1).bind fun bt336 => (if (bt336.1 == t267 && (bt336.2 == t268)) = true then ((num_Abs.f kj35 a0 a1).bind fun bt338 => (if (bt338.1 == t267 && (bt338.2 == t268)) = true then ((num_Cmp.f kj35 a0 a1 a2_0 a2_1).bind fun t340 => ((num_Cmp.f kj35 t267 t268 a2_0 a2_1).bind fun t341 => (some (t340 == t341)))) else (some false))) else (some false))) else (some false))) else (some false)) = some r := H
        have A403 := Aside0.mk A4030
        clear A4030
        by_cases c404 : t333.toList = ([48] : List UInt8)
        ·rw [if_pos c404] at H
         have c404b0 : (t333.toList == ([48] : List UInt8)) = true := beq_iff_eq.mpr c404
         have c404b1 : (t333.toList != ([48] : List UInt8)) = false := bne_eq_false_iff_eq.mpr c404
         clear c404
         replace H := Option.bind_eq_some_iff.mp H
         obtain ⟨⟨t334, t335⟩, A4050, H⟩ := H
         replace H : (if (t334 == t267 && (t335 == t268)) = true then ((num_Neg.f kj35 a0 a1).bind fun bt336 => (if (bt336.1 == t267 && (bt336.2 == t268)) = true then ((num_Abs.f kj35 a0 a1).bind fun bt338 => (if (bt338.1 == t267 && (bt338.2 == t268)) = true then ((num_Cmp.f kj35 a0 a1 a2_0 a2_1).bind fun t340 => ((num_Cmp.f kj35 t267 t268 a2_0 a2_1).bind fun t341 => (some (t340 == t341)))) else (some false))) else (some false))) else (some false)) = some r := H
         have A405 := Aside0.mk A4050
         clear A4050
         by_cases c406 : (t334 == t267 && (t335 == t268)) = true
         ·rw [if_pos c406] at H
          have c406b0 : (t334 == t267 && (t335 == t268)) = true := c406
          (try (have c406b1 : decide (t334 = t267 && (t335 == t268)) = true := by simpa using c406))
          (try (have c406b2 : (t334 == t267 && (t335 == t268)) = true := by simpa using c406))
          clear c406
          replace H := Option.bind_eq_some_iff.mp H
          obtain ⟨⟨t336, t337⟩, A4070, H⟩ := H
          replace H : (if (t336 == t267 && (t337 == t268)) = true then ((num_Abs.f kj35 a0 a1).bind fun bt338 => (if (bt338.1 == t267 && (bt338.2 == t268)) = true then ((num_Cmp.f kj35 a0 a1 a2_0 a2_1).bind fun t340 => ((num_Cmp.f kj35 t267 t268 a2_0 a2_1).bind fun t341 => (some (t340 == t341)))) else (some false))) else (some false)) = some r := H
          have A407 := Aside0.mk A4070
          clear A4070
          by_cases c408 : (t336 == t267 && (t337 == t268)) = true
          ·rw [if_pos c408] at H
           have c408b0 : (t336 == t267 && (t337 == t268)) = true := c408
           (try (have c408b1 : decide (t336 = t267 && (t337 == t268)) = true := by simpa using c408))
           (try (have c408b2 : (t336 == t267 && (t337 == t268)) = true := by simpa using c408))
           clear c408
           replace H := Option.bind_eq_some_iff.mp H
           obtain ⟨⟨t338, t339⟩, A4090, H⟩ := H
           replace H : (if (t338 == t267 && (t339 == t268)) = true then ((num_Cmp.f kj35 a0 a1 a2_0 a2_1).bind fun t340 => ((num_Cmp.f kj35 t267 t268 a2_0 a2_1).bind fun t341 => (some (t340 == t341)))) else (some false)) = some r := H
           have A409 := Aside0.mk A4090
           clear A4090
           by_cases c410 : (t338 == t267 && (t339 == t268)) = true
           ·rw [if_pos c410] at H
            have c410b0 : (t338 == t267 && (t339 == t268)) = true := c410
            (try (have c410b1 : decide (t338 = t267 && (t339 == t268)) = true := by simpa using c410))
            (try (have c410b2 : (t338 == t267 && (t339 == t268)) = true := by simpa using c410))
            clear c410
            replace H := Option.bind_eq_some_iff.mp H
            obtain ⟨t340, A4110, H⟩ := H
            have A411 := Aside0.mk A4110
            clear A4110
            replace H := Option.bind_eq_some_iff.mp H
            obtain ⟨t341, A4120, H⟩ := H
            replace H : (some (t340 == t341)) = some r := H
            have A412 := Aside0.mk A4120
            clear A4120
            clear HR
            obtain rfl := Option.some.inj H
            try go_wp2
            refine startb (n := 36) (ds := []) #[false, false, false, false, false, false, false, false, false, false, false, false, false, false, false, false, false, false, false, false, false, false, false, false, false, false, false, false, false, false, false, false, false, false, false, false] kr rfl rfl (fun hHeld => ?_); refine with_tabW whittlelaw1_NumWrong.tab21 whittlelaw1_NumWrong.bits21 (fun HT_ HW_ => ?_)
            replace BX := hHeld
            clear hHeld
            generalize wc.drew = w413 at BX ⊢
            refine take_ (i := 0) (N := some 199) (v := ?_) (a' := ?_) #[true, false, false, false, false, false, false, false, false, false, false, false, false, false, false, false, false, false, false, false, false, false, false, false, false, false, false, false, false, false, false, false, false, false, false, false] rfl rfl (take_ofW HT_.out HW_.out kr) (fun _ _ _ h => h) (Or.inl ⟨by rfl, ?_⟩) bxs ?_ ?_
            rotate_left
            ·intro w' hS
             go_simp
             with_reducible rfl
            rotate_left
            ·simp only [Act.put, List.setIfInBounds_toArray, List.set_cons_zero, List.set_cons_succ, i64_w, i32_w]
             rfl
            refine one_ (i := 1) (N := some 200) #[true, true, false, false, false, false, false, false, false, false, false, false, false, false, false, false, false, false, false, false, false, false, false, false, false, false, false, false, false, false, false, false, false, false, false, false] rfl rfl (one_of HT_.out kr) (by decide) (fun K hK => ?_)
            refine goes_ Tryd.func23 kr rfl #[.agg #[.int .i64 a0, .int .i64 a1]] (by rfl) rfl rfl ga ?_
            with_reducible refine (num_Right.calls kj35 a0 a1 false _ A401.out).mono ?_
            rintro e w414 ⟨rfl, hb⟩
            refine ⟨_, rfl, ?_⟩
            replace BX := bx_call hb
            clear hb
            refine hK.out _ _ bxs (fun hHeld => ?_)
            clear hK K hHeld
            refine norm_ (a' := ?_) ?_ ?_
            rotate_left
            ·show Act.put _ (some 200) _ = _
             simp only [Act.put, List.setIfInBounds_toArray, List.set_cons_zero, List.set_cons_succ, i64_w, i32_w]
             rfl
            refine pure_ (i := 2) (N := some 201) (v := ?_) (a' := ?_) #[true, true, true, false, false, false, false, false, false, false, false, false, false, false, false, false, false, false, false, false, false, false, false, false, false, false, false, false, false, false, false, false, false, false, false, false] rfl rfl (any_of HT_.out kr) (fun _ _ _ h => h) (Or.inl ⟨by rfl, ?_⟩) ?_ ?_
            rotate_left
            ·intro w'
             go_simp
             with_reducible rfl
            rotate_left
            ·simp only [Act.put, List.setIfInBounds_toArray, List.set_cons_zero, List.set_cons_succ, i64_w, i32_w]
             rfl
            refine pure_ (i := 3) (N := some 202) (v := ?_) (a' := ?_) #[true, true, true, true, false, false, false, false, false, false, false, false, false, false, false, false, false, false, false, false, false, false, false, false, false, false, false, false, false, false, false, false, false, false, false, false] rfl rfl (any_of HT_.out kr) (fun _ _ _ h => h) (Or.inl ⟨by rfl, ?_⟩) ?_ ?_
            rotate_left
            ·intro w'
             go_simp
             with_reducible rfl
            rotate_left
            ·simp only [Act.put, List.setIfInBounds_toArray, List.set_cons_zero, List.set_cons_succ, i64_w, i32_w]
             rfl
            refine take_ (i := 4) (N := some 203) (v := ?_) (a' := ?_) #[true, true, true, true, true, false, false, false, false, false, false, false, false, false, false, false, false, false, false, false, false, false, false, false, false, false, false, false, false, false, false, false, false, false, false, false] rfl rfl (take_ofW HT_.out HW_.out kr) (fun _ _ _ h => h) (Or.inl ⟨by rfl, ?_⟩) bxs ?_ ?_
            rotate_left
            ·intro w' hS
             go_simp
             with_reducible rfl
            rotate_left
            ·simp only [Act.put, List.setIfInBounds_toArray, List.set_cons_zero, List.set_cons_succ, i64_w, i32_w]
             rfl
            refine one_ (i := 5) (N := some 204) #[true, true, true, true, true, true, false, false, false, false, false, false, false, false, false, false, false, false, false, false, false, false, false, false, false, false, false, false, false, false, false, false, false, false, false, false] rfl rfl (one_of HT_.out kr) (by decide) (fun K hK => ?_)
            refine goes_ Tryd.func27 kr rfl #[.agg #[.int .i64 a0, .int .i64 a1]] (by rfl) rfl rfl ga ?_
            with_reducible refine (num_Text.calls kj35 a0 a1 t333 _ ?side1 A403.out).mono ?_
            (case side1 => exact HT.out.on bx_bl)
            rintro e w415 ⟨rfl, hb⟩
            refine ⟨_, rfl, ?_⟩
            replace BX := bx_call hb
            clear hb
            refine hK.out _ _ bxs (fun hHeld => ?_)
            clear hK K hHeld
            refine norm_ (a' := ?_) ?_ ?_
            rotate_left
            ·show Act.put _ (some 204) _ = _
             simp only [Act.put, List.setIfInBounds_toArray, List.set_cons_zero, List.set_cons_succ, i64_w, i32_w]
             rfl
            refine pure_ (i := 6) (N := some 205) (v := ?_) (a' := ?_) #[true, true, true, true, true, true, true, false, false, false, false, false, false, false, false, false, false, false, false, false, false, false, false, false, false, false, false, false, false, false, false, false, false, false, false, false] rfl rfl (any_of HT_.out kr) (fun _ _ _ h => h) (Or.inl ⟨by rfl, ?_⟩) ?_ ?_
            rotate_left
            ·intro w'
             go_simp
             with_reducible rfl
            rotate_left
            ·simp only [Act.put, List.setIfInBounds_toArray, List.set_cons_zero, List.set_cons_succ, i64_w, i32_w]
             rfl
            refine pure_ (i := 7) (N := some 206) (v := ?_) (a' := ?_) #[true, true, true, true, true, true, true, true, false, false, false, false, false, false, false, false, false, false, false, false, false, false, false, false, false, false, false, false, false, false, false, false, false, false, false, false] rfl rfl (any_of HT_.out kr) (fun _ _ _ h => h) (Or.inl ⟨by rfl, ?_⟩) ?_ ?_
            rotate_left
            ·intro w'
             go_simp
             with_reducible rfl
            rotate_left
            ·simp only [Act.put, List.setIfInBounds_toArray, List.set_cons_zero, List.set_cons_succ, i64_w, i32_w]
             rfl
            refine pure_ (i := 8) (N := some 207) (v := ?_) (a' := ?_) #[true, true, true, true, true, true, true, true, true, false, false, false, false, false, false, false, false, false, false, false, false, false, false, false, false, false, false, false, false, false, false, false, false, false, false, false] rfl rfl (any_of HT_.out kr) (fun _ _ _ h => h) (Or.inl ⟨by rfl, ?_⟩) ?_ ?_
            rotate_left
            ·intro w'
             go_simp
             with_reducible rfl
            rotate_left
            ·simp only [Act.put, List.setIfInBounds_toArray, List.set_cons_zero, List.set_cons_succ, i64_w, i32_w]
             rfl
            refine take_ (i := 9) (N := some 208) (v := ?_) (a' := ?_) #[true, true, true, true, true, true, true, true, true, true, false, false, false, false, false, false, false, false, false, false, false, false, false, false, false, false, false, false, false, false, false, false, false, false, false, false] rfl rfl (take_ofW HT_.out HW_.out kr) (fun _ _ _ h => h) (Or.inl ⟨by rfl, ?_⟩) bxs ?_ ?_
            rotate_left
            ·intro w' hS
             go_simp
             with_reducible rfl
            rotate_left
            ·simp only [Act.put, List.setIfInBounds_toArray, List.set_cons_zero, List.set_cons_succ, i64_w, i32_w]
             rfl
            refine take_ (i := 11) (N := some 210) (v := ?_) (a' := ?_) #[true, true, true, true, true, true, true, true, true, true, false, true, false, false, false, false, false, false, false, false, false, false, false, false, false, false, false, false, false, false, false, false, false, false, false, false] rfl rfl (take_ofW HT_.out HW_.out kr) (fun _ _ _ h => h) (Or.inl ⟨by rfl, ?_⟩) bxs ?_ ?_
            rotate_left
            ·intro w' hS
             go_simp
             with_reducible rfl
            rotate_left
            ·simp only [Act.put, List.setIfInBounds_toArray, List.set_cons_zero, List.set_cons_succ, i64_w, i32_w]
             rfl
            refine one_ (i := 10) (N := some 209) #[true, true, true, true, true, true, true, true, true, true, true, true, false, false, false, false, false, false, false, false, false, false, false, false, false, false, false, false, false, false, false, false, false, false, false, false] rfl rfl (one_of HT_.out kr) (by decide) (fun K hK => ?_)
            refine goes_ Tryd.func47 kr rfl #[.agg #[.int .i64 a0, .int .i64 a1]] (by rfl) rfl rfl ga ?_
            with_reducible refine (num_Floor.calls kj35 a0 a1 t334 t335 _ A405.out).mono ?_
            rintro e w416 ⟨rfl, hb⟩
            refine ⟨_, rfl, ?_⟩
            replace BX := bx_call hb
            clear hb
            refine hK.out _ _ bxs (fun hHeld => ?_)
            clear hK K hHeld
            refine norm_ (a' := ?_) ?_ ?_
            rotate_left
            ·show Act.put _ (some 209) _ = _
             simp only [Act.put, List.setIfInBounds_toArray, List.set_cons_zero, List.set_cons_succ, i64_w, i32_w]
             rfl
            refine pure_ (i := 12) (N := some 211) (v := ?_) (a' := ?_) #[true, true, true, true, true, true, true, true, true, true, true, true, true, false, false, false, false, false, false, false, false, false, false, false, false, false, false, false, false, false, false, false, false, false, false, false] rfl rfl (any_of HT_.out kr) (fun _ _ _ h => h) (Or.inl ⟨by rfl, ?_⟩) ?_ ?_
            rotate_left
            ·intro w'
             go_simp
             with_reducible rfl
            rotate_left
            ·simp only [Act.put, List.setIfInBounds_toArray, List.set_cons_zero, List.set_cons_succ, i64_w, i32_w]
             rfl
            refine pure_ (i := 13) (N := some 212) (v := ?_) (a' := ?_) #[true, true, true, true, true, true, true, true, true, true, true, true, true, true, false, false, false, false, false, false, false, false, false, false, false, false, false, false, false, false, false, false, false, false, false, false] rfl rfl (any_of HT_.out kr) (fun _ _ _ h => h) (Or.inl ⟨by rfl, ?_⟩) ?_ ?_
            rotate_left
            ·intro w'
             go_simp
             with_reducible rfl
            rotate_left
            ·simp only [Act.put, List.setIfInBounds_toArray, List.set_cons_zero, List.set_cons_succ, i64_w, i32_w]
             rfl
            refine pure_ (i := 14) (N := some 213) (v := ?_) (a' := ?_) #[true, true, true, true, true, true, true, true, true, true, true, true, true, true, true, false, false, false, false, false, false, false, false, false, false, false, false, false, false, false, false, false, false, false, false, false] rfl rfl (any_of HT_.out kr) (fun _ _ _ h => h) (Or.inl ⟨by rfl, ?_⟩) ?_ ?_
            rotate_left
            ·intro w'
             go_simp
             with_reducible rfl
            rotate_left
            ·simp only [Act.put, List.setIfInBounds_toArray, List.set_cons_zero, List.set_cons_succ, i64_w, i32_w]
             rfl
            refine take_ (i := 15) (N := some 214) (v := ?_) (a' := ?_) #[true, true, true, true, true, true, true, true, true, true, true, true, true, true, true, true, false, false, false, false, false, false, false, false, false, false, false, false, false, false, false, false, false, false, false, false] rfl rfl (take_ofW HT_.out HW_.out kr) (fun _ _ _ h => h) (Or.inl ⟨by rfl, ?_⟩) bxs ?_ ?_
            rotate_left
            ·intro w' hS
             go_simp
             with_reducible rfl
            rotate_left
            ·simp only [Act.put, List.setIfInBounds_toArray, List.set_cons_zero, List.set_cons_succ, i64_w, i32_w]
             rfl
            refine take_ (i := 17) (N := some 216) (v := ?_) (a' := ?_) #[true, true, true, true, true, true, true, true, true, true, true, true, true, true, true, true, false, true, false, false, false, false, false, false, false, false, false, false, false, false, false, false, false, false, false, false] rfl rfl (take_ofW HT_.out HW_.out kr) (fun _ _ _ h => h) (Or.inl ⟨by rfl, ?_⟩) bxs ?_ ?_
            rotate_left
            ·intro w' hS
             go_simp
             with_reducible rfl
            rotate_left
            ·simp only [Act.put, List.setIfInBounds_toArray, List.set_cons_zero, List.set_cons_succ, i64_w, i32_w]
             rfl
            refine one_ (i := 16) (N := some 215) #[true, true, true, true, true, true, true, true, true, true, true, true, true, true, true, true, true, true, false, false, false, false, false, false, false, false, false, false, false, false, false, false, false, false, false, false] rfl rfl (one_of HT_.out kr) (by decide) (fun K hK => ?_)
            refine goes_ Tryd.func46 kr rfl #[.agg #[.int .i64 a0, .int .i64 a1]] (by rfl) rfl rfl ga ?_
            with_reducible refine (num_Neg.calls kj35 a0 a1 t336 t337 _ A407.out).mono ?_
            rintro e w417 ⟨rfl, hb⟩
            refine ⟨_, rfl, ?_⟩
            replace BX := bx_call hb
            clear hb
            refine hK.out _ _ bxs (fun hHeld => ?_)
            clear hK K hHeld
            refine norm_ (a' := ?_) ?_ ?_
            rotate_left
            ·show Act.put _ (some 215) _ = _
             simp only [Act.put, List.setIfInBounds_toArray, List.set_cons_zero, List.set_cons_succ, i64_w, i32_w]
             rfl
            refine pure_ (i := 18) (N := some 217) (v := ?_) (a' := ?_) #[true, true, true, true, true, true, true, true, true, true, true, true, true, true, true, true, true, true, true, false, false, false, false, false, false, false, false, false, false, false, false, false, false, false, false, false] rfl rfl (any_of HT_.out kr) (fun _ _ _ h => h) (Or.inl ⟨by rfl, ?_⟩) ?_ ?_
            rotate_left
            ·intro w'
             go_simp
             with_reducible rfl
            rotate_left
            ·simp only [Act.put, List.setIfInBounds_toArray, List.set_cons_zero, List.set_cons_succ, i64_w, i32_w]
             rfl
            refine pure_ (i := 19) (N := some 218) (v := ?_) (a' := ?_) #[true, true, true, true, true, true, true, true, true, true, true, true, true, true, true, true, true, true, true, true, false, false, false, false, false, false, false, false, false, false, false, false, false, false, false, false] rfl rfl (any_of HT_.out kr) (fun _ _ _ h => h) (Or.inl ⟨by rfl, ?_⟩) ?_ ?_
            rotate_left
            ·intro w'
             go_simp
             with_reducible rfl
            rotate_left
            ·simp only [Act.put, List.setIfInBounds_toArray, List.set_cons_zero, List.set_cons_succ, i64_w, i32_w]
             rfl
            refine pure_ (i := 20) (N := some 219) (v := ?_) (a' := ?_) #[true, true, true, true, true, true, true, true, true, true, true, true, true, true, true, true, true, true, true, true, true, false, false, false, false, false, false, false, false, false, false, false, false, false, false, false] rfl rfl (any_of HT_.out kr) (fun _ _ _ h => h) (Or.inl ⟨by rfl, ?_⟩) ?_ ?_
            rotate_left
            ·intro w'
             go_simp
             with_reducible rfl
            rotate_left
            ·simp only [Act.put, List.setIfInBounds_toArray, List.set_cons_zero, List.set_cons_succ, i64_w, i32_w]
             rfl
            refine take_ (i := 21) (N := some 220) (v := ?_) (a' := ?_) #[true, true, true, true, true, true, true, true, true, true, true, true, true, true, true, true, true, true, true, true, true, true, false, false, false, false, false, false, false, false, false, false, false, false, false, false] rfl rfl (take_ofW HT_.out HW_.out kr) (fun _ _ _ h => h) (Or.inl ⟨by rfl, ?_⟩) bxs ?_ ?_
            rotate_left
            ·intro w' hS
             go_simp
             with_reducible rfl
            rotate_left
            ·simp only [Act.put, List.setIfInBounds_toArray, List.set_cons_zero, List.set_cons_succ, i64_w, i32_w]
             rfl
            refine take_ (i := 23) (N := some 222) (v := ?_) (a' := ?_) #[true, true, true, true, true, true, true, true, true, true, true, true, true, true, true, true, true, true, true, true, true, true, false, true, false, false, false, false, false, false, false, false, false, false, false, false] rfl rfl (take_ofW HT_.out HW_.out kr) (fun _ _ _ h => h) (Or.inl ⟨by rfl, ?_⟩) bxs ?_ ?_
            rotate_left
            ·intro w' hS
             go_simp
             with_reducible rfl
            rotate_left
            ·simp only [Act.put, List.setIfInBounds_toArray, List.set_cons_zero, List.set_cons_succ, i64_w, i32_w]
             rfl
            refine one_ (i := 22) (N := some 221) #[true, true, true, true, true, true, true, true, true, true, true, true, true, true, true, true, true, true, true, true, true, true, true, true, false, false, false, false, false, false, false, false, false, false, false, false] rfl rfl (one_of HT_.out kr) (by decide) (fun K hK => ?_)
            refine goes_ Tryd.func55 kr rfl #[.agg #[.int .i64 a0, .int .i64 a1]] (by rfl) rfl rfl ga ?_
            with_reducible refine (num_Abs.calls kj35 a0 a1 t338 t339 _ A409.out).mono ?_
            rintro e w418 ⟨rfl, hb⟩
            refine ⟨_, rfl, ?_⟩
            replace BX := bx_call hb
            clear hb
            refine hK.out _ _ bxs (fun hHeld => ?_)
            clear hK K hHeld
            refine norm_ (a' := ?_) ?_ ?_
            rotate_left
            ·show Act.put _ (some 221) _ = _
             simp only [Act.put, List.setIfInBounds_toArray, List.set_cons_zero, List.set_cons_succ, i64_w, i32_w]
             rfl
            refine pure_ (i := 24) (N := some 223) (v := ?_) (a' := ?_) #[true, true, true, true, true, true, true, true, true, true, true, true, true, true, true, true, true, true, true, true, true, true, true, true, true, false, false, false, false, false, false, false, false, false, false, false] rfl rfl (any_of HT_.out kr) (fun _ _ _ h => h) (Or.inl ⟨by rfl, ?_⟩) ?_ ?_
            rotate_left
            ·intro w'
             go_simp
             with_reducible rfl
            rotate_left
            ·simp only [Act.put, List.setIfInBounds_toArray, List.set_cons_zero, List.set_cons_succ, i64_w, i32_w]
             rfl
            refine pure_ (i := 25) (N := some 224) (v := ?_) (a' := ?_) #[true, true, true, true, true, true, true, true, true, true, true, true, true, true, true, true, true, true, true, true, true, true, true, true, true, true, false, false, false, false, false, false, false, false, false, false] rfl rfl (any_of HT_.out kr) (fun _ _ _ h => h) (Or.inl ⟨by rfl, ?_⟩) ?_ ?_
            rotate_left
            ·intro w'
             go_simp
             with_reducible rfl
            rotate_left
            ·simp only [Act.put, List.setIfInBounds_toArray, List.set_cons_zero, List.set_cons_succ, i64_w, i32_w]
             rfl
            refine pure_ (i := 26) (N := some 225) (v := ?_) (a' := ?_) #[true, true, true, true, true, true, true, true, true, true, true, true, true, true, true, true, true, true, true, true, true, true, true, true, true, true, true, false, false, false, false, false, false, false, false, false] rfl rfl (any_of HT_.out kr) (fun _ _ _ h => h) (Or.inl ⟨by rfl, ?_⟩) ?_ ?_
            rotate_left
            ·intro w'
             go_simp
             with_reducible rfl
            rotate_left
            ·simp only [Act.put, List.setIfInBounds_toArray, List.set_cons_zero, List.set_cons_succ, i64_w, i32_w]
             rfl
            refine take_ (i := 27) (N := some 226) (v := ?_) (a' := ?_) #[true, true, true, true, true, true, true, true, true, true, true, true, true, true, true, true, true, true, true, true, true, true, true, true, true, true, true, true, false, false, false, false, false, false, false, false] rfl rfl (take_ofW HT_.out HW_.out kr) (fun _ _ _ h => h) (Or.inl ⟨by rfl, ?_⟩) bxs ?_ ?_
            rotate_left
            ·intro w' hS
             go_simp
             with_reducible rfl
            rotate_left
            ·simp only [Act.put, List.setIfInBounds_toArray, List.set_cons_zero, List.set_cons_succ, i64_w, i32_w]
             rfl
            refine take_ (i := 28) (N := some 227) (v := ?_) (a' := ?_) #[true, true, true, true, true, true, true, true, true, true, true, true, true, true, true, true, true, true, true, true, true, true, true, true, true, true, true, true, true, false, false, false, false, false, false, false] rfl rfl (take_ofW HT_.out HW_.out kr) (fun _ _ _ h => h) (Or.inl ⟨by rfl, ?_⟩) bxs ?_ ?_
            rotate_left
            ·intro w' hS
             go_simp
             with_reducible rfl
            rotate_left
            ·simp only [Act.put, List.setIfInBounds_toArray, List.set_cons_zero, List.set_cons_succ, i64_w, i32_w]
             rfl
            refine take_ (i := 30) (N := some 229) (v := ?_) (a' := ?_) #[true, true, true, true, true, true, true, true, true, true, true, true, true, true, true, true, true, true, true, true, true, true, true, true, true, true, true, true, true, false, true, false, false, false, false, false] rfl rfl (take_ofW HT_.out HW_.out kr) (fun _ _ _ h => h) (Or.inl ⟨by rfl, ?_⟩) bxs ?_ ?_
            rotate_left
            ·intro w' hS
             go_simp
             with_reducible rfl
            rotate_left
            ·simp only [Act.put, List.setIfInBounds_toArray, List.set_cons_zero, List.set_cons_succ, i64_w, i32_w]
             rfl
            refine take_ (i := 31) (N := some 230) (v := ?_) (a' := ?_) #[true, true, true, true, true, true, true, true, true, true, true, true, true, true, true, true, true, true, true, true, true, true, true, true, true, true, true, true, true, false, true, true, false, false, false, false] rfl rfl (take_ofW HT_.out HW_.out kr) (fun _ _ _ h => h) (Or.inl ⟨by rfl, ?_⟩) bxs ?_ ?_
            rotate_left
            ·intro w' hS
             go_simp
             with_reducible rfl
            rotate_left
            ·simp only [Act.put, List.setIfInBounds_toArray, List.set_cons_zero, List.set_cons_succ, i64_w, i32_w]
             rfl
            refine one_ (i := 29) (N := some 228) #[true, true, true, true, true, true, true, true, true, true, true, true, true, true, true, true, true, true, true, true, true, true, true, true, true, true, true, true, true, true, true, true, false, false, false, false] rfl rfl (one_of HT_.out kr) (by decide) (fun K hK => ?_)
            refine goes_ Tryd.func25 kr rfl #[.agg #[.int .i64 a0, .int .i64 a1], .agg #[.int .i64 a2_0, .int .i64 a2_1]] (by rfl) rfl rfl ga ?_
            with_reducible refine (num_Cmp.calls kj35 a0 a1 a2_0 a2_1 t340 _ A411.out).mono ?_
            rintro e w419 ⟨rfl, hb⟩
            refine ⟨_, rfl, ?_⟩
            replace BX := bx_call hb
            clear hb
            refine hK.out _ _ bxs (fun hHeld => ?_)
            clear hK K hHeld
            refine norm_ (a' := ?_) ?_ ?_
            rotate_left
            ·show Act.put _ (some 228) _ = _
             simp only [Act.put, List.setIfInBounds_toArray, List.set_cons_zero, List.set_cons_succ, i64_w, i32_w]
             rfl
            refine one_ (i := 32) (N := some 231) #[true, true, true, true, true, true, true, true, true, true, true, true, true, true, true, true, true, true, true, true, true, true, true, true, true, true, true, true, true, true, true, true, true, false, false, false] rfl rfl (one_of HT_.out kr) (by decide) (fun K hK => ?_)
            refine goes_ Tryd.func25 kr rfl #[.agg #[.int .i64 t267, .int .i64 t268], .agg #[.int .i64 a2_0, .int .i64 a2_1]] (by rfl) rfl rfl ga ?_
            with_reducible refine (num_Cmp.calls kj35 t267 t268 a2_0 a2_1 t341 _ A412.out).mono ?_
            rintro e w420 ⟨rfl, hb⟩
            refine ⟨_, rfl, ?_⟩
            replace BX := bx_call hb
            clear hb
            refine hK.out _ _ bxs (fun hHeld => ?_)
            clear hK K hHeld
            refine norm_ (a' := ?_) ?_ ?_
            rotate_left
            ·show Act.put _ (some 231) _ = _
             simp only [Act.put, List.setIfInBounds_toArray, List.set_cons_zero, List.set_cons_succ, i64_w, i32_w]
             rfl
            refine pure_ (i := 33) (N := some 232) (v := ?_) (a' := ?_) #[true, true, true, true, true, true, true, true, true, true, true, true, true, true, true, true, true, true, true, true, true, true, true, true, true, true, true, true, true, true, true, true, true, true, false, false] rfl rfl (any_of HT_.out kr) (fun _ _ _ h => h) (Or.inl ⟨by rfl, ?_⟩) ?_ ?_
            rotate_left
            ·intro w'
             go_simp
             with_reducible rfl
            rotate_left
            ·simp only [Act.put, List.setIfInBounds_toArray, List.set_cons_zero, List.set_cons_succ, i64_w, i32_w]
             rfl
            refine pure_ (i := 34) (N := some 233) (v := ?_) (a' := ?_) #[true, true, true, true, true, true, true, true, true, true, true, true, true, true, true, true, true, true, true, true, true, true, true, true, true, true, true, true, true, true, true, true, true, true, true, false] rfl rfl (any_of HT_.out kr) (fun _ _ _ h => h) (Or.inl ⟨by rfl, ?_⟩) ?_ ?_
            rotate_left
            ·intro w'
             go_simp
             with_reducible rfl
            rotate_left
            ·simp only [Act.put, List.setIfInBounds_toArray, List.set_cons_zero, List.set_cons_succ, i64_w, i32_w]
             rfl
            refine pure_ (i := 35) (N := some 8) (v := ?_) (a' := ?_) #[true, true, true, true, true, true, true, true, true, true, true, true, true, true, true, true, true, true, true, true, true, true, true, true, true, true, true, true, true, true, true, true, true, true, true, true] rfl rfl (any_of HT_.out kr) (fun _ _ _ h => h) (Or.inl ⟨by rfl, ?_⟩) ?_ ?_
            rotate_left
            ·intro w'
             go_simp
             with_reducible rfl
            rotate_left
            ·simp only [Act.put, List.setIfInBounds_toArray, List.set_cons_zero, List.set_cons_succ, i64_w, i32_w]
             rfl
            refine done_ (done_of HT_.out kr) ?_
            try go_wp2
            go_ret
            exact ⟨er2, bx_bl⟩
           ·rw [if_neg c410] at H
            have c410b0 : (t338 == t267 && (t339 == t268)) = false := by simpa using c410
            (try (have c410b1 : decide (t338 = t267 && (t339 == t268)) = false := by simpa using c410))
            (try (have c410b2 : (t338 == t267 && (t339 == t268)) = false := by simpa using c410))
            (try (have c410b3 : ¬ (t338 = t267 && (t339 == t268)) := by simpa using c410))
            clear c410
            exact absurd (Option.some.inj H) (by rw [HR.out]; decide)
          ·rw [if_neg c408] at H
           have c408b0 : (t336 == t267 && (t337 == t268)) = false := by simpa using c408
           (try (have c408b1 : decide (t336 = t267 && (t337 == t268)) = false := by simpa using c408))
           (try (have c408b2 : (t336 == t267 && (t337 == t268)) = false := by simpa using c408))
           (try (have c408b3 : ¬ (t336 = t267 && (t337 == t268)) := by simpa using c408))
           clear c408
           exact absurd (Option.some.inj H) (by rw [HR.out]; decide)
         ·rw [if_neg c406] at H
          have c406b0 : (t334 == t267 && (t335 == t268)) = false := by simpa using c406
          (try (have c406b1 : decide (t334 = t267 && (t335 == t268)) = false := by simpa using c406))
          (try (have c406b2 : (t334 == t267 && (t335 == t268)) = false := by simpa using c406))
          (try (have c406b3 : ¬ (t334 = t267 && (t335 == t268)) := by simpa using c406))
          clear c406
          exact absurd (Option.some.inj H) (by rw [HR.out]; decide)
        ·rw [if_neg c404] at H
         have c404b0 : (t333.toList == ([48] : List UInt8)) = false := beq_eq_false_iff_ne.mpr c404
         have c404b1 : (t333.toList != ([48] : List UInt8)) = true := bne_iff_ne.mpr c404
         exact absurd (Option.some.inj H) (by rw [HR.out]; decide)

end Go.Proofs.YtlcjfabbnclalaaDoor.F
