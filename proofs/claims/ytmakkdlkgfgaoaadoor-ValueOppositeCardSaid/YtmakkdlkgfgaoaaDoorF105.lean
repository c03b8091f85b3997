-- Laid by program (wip/tools/genv.sh, pack.py, merge.py of this repo) out of the translation; Lean checks it.
import Derived.Test.YtmakkdlkgfgaoaaDoorF0
import Derived.Test.YtmakkdlkgfgaoaaDoorC0
import Derived.Test.YtmakkdlkgfgaoaaDoorF101
import Derived.Test.YtmakkdlkgfgaoaaDoorF103
import Derived.Test.YtmakkdlkgfgaoaaDoorF104
namespace Go.Proofs.YtmakkdlkgfgaoaaDoor.F
open Go.RowKit Go.Proofs.YtmakkdlkgfgaoaaDoorW.PrintWords Go.Proofs.YtmakkdlkgfgaoaaDoorW.PrintLast Go.Proofs.YtmakkdlkgfgaoaaDoorW.PrintMore
attribute [local go_sem] max2_int min2_int max_two min_two max_three min_three max_four min_four
attribute [local go_sem high] bx_cell bx_frozen
set_option linter.unusedVariables false
set_option linter.unusedSimpArgs false

section
/-! ### value_reckon: function 64 -/
def value_reckon.j0 : Nat → Bool → Int → Int → Int → Int → Option (Int × Int × Int × ByteArray × Bool × Int)
 | 0, _, _, _, _, _ => none
 | k + 1, x53, x406000, x406001, x407000, x407001 => if x53 = true then ((value_Fault.f 1).bind fun bt450 => (some (bt450.1, bt450.2.1, bt450.2.2.1, bt450.2.2.2.1, bt450.2.2.2.2.1, bt450.2.2.2.2.2))) else ((num_Whole.f k x407000 x407001).bind fun bt456 => (if bt456.2 = true then ((num_Pow.f k x406000 x406001 bt456.1).bind fun bt458 => ((value_told.f k bt458.1 bt458.2.1 bt458.2.2).bind fun bt461 => (some (bt461.1, bt461.2.1, bt461.2.2.1, bt461.2.2.2.1, bt461.2.2.2.2.1, bt461.2.2.2.2.2)))) else ((value_Fault.f 4).bind fun bt467 => (some (bt467.1, bt467.2.1, bt467.2.2.1, bt467.2.2.2.1, bt467.2.2.2.2.1, bt467.2.2.2.2.2)))))
def value_reckon.f (k : Nat) (a0 : Int) (a1_0 : Int) (a1_1 : Int) (a2_0 : Int) (a2_1 : Int) : Option (Int × Int × Int × ByteArray × Bool × Int) := if a0 = 11 then ((num_Add.f k a1_0 a1_1 a2_0 a2_1).bind fun bt408 => ((value_told.f k bt408.1 bt408.2.1 bt408.2.2).bind fun bt411 => (some (bt411.1, bt411.2.1, bt411.2.2.1, bt411.2.2.2.1, bt411.2.2.2.2.1, bt411.2.2.2.2.2)))) else (if a0 = 12 then ((num_Sub.f k a1_0 a1_1 a2_0 a2_1).bind fun bt417 => ((value_told.f k bt417.1 bt417.2.1 bt417.2.2).bind fun bt420 => (some (bt420.1, bt420.2.1, bt420.2.2.1, bt420.2.2.2.1, bt420.2.2.2.2.1, bt420.2.2.2.2.2)))) else (if a0 = 13 then ((num_Mul.f k a1_0 a1_1 a2_0 a2_1).bind fun bt426 => ((value_told.f k bt426.1 bt426.2.1 bt426.2.2).bind fun bt429 => (some (bt429.1, bt429.2.1, bt429.2.2.1, bt429.2.2.2.1, bt429.2.2.2.2.1, bt429.2.2.2.2.2)))) else (if a0 = 14 then (if a2_0 = 0 then ((value_Fault.f 1).bind fun bt435 => (some (bt435.1, bt435.2.1, bt435.2.2.1, bt435.2.2.2.1, bt435.2.2.2.2.1, bt435.2.2.2.2.2))) else ((num_Div.f k a1_0 a1_1 a2_0 a2_1).bind fun bt441 => ((value_told.f k bt441.1 bt441.2.1 bt441.2.2).bind fun bt444 => (some (bt444.1, bt444.2.1, bt444.2.2.1, bt444.2.2.2.1, bt444.2.2.2.2.1, bt444.2.2.2.2.2))))) else (if a1_0 = 0 then (value_reckon.j0 k (decide (a2_0 < 0)) a1_0 a1_1 a2_0 a2_1) else (value_reckon.j0 k false a1_0 a1_1 a2_0 a2_1)))))
theorem value_reckon.mono_l : ∀ k, (∀ y0 y1 y2 y3 y4, LeO (value_reckon.j0 k y0 y1 y2 y3 y4) (value_reckon.j0 (k + 1) y0 y1 y2 y3 y4))
 | 0 => fun _ _ _ _ _ r h => by simp [value_reckon.j0] at h
 | k + 1 => by
  have ih0 := value_reckon.mono_l k
  ·intro y0 y1 y2 y3 y4
   unfold value_reckon.j0
   repeat' first
   | (with_reducible exact ih0 _ _ _ _ _)
   | (with_reducible exact num_Add.mono _ _ _ _ _)
   | (with_reducible exact num_Div.mono _ _ _ _ _)
   | (with_reducible exact num_Mul.mono _ _ _ _ _)
   | (with_reducible exact num_Pow.mono _ _ _ _)
   | (with_reducible exact num_Sub.mono _ _ _ _ _)
   | (with_reducible exact num_Whole.mono _ _ _)
   | (with_reducible exact value_told.mono _ _ _ _)
   | (with_reducible exact LeO.refl _)
   | (with_reducible exact LeO.none _)
   | (with_reducible refine LeO.ite ?_ ?_)
   | (with_reducible refine LeO.bind ?_ (fun _ => ?_))
   | exact ih0 _ _ _ _ _
   | exact num_Add.mono _ _ _ _ _
   | exact num_Div.mono _ _ _ _ _
   | exact num_Mul.mono _ _ _ _ _
   | exact num_Pow.mono _ _ _ _
   | exact num_Sub.mono _ _ _ _ _
   | exact num_Whole.mono _ _ _
   | exact value_told.mono _ _ _ _
   | exact LeO.none _
   | refine LeO.ite ?_ ?_
   | refine LeO.bind ?_ (fun _ => ?_)
theorem value_reckon.mono : ∀ a0 a1 a2 a3 a4 k, LeO (value_reckon.f k a0 a1 a2 a3 a4) (value_reckon.f (k + 1) a0 a1 a2 a3 a4) := by
 intro a0 a1 a2 a3 a4 k
 have ih0 := value_reckon.mono_l k
 unfold value_reckon.f
 repeat' first
   | (with_reducible exact ih0 _ _ _ _ _)
   | (with_reducible exact num_Add.mono _ _ _ _ _)
   | (with_reducible exact num_Div.mono _ _ _ _ _)
   | (with_reducible exact num_Mul.mono _ _ _ _ _)
   | (with_reducible exact num_Pow.mono _ _ _ _)
   | (with_reducible exact num_Sub.mono _ _ _ _ _)
   | (with_reducible exact num_Whole.mono _ _ _)
   | (with_reducible exact value_told.mono _ _ _ _)
   | (with_reducible exact LeO.refl _)
   | (with_reducible exact LeO.none _)
   | (with_reducible refine LeO.ite ?_ ?_)
   | (with_reducible refine LeO.bind ?_ (fun _ => ?_))
   | exact ih0 _ _ _ _ _
   | exact num_Add.mono _ _ _ _ _
   | exact num_Div.mono _ _ _ _ _
   | exact num_Mul.mono _ _ _ _ _
   | exact num_Pow.mono _ _ _ _
   | exact num_Sub.mono _ _ _ _ _
   | exact num_Whole.mono _ _ _
   | exact value_told.mono _ _ _ _
   | exact LeO.none _
   | refine LeO.ite ?_ ?_
   | refine LeO.bind ?_ (fun _ => ?_)
set_option maxHeartbeats 8000000 in
set_option maxRecDepth 100000 in
theorem value_reckon.calls (k : Nat) (a0 : Int) (a1_0 : Int) (a1_1 : Int) (a2_0 : Int) (a2_1 : Int) (r1 : Int) (r2 : Int) (r3 : Int) (r4 : ByteArray) (r5 : Bool) (r6 : Int) (w : World) (h : value_reckon.f k a0 a1_0 a1_1 a2_0 a2_1 = some (r1, r2, r3, r4, r5, r6)) :
  Calls Tryd.prog 64 #[.int .i64 a0, .agg #[.int .i64 a1_0, .int .i64 a1_1], .agg #[.int .i64 a2_0, .int .i64 a2_1]] w fun e w' => e = .returned (.agg #[.int .i64 r1, .int .i64 r2, .int .i64 r3, .string r4, .bool r5, .int .i64 r6]) ∧ Below w.heap.size w w' := by
 have hu23 := Tryd.underlying23
 have hu25 := Tryd.underlying25
 have BX := Bx.start w
 have H : (if a0 = 11 then ((num_Add.f k a1_0 a1_1 a2_0 a2_1).bind fun bt408 => ((value_told.f k bt408.1 bt408.2.1 bt408.2.2).bind fun bt411 => (some (bt411.1, bt411.2.1, bt411.2.2.1, bt411.2.2.2.1, bt411.2.2.2.2.1, bt411.2.2.2.2.2)))) else (if a0 = 12 then ((num_Sub.f k a1_0 a1_1 a2_0 a2_1).bind fun bt417 => ((value_told.f k bt417.1 bt417.2.1 bt417.2.2).bind fun bt420 => (some (bt420.1, bt420.2.1, bt420.2.2.1, bt420.2.2.2.1, bt420.2.2.2.2.1, bt420.2.2.2.2.2)))) else (if a0 = 13 then ((num_Mul.f k a1_0 a1_1 a2_0 a2_1).bind fun bt426 => ((value_told.f k bt426.1 bt426.2.1 bt426.2.2).bind fun bt429 => (some (bt429.1, bt429.2.1, bt429.2.2.1, bt429.2.2.2.1, bt429.2.2.2.2.1, bt429.2.2.2.2.2)))) else (if a0 = 14 then (if a2_0 = 0 then ((value_Fault.f 1).bind fun bt435 => (some (bt435.1, bt435.2.1, bt435.2.2.1, bt435.2.2.2.1, bt435.2.2.2.2.1, bt435.2.2.2.2.2))) else ((num_Div.f k a1_0 a1_1 a2_0 a2_1).bind fun bt441 => ((value_told.f k bt441.1 bt441.2.1 bt441.2.2).bind fun bt444 => (some (bt444.1, bt444.2.1, bt444.2.2.1, bt444.2.2.2.1, bt444.2.2.2.2.1, bt444.2.2.2.2.2))))) else (if a1_0 = 0 then (value_reckon.j0 k (decide (a2_0 < 0)) a1_0 a1_1 a2_0 a2_1) else (value_reckon.j0 k false a1_0 a1_1 a2_0 a2_1)))))) = some (r1, r2, r3, r4, r5, r6) := h
 clear h
 by_cases c4 : a0 = 11
 ·rw [if_pos c4] at H
  have c4b0 : (a0 == 11) = true := beq_iff_eq.mpr c4
  have c4b1 : (a0 != 11) = false := bne_eq_false_iff_eq.mpr c4
  clear c4
  replace H := Option.bind_eq_some_iff.mp H
  obtain ⟨⟨t408, t409, t410⟩, A50, H⟩ := H
  have A5 := Aside0.mk A50
  clear A50
  replace H := Option.bind_eq_some_iff.mp H
  obtain ⟨⟨t411, t412, t413, t414, t415, t416⟩, A60, H⟩ := H
  replace H : (some (t411, t412, t413, t414, t415, t416)) = some (r1, r2, r3, r4, r5, r6) := H
  have A6 := Aside0.mk A60
  clear A60
  simp only [Option.some.injEq, Prod.mk.injEq] at H
  obtain ⟨rfl, rfl, rfl, rfl, rfl, rfl⟩ := H
  go_enter Tryd.func64, Tryd.ntmps64
  go_wp2_with (first | ((with_reducible refine gate_dst (N := 4) rfl ?_); refine bxe 4 #[.int .i64 a1_0, .int .i64 a1_1] 23 rfl rfl gr ?_; clear BX; intro gb405 w7 GE405 BX) | ((with_reducible refine gate_dst (N := 5) rfl ?_); refine bxe 5 #[.int .i64 a2_0, .int .i64 a2_1] 23 rfl rfl gr ?_; clear BX; intro gb406 w8 GE406 BX) | ((with_reducible refine gate_dst (N := 6) rfl ?_); refine bxe 6 #[.int .i64 0, .int .i64 0, .int .i64 0, .string (⟨#[]⟩ : ByteArray), .bool false, .int .i64 0] 25 rfl rfl gr ?_; clear BX; intro gb407 w9 GE407 BX) | ((with_reducible refine gate_callee (f := 45) rfl ?_); refine goesL_ (some 14) rfl rfl Tryd.func45 kr rfl #[.agg #[.int .i64 a1_0, .int .i64 a1_1], .agg #[.int .i64 a2_0, .int .i64 a2_1]] rfl ga ?_; (with_reducible refine (num_Add.calls k a1_0 a1_1 a2_0 a2_1 t408 t409 t410 _ A5.out).mono ?_); rintro e w15 ⟨rfl, hb⟩; refine ⟨_, rfl, ?_⟩; replace BX := bx_call hb; clear hb) | ((with_reducible refine gate_callee (f := 74) rfl ?_); refine goesL_ (some 17) rfl rfl Tryd.func74 kr rfl #[.agg #[.int .i64 t408, .int .i64 t409], .bool t410] rfl ga ?_; (with_reducible refine (value_told.calls k t408 t409 t410 t411 t412 t413 t414 t415 t416 _ A6.out).mono ?_); rintro e w16 ⟨rfl, hb⟩; refine ⟨_, rfl, ?_⟩; replace BX := bx_call hb; clear hb))
  refine bodyPost_ret (results_cell_row rfl _ _ gb407 25 #[.int .i64 t411, .int .i64 t412, .int .i64 t413, .string t414, .bool t415, .int .i64 t416] (0, 0) _ rfl bx_get Tryd.underlying25 rfl kr) rfl ?_
  exact ⟨er2, bx_bl⟩
 ·rw [if_neg c4] at H
  have c4b0 : (a0 == 11) = false := beq_eq_false_iff_ne.mpr c4
  have c4b1 : (a0 != 11) = true := bne_iff_ne.mpr c4
  by_cases c18 : a0 = 12
  ·rw [if_pos c18] at H
   have c18b0 : (a0 == 12) = true := beq_iff_eq.mpr c18
   have c18b1 : (a0 != 12) = false := bne_eq_false_iff_eq.mpr c18
   clear c18
   replace H := Option.bind_eq_some_iff.mp H
   obtain ⟨⟨t417, t418, t419⟩, A190, H⟩ := H
   have A19 := Aside0.mk A190
   clear A190
   replace H := Option.bind_eq_some_iff.mp H
   obtain ⟨⟨t420, t421, t422, t423, t424, t425⟩, A200, H⟩ := H
   replace H : (some (t420, t421, t422, t423, t424, t425)) = some (r1, r2, r3, r4, r5, r6) := H
   have A20 := Aside0.mk A200
   clear A200
   simp only [Option.some.injEq, Prod.mk.injEq] at H
   obtain ⟨rfl, rfl, rfl, rfl, rfl, rfl⟩ := H
   go_enter Tryd.func64, Tryd.ntmps64
   go_wp2_with (first | ((with_reducible refine gate_dst (N := 4) rfl ?_); refine bxe 4 #[.int .i64 a1_0, .int .i64 a1_1] 23 rfl rfl gr ?_; clear BX; intro gb405 w21 GE405 BX) | ((with_reducible refine gate_dst (N := 5) rfl ?_); refine bxe 5 #[.int .i64 a2_0, .int .i64 a2_1] 23 rfl rfl gr ?_; clear BX; intro gb406 w22 GE406 BX) | ((with_reducible refine gate_dst (N := 6) rfl ?_); refine bxe 6 #[.int .i64 0, .int .i64 0, .int .i64 0, .string (⟨#[]⟩ : ByteArray), .bool false, .int .i64 0] 25 rfl rfl gr ?_; clear BX; intro gb407 w23 GE407 BX) | ((with_reducible refine gate_callee (f := 46) rfl ?_); refine goesL_ (some 22) rfl rfl Tryd.func46 kr rfl #[.agg #[.int .i64 a1_0, .int .i64 a1_1], .agg #[.int .i64 a2_0, .int .i64 a2_1]] rfl ga ?_; (with_reducible refine (num_Sub.calls k a1_0 a1_1 a2_0 a2_1 t417 t418 t419 _ A19.out).mono ?_); rintro e w29 ⟨rfl, hb⟩; refine ⟨_, rfl, ?_⟩; replace BX := bx_call hb; clear hb) | ((with_reducible refine gate_callee (f := 74) rfl ?_); refine goesL_ (some 25) rfl rfl Tryd.func74 kr rfl #[.agg #[.int .i64 t417, .int .i64 t418], .bool t419] rfl ga ?_; (with_reducible refine (value_told.calls k t417 t418 t419 t420 t421 t422 t423 t424 t425 _ A20.out).mono ?_); rintro e w30 ⟨rfl, hb⟩; refine ⟨_, rfl, ?_⟩; replace BX := bx_call hb; clear hb))
   refine bodyPost_ret (results_cell_row rfl _ _ gb407 25 #[.int .i64 t420, .int .i64 t421, .int .i64 t422, .string t423, .bool t424, .int .i64 t425] (0, 0) _ rfl bx_get Tryd.underlying25 rfl kr) rfl ?_
   exact ⟨er2, bx_bl⟩
  ·rw [if_neg c18] at H
   have c18b0 : (a0 == 12) = false := beq_eq_false_iff_ne.mpr c18
   have c18b1 : (a0 != 12) = true := bne_iff_ne.mpr c18
   by_cases c32 : a0 = 13
   ·rw [if_pos c32] at H
    have c32b0 : (a0 == 13) = true := beq_iff_eq.mpr c32
    have c32b1 : (a0 != 13) = false := bne_eq_false_iff_eq.mpr c32
    clear c32
    replace H := Option.bind_eq_some_iff.mp H
    obtain ⟨⟨t426, t427, t428⟩, A330, H⟩ := H
    have A33 := Aside0.mk A330
    clear A330
    replace H := Option.bind_eq_some_iff.mp H
    obtain ⟨⟨t429, t430, t431, t432, t433, t434⟩, A340, H⟩ := H
    replace H : (some (t429, t430, t431, t432, t433, t434)) = some (r1, r2, r3, r4, r5, r6) := H
    have A34 := Aside0.mk A340
    clear A340
    simp only [Option.some.injEq, Prod.mk.injEq] at H
    obtain ⟨rfl, rfl, rfl, rfl, rfl, rfl⟩ := H
    go_enter Tryd.func64, Tryd.ntmps64
    go_wp2_with (first | ((with_reducible refine gate_dst (N := 4) rfl ?_); refine bxe 4 #[.int .i64 a1_0, .int .i64 a1_1] 23 rfl rfl gr ?_; clear BX; intro gb405 w35 GE405 BX) | ((with_reducible refine gate_dst (N := 5) rfl ?_); refine bxe 5 #[.int .i64 a2_0, .int .i64 a2_1] 23 rfl rfl gr ?_; clear BX; intro gb406 w36 GE406 BX) | ((with_reducible refine gate_dst (N := 6) rfl ?_); refine bxe 6 #[.int .i64 0, .int .i64 0, .int .i64 0, .string (⟨#[]⟩ : ByteArray), .bool false, .int .i64 0] 25 rfl rfl gr ?_; clear BX; intro gb407 w37 GE407 BX) | ((with_reducible refine gate_callee (f := 47) rfl ?_); refine goesL_ (some 30) rfl rfl Tryd.func47 kr rfl #[.agg #[.int .i64 a1_0, .int .i64 a1_1], .agg #[.int .i64 a2_0, .int .i64 a2_1]] rfl ga ?_; (with_reducible refine (num_Mul.calls k a1_0 a1_1 a2_0 a2_1 t426 t427 t428 _ A33.out).mono ?_); rintro e w43 ⟨rfl, hb⟩; refine ⟨_, rfl, ?_⟩; replace BX := bx_call hb; clear hb) | ((with_reducible refine gate_callee (f := 74) rfl ?_); refine goesL_ (some 33) rfl rfl Tryd.func74 kr rfl #[.agg #[.int .i64 t426, .int .i64 t427], .bool t428] rfl ga ?_; (with_reducible refine (value_told.calls k t426 t427 t428 t429 t430 t431 t432 t433 t434 _ A34.out).mono ?_); rintro e w44 ⟨rfl, hb⟩; refine ⟨_, rfl, ?_⟩; replace BX := bx_call hb; clear hb))
    refine bodyPost_ret (results_cell_row rfl _ _ gb407 25 #[.int .i64 t429, .int .i64 t430, .int .i64 t431, .string t432, .bool t433, .int .i64 t434] (0, 0) _ rfl bx_get Tryd.underlying25 rfl kr) rfl ?_
    exact ⟨er2, bx_bl⟩
   ·rw [if_neg c32] at H
    have c32b0 : (a0 == 13) = false := beq_eq_false_iff_ne.mpr c32
    have c32b1 : (a0 != 13) = true := bne_iff_ne.mpr c32
    by_cases c46 : a0 = 14
    ·rw [if_pos c46] at H
     have c46b0 : (a0 == 14) = true := beq_iff_eq.mpr c46
     have c46b1 : (a0 != 14) = false := bne_eq_false_iff_eq.mpr c46
     clear c46
     by_cases c47 : a2_0 = 0
     ·rw [if_pos c47] at H
      have c47b0 : (a2_0 == 0) = true := beq_iff_eq.mpr c47
      have c47b1 : (a2_0 != 0) = false := bne_eq_false_iff_eq.mpr c47
      clear c47
      replace H := Option.bind_eq_some_iff.mp H
      obtain ⟨⟨t435, t436, t437, t438, t439, t440⟩, A480, H⟩ := H
      replace H : (some (t435, t436, t437, t438, t439, t440)) = some (r1, r2, r3, r4, r5, r6) := H
      have A48 := Aside0.mk A480
      clear A480
      simp only [Option.some.injEq, Prod.mk.injEq] at H
      obtain ⟨rfl, rfl, rfl, rfl, rfl, rfl⟩ := H
      go_enter Tryd.func64, Tryd.ntmps64
      go_wp2_with (first | ((with_reducible refine gate_dst (N := 4) rfl ?_); refine bxe 4 #[.int .i64 a1_0, .int .i64 a1_1] 23 rfl rfl gr ?_; clear BX; intro gb405 w49 GE405 BX) | ((with_reducible refine gate_dst (N := 5) rfl ?_); refine bxe 5 #[.int .i64 a2_0, .int .i64 a2_1] 23 rfl rfl gr ?_; clear BX; intro gb406 w50 GE406 BX) | ((with_reducible refine gate_dst (N := 6) rfl ?_); refine bxe 6 #[.int .i64 0, .int .i64 0, .int .i64 0, .string (⟨#[]⟩ : ByteArray), .bool false, .int .i64 0] 25 rfl rfl gr ?_; clear BX; intro gb407 w51 GE407 BX) | ((with_reducible refine gate_callee (f := 25) rfl ?_); refine goesL_ (some 39) rfl rfl Tryd.func25 kr rfl #[.int .i64 1] rfl ga ?_; (with_reducible refine (value_Fault.calls 1 t435 t436 t437 t438 t439 t440 _ A48.out).mono ?_); rintro e w55 ⟨rfl, hb⟩; refine ⟨_, rfl, ?_⟩; replace BX := bx_call hb; clear hb))
      refine bodyPost_ret (results_cell_row rfl _ _ gb407 25 #[.int .i64 t435, .int .i64 t436, .int .i64 t437, .string t438, .bool t439, .int .i64 t440] (0, 0) _ rfl bx_get Tryd.underlying25 rfl kr) rfl ?_
      exact ⟨er2, bx_bl⟩
     ·rw [if_neg c47] at H
      have c47b0 : (a2_0 == 0) = false := beq_eq_false_iff_ne.mpr c47
      have c47b1 : (a2_0 != 0) = true := bne_iff_ne.mpr c47
      replace H := Option.bind_eq_some_iff.mp H
      obtain ⟨⟨t441, t442, t443⟩, A580, H⟩ := H
      have A58 := Aside0.mk A580
      clear A580
      replace H := Option.bind_eq_some_iff.mp H
      obtain ⟨⟨t444, t445, t446, t447, t448, t449⟩, A590, H⟩ := H
      replace H : (some (t444, t445, t446, t447, t448, t449)) = some (r1, r2, r3, r4, r5, r6) := H
      have A59 := Aside0.mk A590
      clear A590
      simp only [Option.some.injEq, Prod.mk.injEq] at H
      obtain ⟨rfl, rfl, rfl, rfl, rfl, rfl⟩ := H
      go_enter Tryd.func64, Tryd.ntmps64
      go_wp2_with (first | ((with_reducible refine gate_dst (N := 4) rfl ?_); refine bxe 4 #[.int .i64 a1_0, .int .i64 a1_1] 23 rfl rfl gr ?_; clear BX; intro gb405 w60 GE405 BX) | ((with_reducible refine gate_dst (N := 5) rfl ?_); refine bxe 5 #[.int .i64 a2_0, .int .i64 a2_1] 23 rfl rfl gr ?_; clear BX; intro gb406 w61 GE406 BX) | ((with_reducible refine gate_dst (N := 6) rfl ?_); refine bxe 6 #[.int .i64 0, .int .i64 0, .int .i64 0, .string (⟨#[]⟩ : ByteArray), .bool false, .int .i64 0] 25 rfl rfl gr ?_; clear BX; intro gb407 w62 GE407 BX) | ((with_reducible refine gate_callee (f := 75) rfl ?_); refine goesL_ (some 42) rfl rfl Tryd.func75 kr rfl #[.agg #[.int .i64 a1_0, .int .i64 a1_1], .agg #[.int .i64 a2_0, .int .i64 a2_1]] rfl ga ?_; (with_reducible refine (num_Div.calls k a1_0 a1_1 a2_0 a2_1 t441 t442 t443 _ A58.out).mono ?_); rintro e w68 ⟨rfl, hb⟩; refine ⟨_, rfl, ?_⟩; replace BX := bx_call hb; clear hb) | ((with_reducible refine gate_callee (f := 74) rfl ?_); refine goesL_ (some 45) rfl rfl Tryd.func74 kr rfl #[.agg #[.int .i64 t441, .int .i64 t442], .bool t443] rfl ga ?_; (with_reducible refine (value_told.calls k t441 t442 t443 t444 t445 t446 t447 t448 t449 _ A59.out).mono ?_); rintro e w69 ⟨rfl, hb⟩; refine ⟨_, rfl, ?_⟩; replace BX := bx_call hb; clear hb))
      refine bodyPost_ret (results_cell_row rfl _ _ gb407 25 #[.int .i64 t444, .int .i64 t445, .int .i64 t446, .string t447, .bool t448, .int .i64 t449] (0, 0) _ rfl bx_get Tryd.underlying25 rfl kr) rfl ?_
      exact ⟨er2, bx_bl⟩
    ·rw [if_neg c46] at H
     have c46b0 : (a0 == 14) = false := beq_eq_false_iff_ne.mpr c46
     have c46b1 : (a0 != 14) = true := bne_iff_ne.mpr c46
     have HC71 := Aside0.mk H
     clear H
     go_enter Tryd.func64, Tryd.ntmps64
     go_upto_region 12 with (first | ((with_reducible refine gate_dst (N := 4) rfl ?_); refine bxe 4 #[.int .i64 a1_0, .int .i64 a1_1] 23 rfl rfl gr ?_; clear BX; intro gb405 w72 GE405 BX) | ((with_reducible refine gate_dst (N := 5) rfl ?_); refine bxe 5 #[.int .i64 a2_0, .int .i64 a2_1] 23 rfl rfl gr ?_; clear BX; intro gb406 w73 GE406 BX) | ((with_reducible refine gate_dst (N := 6) rfl ?_); refine bxe 6 #[.int .i64 0, .int .i64 0, .int .i64 0, .string (⟨#[]⟩ : ByteArray), .bool false, .int .i64 0] 25 rfl rfl gr ?_; clear BX; intro gb407 w74 GE407 BX))
     (try simp only [Act.put, List.setIfInBounds_toArray, List.set_cons_zero, List.set_cons_succ])
     go_cut [53] (fun v53 wc => ∃ (kq : Nat) (x53_70 : Bool), v53 = .bool x53_70 ∧ Aside0 (value_reckon.j0 kq x53_70 a1_0 a1_1 a2_0 a2_1 = some (r1, r2, r3, r4, r5, r6)) ∧ Aside0 (kq ≤ k) ∧ Bx w wc [(gb407, 25, #[.int .i64 0, .int .i64 0, .int .i64 0, .string (⟨#[]⟩ : ByteArray), .bool false, .int .i64 0]), (gb406, 23, #[.int .i64 a2_0, .int .i64 a2_1]), (gb405, 23, #[.int .i64 a1_0, .int .i64 a1_1])])
     case first =>
      have H := HC71.out
      clear HC71
      by_cases c75 : a1_0 = 0
      ·rw [if_pos c75] at H
       have c75b0 : (a1_0 == 0) = true := beq_iff_eq.mpr c75
       have c75b1 : (a1_0 != 0) = false := bne_eq_false_iff_eq.mpr c75
       clear c75
       (first | rw [c75b0] | (simp only [i64_w, i32_w]; rw [c75b0]) | skip)
       have H' := Aside0.mk H
       clear H
       go_wp2
       go_meet
       case rel => exact ⟨_, (decide (a2_0 < 0)), er, H', ⟨by first | omega | exact Nat.le_refl _⟩, bxs⟩
      ·rw [if_neg c75] at H
       have c75b0 : (a1_0 == 0) = false := beq_eq_false_iff_ne.mpr c75
       have c75b1 : (a1_0 != 0) = true := bne_iff_ne.mpr c75
       (first | rw [c75b0] | (simp only [i64_w, i32_w]; rw [c75b0]) | skip)
       have H' := Aside0.mk H
       clear H
       go_wp2
       go_meet
       case rel => exact ⟨_, (false), er, H', ⟨by first | omega | exact Nat.le_refl _⟩, bxs⟩
     case rest =>
      clear HC71
      try clear c1
      try clear c2
      try clear p2
      try clear c3
      try clear c4
      try clear c4b0
      try clear c4b1
      try clear c5
      try clear c6
      try clear c7
      try clear c8
      try clear c10
      try clear c11
      try clear c13
      try clear c18
      try clear c18b0
      try clear c18b1
      try clear c24
      try clear c25
      try clear c27
      try clear c32
      try clear c32b0
      try clear c32b1
      try clear c38
      try clear c39
      try clear c41
      try clear c45
      try clear c46
      try clear c46b0
      try clear c46b1
      try clear c47
      try clear c47b0
      try clear c47b1
      try clear c52
      try clear c53
      try clear c56
      try clear c63
      try clear c64
      try clear c66
      try clear c74
      try clear c75
      try clear c75b0
      try clear c75b1
      try clear c76
      try clear c77
      try clear c79
      try clear c81
      try clear c82
      obtain ⟨kq, x53_70, rfl, HA, HJ70, BX⟩ := hcut
      cases kq with
      | zero => exact absurd HA.out (by simp [value_reckon.j0])
      | succ kj70 =>
       have H := HA.out
       clear HA
       simp only [value_reckon.j0] at H
       by_cases c84 : x53_70 = true
       ·subst c84
        have H1 : ((value_Fault.f 1).bind fun bt450 => (some (bt450.1, bt450.2.1, bt450.2.2.1, bt450.2.2.2.1, bt450.2.2.2.2.1, bt450.2.2.2.2.2))) = some (r1, r2, r3, r4, r5, r6) := by rw [if_pos rfl] at H; exact H
        clear H
        have H := H1
        clear H1
        replace H := Option.bind_eq_some_iff.mp H
        obtain ⟨⟨t450, t451, t452, t453, t454, t455⟩, A850, H⟩ := H
        replace H : (some (t450, t451, t452, t453, t454, t455)) = some (r1, r2, r3, r4, r5, r6) := H
        have A85 := Aside0.mk A850
        clear A850
        simp only [Option.some.injEq, Prod.mk.injEq] at H
        obtain ⟨rfl, rfl, rfl, rfl, rfl, rfl⟩ := H
        go_wp2_with (first | ((with_reducible refine gate_callee (f := 25) rfl ?_); refine goesL_ (some 54) rfl rfl Tryd.func25 kr rfl #[.int .i64 1] rfl ga ?_; (with_reducible refine (value_Fault.calls 1 t450 t451 t452 t453 t454 t455 _ A85.out).mono ?_); rintro e w86 ⟨rfl, hb⟩; refine ⟨_, rfl, ?_⟩; replace BX := bx_call hb; clear hb))
        refine bodyPost_ret (results_cell_row rfl _ _ gb407 25 #[.int .i64 t450, .int .i64 t451, .int .i64 t452, .string t453, .bool t454, .int .i64 t455] (0, 0) _ rfl bx_get Tryd.underlying25 rfl kr) rfl ?_
        exact ⟨er2, bx_bl⟩
       ·replace c84 := Bool.eq_false_iff.mpr c84
        subst c84
        have H1 : ((num_Whole.f kj70 a2_0 a2_1).bind fun bt456 => (if bt456.2 = true then ((num_Pow.f kj70 a1_0 a1_1 bt456.1).bind fun bt458 => ((value_told.f kj70 bt458.1 bt458.2.1 bt458.2.2).bind fun bt461 => (some (bt461.1, bt461.2.1, bt461.2.2.1, bt461.2.2.2.1, bt461.2.2.2.2.1, bt461.2.2.2.2.2)))) else ((value_Fault.f 4).bind fun bt467 => (some (bt467.1, bt467.2.1, bt467.2.2.1, bt467.2.2.2.1, bt467.2.2.2.2.1, bt467.2.2.2.2.2))))) = some (r1, r2, r3, r4, r5, r6) := by rw [if_neg (show ¬ (false = true) by decide)] at H; exact H
        clear H
        have H := H1
        clear H1
        replace H := Option.bind_eq_some_iff.mp H
        obtain ⟨⟨t456, t457⟩, A900, H⟩ := H
        replace H : (if t457 = true then ((num_Pow.f kj70 a1_0 a1_1 t456).bind fun bt458 => ((value_told.f kj70 bt458.1 bt458.2.1 bt458.2.2).bind fun bt461 => (some (bt461.1, bt461.2.1, bt461.2.2.1, bt461.2.2.2.1, bt461.2.2.2.2.1, bt461.2.2.2.2.2)))) else ((value_Fault.f 4).bind fun bt467 => (some (bt467.1, bt467.2.1, bt467.2.2.1, bt467.2.2.2.1, bt467.2.2.2.2.1, bt467.2.2.2.2.2)))) = some (r1, r2, r3, r4, r5, r6) := H
        have A90 := Aside0.mk A900
        clear A900
        by_cases c91 : t457 = true
        ·subst c91
         have H1 : ((num_Pow.f kj70 a1_0 a1_1 t456).bind fun bt458 => ((value_told.f kj70 bt458.1 bt458.2.1 bt458.2.2).bind fun bt461 => (some (bt461.1, bt461.2.1, bt461.2.2.1, bt461.2.2.2.1, bt461.2.2.2.2.1, bt461.2.2.2.2.2)))) = some (r1, r2, r3, r4, r5, r6) := by rw [if_pos rfl] at H; exact H
         clear H
         have H := H1
         clear H1
         replace H := Option.bind_eq_some_iff.mp H
         obtain ⟨⟨t458, t459, t460⟩, A920, H⟩ := H
         have A92 := Aside0.mk A920
         clear A920
         replace H := Option.bind_eq_some_iff.mp H
         obtain ⟨⟨t461, t462, t463, t464, t465, t466⟩, A930, H⟩ := H
         replace H : (some (t461, t462, t463, t464, t465, t466)) = some (r1, r2, r3, r4, r5, r6) := H
         have A93 := Aside0.mk A930
         clear A930
         simp only [Option.some.injEq, Prod.mk.injEq] at H
         obtain ⟨rfl, rfl, rfl, rfl, rfl, rfl⟩ := H
         go_wp2_with (first | ((with_reducible refine gate_callee (f := 93) rfl ?_); refine goesL_ (some 57) rfl rfl Tryd.func93 kr rfl #[.agg #[.int .i64 a2_0, .int .i64 a2_1]] rfl ga ?_; (with_reducible refine (num_Whole.calls kj70 a2_0 a2_1 t456 true _ A90.out).mono ?_); rintro e w97 ⟨rfl, hb⟩; refine ⟨_, rfl, ?_⟩; replace BX := bx_call hb; clear hb) | ((with_reducible refine gate_callee (f := 94) rfl ?_); refine goesL_ (some 65) rfl rfl Tryd.func94 kr rfl #[.agg #[.int .i64 a1_0, .int .i64 a1_1], .int .i64 t456] rfl ga ?_; (with_reducible refine (num_Pow.calls kj70 a1_0 a1_1 t456 t458 t459 t460 _ A92.out).mono ?_); rintro e w100 ⟨rfl, hb⟩; refine ⟨_, rfl, ?_⟩; replace BX := bx_call hb; clear hb) | ((with_reducible refine gate_callee (f := 74) rfl ?_); refine goesL_ (some 68) rfl rfl Tryd.func74 kr rfl #[.agg #[.int .i64 t458, .int .i64 t459], .bool t460] rfl ga ?_; (with_reducible refine (value_told.calls kj70 t458 t459 t460 t461 t462 t463 t464 t465 t466 _ A93.out).mono ?_); rintro e w101 ⟨rfl, hb⟩; refine ⟨_, rfl, ?_⟩; replace BX := bx_call hb; clear hb))
         refine bodyPost_ret (results_cell_row rfl _ _ gb407 25 #[.int .i64 t461, .int .i64 t462, .int .i64 t463, .string t464, .bool t465, .int .i64 t466] (0, 0) _ rfl bx_get Tryd.underlying25 rfl kr) rfl ?_
         exact ⟨er2, bx_bl⟩
        ·replace c91 := Bool.eq_false_iff.mpr c91
         subst c91
         have H1 : ((value_Fault.f 4).bind fun bt467 => (some (bt467.1, bt467.2.1, bt467.2.2.1, bt467.2.2.2.1, bt467.2.2.2.2.1, bt467.2.2.2.2.2))) = some (r1, r2, r3, r4, r5, r6) := by rw [if_neg (show ¬ (false = true) by decide)] at H; exact H
         clear H
         have H := H1
         clear H1
         replace H := Option.bind_eq_some_iff.mp H
         obtain ⟨⟨t467, t468, t469, t470, t471, t472⟩, A1030, H⟩ := H
         replace H : (some (t467, t468, t469, t470, t471, t472)) = some (r1, r2, r3, r4, r5, r6) := H
         have A103 := Aside0.mk A1030
         clear A1030
         simp only [Option.some.injEq, Prod.mk.injEq] at H
         obtain ⟨rfl, rfl, rfl, rfl, rfl, rfl⟩ := H
         go_wp2_with (first | ((with_reducible refine gate_callee (f := 93) rfl ?_); refine goesL_ (some 57) rfl rfl Tryd.func93 kr rfl #[.agg #[.int .i64 a2_0, .int .i64 a2_1]] rfl ga ?_; (with_reducible refine (num_Whole.calls kj70 a2_0 a2_1 t456 false _ A90.out).mono ?_); rintro e w107 ⟨rfl, hb⟩; refine ⟨_, rfl, ?_⟩; replace BX := bx_call hb; clear hb) | ((with_reducible refine gate_callee (f := 25) rfl ?_); refine goesL_ (some 62) rfl rfl Tryd.func25 kr rfl #[.int .i64 4] rfl ga ?_; (with_reducible refine (value_Fault.calls 4 t467 t468 t469 t470 t471 t472 _ A103.out).mono ?_); rintro e w108 ⟨rfl, hb⟩; refine ⟨_, rfl, ?_⟩; replace BX := bx_call hb; clear hb))
         refine bodyPost_ret (results_cell_row rfl _ _ gb407 25 #[.int .i64 t467, .int .i64 t468, .int .i64 t469, .string t470, .bool t471, .int .i64 t472] (0, 0) _ rfl bx_get Tryd.underlying25 rfl kr) rfl ?_
         exact ⟨er2, bx_bl⟩
end
section
/-! ### value_Bin: function 31 -/
def value_Bin.j0 : Nat → Int → Bool → Int → Int → Int → ByteArray → Bool → Int → Int → Int → Int → ByteArray → Bool → Int → Option (Int × Int × Int × ByteArray × Bool × Int)
 | 0, _, _, _, _, _, _, _, _, _, _, _, _, _, _ => none
 | k + 1, x0, x18, x474000, x474001, x474002, x474003, x474004, x474005, x475000, x475001, x475002, x475003, x475004, x475005 => if x18 = true then ((value_Fault.f 2).bind fun bt488 => (some (bt488.1, bt488.2.1, bt488.2.2.1, bt488.2.2.2.1, bt488.2.2.2.2.1, bt488.2.2.2.2.2))) else (if x474000 = 4 then (some (x474000, x474001, x474002, x474003, x474004, x474005)) else (if x475000 = 4 then (some (x475000, x475001, x475002, x475003, x475004, x475005)) else (if x0 ≥ 21 then ((value_Cmp.f k x474000 x474001 x474002 x474003 x474004 x474005 x475000 x475001 x475002 x475003 x475004 x475005).bind fun t494 => ((value_holds.f x0 t494).bind fun t495 => ((value_Truth.f t495).bind fun bt496 => (some (bt496.1, bt496.2.1, bt496.2.2.1, bt496.2.2.2.1, bt496.2.2.2.2.1, bt496.2.2.2.2.2))))) else (if x0 = 16 then ((value_AsText.f k x474000 x474001 x474002 x474003 x474004 x474005).bind fun bt502 => ((value_AsText.f k x475000 x475001 x475002 x475003 x475004 x475005).bind fun bt510 => (if bt502.1.size + bt510.1.size ≤ 9223372036854775807 then ((value_Text.f k (bt502.1 ++ bt510.1)).bind fun bt518 => (some (bt518.1, bt518.2.1, bt518.2.2.1, bt518.2.2.2.1, bt518.2.2.2.2.1, bt518.2.2.2.2.2))) else (none)))) else ((value_AsNumber.f k x474000 x474001 x474002 x474003 x474004 x474005).bind fun bt524 => (if bt524.2.2.1 = 4 then (some (bt524.2.2.1, bt524.2.2.2.1, bt524.2.2.2.2.1, bt524.2.2.2.2.2.1, bt524.2.2.2.2.2.2.1, bt524.2.2.2.2.2.2.2)) else ((value_AsNumber.f k x475000 x475001 x475002 x475003 x475004 x475005).bind fun bt534 => (if bt534.2.2.1 = 4 then (some (bt534.2.2.1, bt534.2.2.2.1, bt534.2.2.2.2.1, bt534.2.2.2.2.2.1, bt534.2.2.2.2.2.2.1, bt534.2.2.2.2.2.2.2)) else ((value_reckon.f k x0 bt524.1 bt524.2.1 bt534.1 bt534.2.1).bind fun bt543 => (some (bt543.1, bt543.2.1, bt543.2.2.1, bt543.2.2.2.1, bt543.2.2.2.2.1, bt543.2.2.2.2.2)))))))))))
def value_Bin.f (k : Nat) (a0 : Int) (a1_0 : Int) (a1_1 : Int) (a1_2 : Int) (a1_3 : ByteArray) (a1_4 : Bool) (a1_5 : Int) (a2_0 : Int) (a2_1 : Int) (a2_2 : Int) (a2_3 : ByteArray) (a2_4 : Bool) (a2_5 : Int) : Option (Int × Int × Int × ByteArray × Bool × Int) := (value_taken.f k a1_0 a1_1 a1_2 a1_3 a1_4 a1_5).bind fun bt476 => ((value_taken.f k a2_0 a2_1 a2_2 a2_3 a2_4 a2_5).bind fun bt482 => (if a0 < 11 then (if a0 < 21 then (value_Bin.j0 k a0 true bt476.1 bt476.2.1 bt476.2.2.1 bt476.2.2.2.1 bt476.2.2.2.2.1 bt476.2.2.2.2.2 bt482.1 bt482.2.1 bt482.2.2.1 bt482.2.2.2.1 bt482.2.2.2.2.1 bt482.2.2.2.2.2) else (value_Bin.j0 k a0 (decide (a0 > 26)) bt476.1 bt476.2.1 bt476.2.2.1 bt476.2.2.2.1 bt476.2.2.2.2.1 bt476.2.2.2.2.2 bt482.1 bt482.2.1 bt482.2.2.1 bt482.2.2.2.1 bt482.2.2.2.2.1 bt482.2.2.2.2.2)) else (if a0 > 16 then (if a0 < 21 then (value_Bin.j0 k a0 true bt476.1 bt476.2.1 bt476.2.2.1 bt476.2.2.2.1 bt476.2.2.2.2.1 bt476.2.2.2.2.2 bt482.1 bt482.2.1 bt482.2.2.1 bt482.2.2.2.1 bt482.2.2.2.2.1 bt482.2.2.2.2.2) else (value_Bin.j0 k a0 (decide (a0 > 26)) bt476.1 bt476.2.1 bt476.2.2.1 bt476.2.2.2.1 bt476.2.2.2.2.1 bt476.2.2.2.2.2 bt482.1 bt482.2.1 bt482.2.2.1 bt482.2.2.2.1 bt482.2.2.2.2.1 bt482.2.2.2.2.2)) else (value_Bin.j0 k a0 false bt476.1 bt476.2.1 bt476.2.2.1 bt476.2.2.2.1 bt476.2.2.2.2.1 bt476.2.2.2.2.2 bt482.1 bt482.2.1 bt482.2.2.1 bt482.2.2.2.1 bt482.2.2.2.2.1 bt482.2.2.2.2.2))))
theorem value_Bin.mono_l : ∀ k, (∀ y0 y1 y2 y3 y4 y5 y6 y7 y8 y9 y10 y11 y12 y13, LeO (value_Bin.j0 k y0 y1 y2 y3 y4 y5 y6 y7 y8 y9 y10 y11 y12 y13) (value_Bin.j0 (k + 1) y0 y1 y2 y3 y4 y5 y6 y7 y8 y9 y10 y11 y12 y13))
 | 0 => fun _ _ _ _ _ _ _ _ _ _ _ _ _ _ r h => by simp [value_Bin.j0] at h
 | k + 1 => by
  have ih0 := value_Bin.mono_l k
  ·intro y0 y1 y2 y3 y4 y5 y6 y7 y8 y9 y10 y11 y12 y13
   unfold value_Bin.j0
   repeat' first
   | (with_reducible exact ih0 _ _ _ _ _ _ _ _ _ _ _ _ _ _)
   | (with_reducible exact value_AsNumber.mono _ _ _ _ _ _ _)
   | (with_reducible exact value_AsText.mono _ _ _ _ _ _ _)
   | (with_reducible exact value_Cmp.mono _ _ _ _ _ _ _ _ _ _ _ _ _)
   | (with_reducible exact value_Text.mono _ _)
   | (with_reducible exact value_reckon.mono _ _ _ _ _ _)
   | (with_reducible exact value_taken.mono _ _ _ _ _ _ _)
   | (with_reducible exact LeO.refl _)
   | (with_reducible exact LeO.none _)
   | (with_reducible refine LeO.ite ?_ ?_)
   | (with_reducible refine LeO.bind ?_ (fun _ => ?_))
   | exact ih0 _ _ _ _ _ _ _ _ _ _ _ _ _ _
   | exact value_AsNumber.mono _ _ _ _ _ _ _
   | exact value_AsText.mono _ _ _ _ _ _ _
   | exact value_Cmp.mono _ _ _ _ _ _ _ _ _ _ _ _ _
   | exact value_Text.mono _ _
   | exact value_reckon.mono _ _ _ _ _ _
   | exact value_taken.mono _ _ _ _ _ _ _
   | exact LeO.none _
   | refine LeO.ite ?_ ?_
   | refine LeO.bind ?_ (fun _ => ?_)
theorem value_Bin.mono : ∀ a0 a1 a2 a3 a4 a5 a6 a7 a8 a9 a10 a11 a12 k, LeO (value_Bin.f k a0 a1 a2 a3 a4 a5 a6 a7 a8 a9 a10 a11 a12) (value_Bin.f (k + 1) a0 a1 a2 a3 a4 a5 a6 a7 a8 a9 a10 a11 a12) := by
 intro a0 a1 a2 a3 a4 a5 a6 a7 a8 a9 a10 a11 a12 k
 have ih0 := value_Bin.mono_l k
 unfold value_Bin.f
 repeat' first
   | (with_reducible exact ih0 _ _ _ _ _ _ _ _ _ _ _ _ _ _)
   | (with_reducible exact value_AsNumber.mono _ _ _ _ _ _ _)
   | (with_reducible exact value_AsText.mono _ _ _ _ _ _ _)
   | (with_reducible exact value_Cmp.mono _ _ _ _ _ _ _ _ _ _ _ _ _)
   | (with_reducible exact value_Text.mono _ _)
   | (with_reducible exact value_reckon.mono _ _ _ _ _ _)
   | (with_reducible exact value_taken.mono _ _ _ _ _ _ _)
   | (with_reducible exact LeO.refl _)
   | (with_reducible exact LeO.none _)
   | (with_reducible refine LeO.ite ?_ ?_)
   | (with_reducible refine LeO.bind ?_ (fun _ => ?_))
   | exact ih0 _ _ _ _ _ _ _ _ _ _ _ _ _ _
   | exact value_AsNumber.mono _ _ _ _ _ _ _
   | exact value_AsText.mono _ _ _ _ _ _ _
   | exact value_Cmp.mono _ _ _ _ _ _ _ _ _ _ _ _ _
   | exact value_Text.mono _ _
   | exact value_reckon.mono _ _ _ _ _ _
   | exact value_taken.mono _ _ _ _ _ _ _
   | exact LeO.none _
   | refine LeO.ite ?_ ?_
   | refine LeO.bind ?_ (fun _ => ?_)
set_option maxHeartbeats 8000000 in
set_option maxRecDepth 100000 in
theorem value_Bin.calls (k : Nat) (a0 : Int) (a1_0 : Int) (a1_1 : Int) (a1_2 : Int) (a1_3 : ByteArray) (a1_4 : Bool) (a1_5 : Int) (a2_0 : Int) (a2_1 : Int) (a2_2 : Int) (a2_3 : ByteArray) (a2_4 : Bool) (a2_5 : Int) (r1 : Int) (r2 : Int) (r3 : Int) (r4 : ByteArray) (r5 : Bool) (r6 : Int) (w : World) (HT0 : TabAt w) (h : value_Bin.f k a0 a1_0 a1_1 a1_2 a1_3 a1_4 a1_5 a2_0 a2_1 a2_2 a2_3 a2_4 a2_5 = some (r1, r2, r3, r4, r5, r6)) :
  Calls Tryd.prog 31 #[.int .i64 a0, .agg #[.int .i64 a1_0, .int .i64 a1_1, .int .i64 a1_2, .string a1_3, .bool a1_4, .int .i64 a1_5], .agg #[.int .i64 a2_0, .int .i64 a2_1, .int .i64 a2_2, .string a2_3, .bool a2_4, .int .i64 a2_5]] w fun e w' => e = .returned (.agg #[.int .i64 r1, .int .i64 r2, .int .i64 r3, .string r4, .bool r5, .int .i64 r6]) ∧ Below w.heap.size w w' := by
 have hu25 := Tryd.underlying25
 have hu23 := Tryd.underlying23
 have HT := Aside0.mk HT0
 clear HT0
 have BX := Bx.start w
 have H : ((value_taken.f k a1_0 a1_1 a1_2 a1_3 a1_4 a1_5).bind fun bt476 => ((value_taken.f k a2_0 a2_1 a2_2 a2_3 a2_4 a2_5).bind fun bt482 => (if a0 < 11 then (if a0 < 21 then (value_Bin.j0 k a0 true bt476.1 bt476.2.1 bt476.2.2.1 bt476.2.2.2.1 bt476.2.2.2.2.1 bt476.2.2.2.2.2 bt482.1 bt482.2.1 bt482.2.2.1 bt482.2.2.2.1 bt482.2.2.2.2.1 bt482.2.2.2.2.2) else (value_Bin.j0 k a0 (decide (a0 > 26)) bt476.1 bt476.2.1 bt476.2.2.1 bt476.2.2.2.1 bt476.2.2.2.2.1 bt476.2.2.2.2.2 bt482.1 bt482.2.1 bt482.2.2.1 bt482.2.2.2.1 bt482.2.2.2.2.1 bt482.2.2.2.2.2)) else (if a0 > 16 then (if a0 < 21 then (value_Bin.j0 k a0 true bt476.1 bt476.2.1 bt476.2.2.1 bt476.2.2.2.1 bt476.2.2.2.2.1 bt476.2.2.2.2.2 bt482.1 bt482.2.1 bt482.2.2.1 bt482.2.2.2.1 bt482.2.2.2.2.1 bt482.2.2.2.2.2) else (value_Bin.j0 k a0 (decide (a0 > 26)) bt476.1 bt476.2.1 bt476.2.2.1 bt476.2.2.2.1 bt476.2.2.2.2.1 bt476.2.2.2.2.2 bt482.1 bt482.2.1 bt482.2.2.1 bt482.2.2.2.1 bt482.2.2.2.2.1 bt482.2.2.2.2.2)) else (value_Bin.j0 k a0 false bt476.1 bt476.2.1 bt476.2.2.1 bt476.2.2.2.1 bt476.2.2.2.2.1 bt476.2.2.2.2.2 bt482.1 bt482.2.1 bt482.2.2.1 bt482.2.2.2.1 bt482.2.2.2.2.1 bt482.2.2.2.2.2))))) = some (r1, r2, r3, r4, r5, r6) := h
 clear h
 replace H := Option.bind_eq_some_iff.mp H
 obtain ⟨⟨t476, t477, t478, t479, t480, t481⟩, A40, H⟩ := H
 have A4 := Aside0.mk A40
 clear A40
 replace H := Option.bind_eq_some_iff.mp H
 obtain ⟨⟨t482, t483, t484, t485, t486, t487⟩, A50, H⟩ := H
 replace H : (if a0 < 11 then (if a0 < 21 then (value_Bin.j0 k a0 true t476 t477 t478 t479 t480 t481 t482 t483 t484 t485 t486 t487) else (value_Bin.j0 k a0 (decide (a0 > 26)) t476 t477 t478 t479 t480 t481 t482 t483 t484 t485 t486 t487)) else (if a0 > 16 then (if a0 < 21 then (value_Bin.j0 k a0 true t476 t477 t478 t479 t480 t481 t482 t483 t484 t485 t486 t487) else (value_Bin.j0 k a0 (decide (a0 > 26)) t476 t477 t478 t479 t480 t481 t482 t483 t484 t485 t486 t487)) else (value_Bin.j0 k a0 false t476 t477 t478 t479 t480 t481 t482 t483 t484 t485 t486 t487))) = some (r1, r2, r3, r4, r5, r6) := H
 have A5 := Aside0.mk A50
 clear A50
 have HC6 := Aside0.mk H
 clear H
 go_enter Tryd.func31, Tryd.ntmps31
 try go_wp2_with (first | ((with_reducible refine gate_dst (N := 4) rfl ?_); refine bxe 4 #[.int .i64 a1_0, .int .i64 a1_1, .int .i64 a1_2, .string a1_3, .bool a1_4, .int .i64 a1_5] 25 rfl rfl gr ?_; clear BX; intro gb473 w7 GE473 BX) | ((with_reducible refine gate_dst (N := 5) rfl ?_); refine bxe 5 #[.int .i64 a2_0, .int .i64 a2_1, .int .i64 a2_2, .string a2_3, .bool a2_4, .int .i64 a2_5] 25 rfl rfl gr ?_; clear BX; intro gb474 w8 GE474 BX) | ((with_reducible refine gate_dst (N := 6) rfl ?_); refine bxe 6 #[.int .i64 0, .int .i64 0, .int .i64 0, .string (⟨#[]⟩ : ByteArray), .bool false, .int .i64 0] 25 rfl rfl gr ?_; clear BX; intro gb475 w9 GE475 BX))
 refine startm [false, true, true] (n := 6) (ds := [4, 5]) #[false, false, false, false, false, false] kr rfl rfl (fun BX1 => ?_)
 clear BX
 have BX := BX1
 clear BX1
 generalize w9.drew = w10 at BX ⊢
 refine take_ (i := 0) (N := some 14) (v := ?_) (a' := ?_) #[true, false, false, false, false, false] rfl rfl kr (fun _ _ _ h => h) (Or.inl ⟨by rfl, ?_⟩) bxs ?_ ?_
 rotate_left
 ·intro w' hS
  go_simp
  with_reducible rfl
 rotate_left
 ·simp only [Act.put, List.setIfInBounds_toArray, List.set_cons_zero, List.set_cons_succ, i64_w, i32_w]
  rfl
 refine take_ (i := 2) (N := some 16) (v := ?_) (a' := ?_) #[true, false, true, false, false, false] rfl rfl kr (fun _ _ _ h => h) (Or.inl ⟨by rfl, ?_⟩) bxs ?_ ?_
 rotate_left
 ·intro w' hS
  go_simp
  with_reducible rfl
 rotate_left
 ·simp only [Act.put, List.setIfInBounds_toArray, List.set_cons_zero, List.set_cons_succ, i64_w, i32_w]
  rfl
 refine one_ (i := 1) (N := some 15) #[true, true, true, false, false, false] rfl rfl kr (by decide) (fun K hK => ?_)
 refine goes_ Tryd.func59 kr rfl #[.agg #[.int .i64 a1_0, .int .i64 a1_1, .int .i64 a1_2, .string a1_3, .bool a1_4, .int .i64 a1_5]] (by rfl) rfl rfl ga ?_
 with_reducible refine (value_taken.calls k a1_0 a1_1 a1_2 a1_3 a1_4 a1_5 t476 t477 t478 t479 t480 t481 _ A4.out).mono ?_
 rintro e w11 ⟨rfl, hb⟩
 refine ⟨_, rfl, ?_⟩
 replace BX := bx_call hb
 clear hb
 refine hK.out _ _ bxs (fun hHeld => ?_)
 clear hK K hHeld
 refine norm_ (a' := ?_) ?_ ?_
 rotate_left
 ·show Act.put _ (some 15) _ = _
  simp only [Act.put, List.setIfInBounds_toArray, List.set_cons_zero, List.set_cons_succ, i64_w, i32_w]
  rfl
 refine one_ (i := 3) (N := some 17) #[true, true, true, true, false, false] rfl rfl kr (by decide) (fun K hK => ?_)
 refine goes_ Tryd.func59 kr rfl #[.agg #[.int .i64 a2_0, .int .i64 a2_1, .int .i64 a2_2, .string a2_3, .bool a2_4, .int .i64 a2_5]] (by rfl) rfl rfl ga ?_
 with_reducible refine (value_taken.calls k a2_0 a2_1 a2_2 a2_3 a2_4 a2_5 t482 t483 t484 t485 t486 t487 _ A5.out).mono ?_
 rintro e w12 ⟨rfl, hb⟩
 refine ⟨_, rfl, ?_⟩
 replace BX := bx_call hb
 clear hb
 refine hK.out _ _ bxs (fun hHeld => ?_)
 clear hK K hHeld
 refine norm_ (a' := ?_) ?_ ?_
 rotate_left
 ·show Act.put _ (some 17) _ = _
  simp only [Act.put, List.setIfInBounds_toArray, List.set_cons_zero, List.set_cons_succ, i64_w, i32_w]
  rfl
 refine last_ (i := 4) (N := none) #[true, true, true, true, true, false] rfl rfl kr (by decide) (fun K hK => ?_)
 refine skip_ (w1 := ?_) (by rfl) rfl ?_ ?_
 rotate_left
 ·go_simp
  rfl
 refine hK.out _ _ (name_any fun wq BXq => ?_)
 clear hK K BX
 have BX := BXq
 clear BXq
 refine last_ (i := 5) (N := none) #[true, true, true, true, true, true] rfl rfl kr (by decide) (fun K hK => ?_)
 refine skip_ (w1 := ?_) (by rfl) rfl ?_ ?_
 rotate_left
 ·go_simp
  rfl
 refine hK.out _ _ (name_any fun wq BXq => ?_)
 clear hK K BX
 have BX := BXq
 clear BXq
 refine done_ kr ?_
 go_upto_region 2 with (fail)
 go_cut [18] (fun v18 wc => ∃ (kq : Nat) (x18_5 : Bool), v18 = .bool x18_5 ∧ Aside0 (value_Bin.j0 kq a0 x18_5 t476 t477 t478 t479 t480 t481 t482 t483 t484 t485 t486 t487 = some (r1, r2, r3, r4, r5, r6)) ∧ Aside0 (kq ≤ k) ∧ Bx w wc [(gb475, 25, #[.int .i64 0, .int .i64 0, .int .i64 0, .string (⟨#[]⟩ : ByteArray), .bool false, .int .i64 0]), (gb474, 25, #[.int .i64 t482, .int .i64 t483, .int .i64 t484, .string t485, .bool t486, .int .i64 t487]), (gb473, 25, #[.int .i64 t476, .int .i64 t477, .int .i64 t478, .string t479, .bool t480, .int .i64 t481])])
 case first =>
  have H := HC6.out
  clear HC6
  by_cases c25 : a0 < 11
  ·rw [if_pos c25] at H
   have c25b0 : decide (a0 < 11) = true := decide_eq_true c25
   clear c25
   (first | rw [c25b0] | (simp only [i64_w, i32_w]; rw [c25b0]) | skip)
   by_cases c26 : a0 < 21
   ·rw [if_pos c26] at H
    have c26b0 : decide (a0 < 21) = true := decide_eq_true c26
    clear c26
    have H' := Aside0.mk H
    clear H
    go_wp2
    go_meet
    case rel => exact ⟨_, (true), er, H', ⟨by first | omega | exact Nat.le_refl _⟩, bxs⟩
   ·rw [if_neg c26] at H
    have c26b0 : decide (a0 < 21) = false := decide_eq_false c26
    clear c26
    have H' := Aside0.mk H
    clear H
    go_wp2
    go_meet
    case rel => exact ⟨_, (decide (a0 > 26)), er, H', ⟨by first | omega | exact Nat.le_refl _⟩, bxs⟩
  ·rw [if_neg c25] at H
   have c25b0 : decide (a0 < 11) = false := decide_eq_false c25
   clear c25
   (first | rw [c25b0] | (simp only [i64_w, i32_w]; rw [c25b0]) | skip)
   by_cases c27 : a0 > 16
   ·rw [if_pos c27] at H
    have c27b0 : decide (16 < a0) = true := decide_eq_true c27
    clear c27
    by_cases c28 : a0 < 21
    ·rw [if_pos c28] at H
     have c28b0 : decide (a0 < 21) = true := decide_eq_true c28
     clear c28
     have H' := Aside0.mk H
     clear H
     go_wp2
     go_meet
     case rel => exact ⟨_, (true), er, H', ⟨by first | omega | exact Nat.le_refl _⟩, bxs⟩
    ·rw [if_neg c28] at H
     have c28b0 : decide (a0 < 21) = false := decide_eq_false c28
     clear c28
     have H' := Aside0.mk H
     clear H
     go_wp2
     go_meet
     case rel => exact ⟨_, (decide (a0 > 26)), er, H', ⟨by first | omega | exact Nat.le_refl _⟩, bxs⟩
   ·rw [if_neg c27] at H
    have c27b0 : decide (16 < a0) = false := decide_eq_false c27
    clear c27
    have H' := Aside0.mk H
    clear H
    go_wp2
    go_meet
    case rel => exact ⟨_, (false), er, H', ⟨by first | omega | exact Nat.le_refl _⟩, bxs⟩
 case rest =>
  clear HC6
  try clear c2
  try clear p2
  try clear c3
  try clear c5
  try clear c25
  try clear c25b0
  try clear c26
  try clear c26b0
  try clear c27
  try clear c27b0
  try clear c28
  try clear c28b0
  obtain ⟨kq, x18_5, rfl, HA, HJ5, BX⟩ := hcut
  cases kq with
  | zero => exact absurd HA.out (by simp [value_Bin.j0])
  | succ kj5 =>
   have H := HA.out
   clear HA
   simp only [value_Bin.j0] at H
   by_cases c29 : x18_5 = true
   ·subst c29
    have H1 : ((value_Fault.f 2).bind fun bt488 => (some (bt488.1, bt488.2.1, bt488.2.2.1, bt488.2.2.2.1, bt488.2.2.2.2.1, bt488.2.2.2.2.2))) = some (r1, r2, r3, r4, r5, r6) := by rw [if_pos rfl] at H; exact H
    clear H
    have H := H1
    clear H1
    replace H := Option.bind_eq_some_iff.mp H
    obtain ⟨⟨t488, t489, t490, t491, t492, t493⟩, A300, H⟩ := H
    replace H : (some (t488, t489, t490, t491, t492, t493)) = some (r1, r2, r3, r4, r5, r6) := H
    have A30 := Aside0.mk A300
    clear A300
    simp only [Option.some.injEq, Prod.mk.injEq] at H
    obtain ⟨rfl, rfl, rfl, rfl, rfl, rfl⟩ := H
    go_wp2_with (first | ((with_reducible refine gate_callee (f := 25) rfl ?_); refine goesL_ (some 33) rfl rfl Tryd.func25 kr rfl #[.int .i64 2] rfl ga ?_; (with_reducible refine (value_Fault.calls 2 t488 t489 t490 t491 t492 t493 _ A30.out).mono ?_); rintro e w31 ⟨rfl, hb⟩; refine ⟨_, rfl, ?_⟩; replace BX := bx_call hb; clear hb))
    refine bodyPost_ret (results_cell_row rfl _ _ gb475 25 #[.int .i64 t488, .int .i64 t489, .int .i64 t490, .string t491, .bool t492, .int .i64 t493] (0, 0) _ rfl bx_get Tryd.underlying25 rfl kr) rfl ?_
    exact ⟨er2, bx_bl⟩
   ·replace c29 := Bool.eq_false_iff.mpr c29
    subst c29
    have H1 : (if t476 = 4 then (some (t476, t477, t478, t479, t480, t481)) else (if t482 = 4 then (some (t482, t483, t484, t485, t486, t487)) else (if a0 ≥ 21 then ((value_Cmp.f kj5 t476 t477 t478 t479 t480 t481 t482 t483 t484 t485 t486 t487).bind fun t494 => ((value_holds.f a0 t494).bind fun t495 => ((value_Truth.f t495).bind fun bt496 => (some (bt496.1, bt496.2.1, bt496.2.2.1, bt496.2.2.2.1, bt496.2.2.2.2.1, bt496.2.2.2.2.2))))) else (if a0 = 16 then ((value_AsText.f kj5 t476 t477 t478 t479 t480 t481).bind fun bt502 => ((value_AsText.f kj5 t482 t483 t484 t485 t486 t487).bind fun bt510 => (if bt502.1.size + bt510.1.size ≤ 9223372036854775807 then ((value_Text.f kj5 (bt502.1 ++ bt510.1)).bind fun bt518 => (some (bt518.1, bt518.2.1, bt518.2.2.1, bt518.2.2.2.1, bt518.2.2.2.2.1, bt518.2.2.2.2.2))) else (none)))) else ((value_AsNumber.f kj5 t476 t477 t478 t479 t480 t481).bind fun bt524 => (if bt524.2.2.1 = 4 then (some (bt524.2.2.1, bt524.2.2.2.1, bt524.2.2.2.2.1, bt524.2.2.2.2.2.1, bt524.2.2.2.2.2.2.1, bt524.2.2.2.2.2.2.2)) else ((value_AsNumber.f kj5 t482 t483 t484 t485 t486 t487).bind fun bt534 => (if bt534.2.2.1 = 4 then (some (bt534.2.2.1, bt534.2.2.2.1, bt534.2.2.2.2.1, bt534.2.2.2.2.2.1, bt534.2.2.2.2.2.2.1, bt534.2.2.2.2.2.2.2)) else ((value_reckon.f kj5 a0 bt524.1 bt524.2.1 bt534.1 bt534.2.1).bind fun bt543 => (some (bt543.1, bt543.2.1, bt543.2.2.1, bt543.2.2.2.1, bt543.2.2.2.2.1, bt543.2.2.2.2.2))))))))))) = some (r1, r2, r3, r4, r5, r6) := by rw [if_neg (show ¬ (false = true) by decide)] at H; exact H
    clear H
    have H := H1
    clear H1
    by_cases c35 : t476 = 4
    ·rw [if_pos c35] at H
     have c35b0 : (t476 == 4) = true := beq_iff_eq.mpr c35
     have c35b1 : (t476 != 4) = false := bne_eq_false_iff_eq.mpr c35
     clear c35
     simp only [Option.some.injEq, Prod.mk.injEq] at H
     obtain ⟨rfl, rfl, rfl, rfl, rfl, rfl⟩ := H
     go_wp2
     refine bodyPost_ret (results_cell_row rfl _ _ gb475 25 #[.int .i64 t476, .int .i64 t477, .int .i64 t478, .string t479, .bool t480, .int .i64 t481] (0, 0) _ rfl bx_get Tryd.underlying25 rfl kr) rfl ?_
     exact ⟨er2, bx_bl⟩
    ·rw [if_neg c35] at H
     have c35b0 : (t476 == 4) = false := beq_eq_false_iff_ne.mpr c35
     have c35b1 : (t476 != 4) = true := bne_iff_ne.mpr c35
     by_cases c41 : t482 = 4
     ·rw [if_pos c41] at H
      have c41b0 : (t482 == 4) = true := beq_iff_eq.mpr c41
      have c41b1 : (t482 != 4) = false := bne_eq_false_iff_eq.mpr c41
      clear c41
      simp only [Option.some.injEq, Prod.mk.injEq] at H
      obtain ⟨rfl, rfl, rfl, rfl, rfl, rfl⟩ := H
      go_wp2
      refine bodyPost_ret (results_cell_row rfl _ _ gb475 25 #[.int .i64 t482, .int .i64 t483, .int .i64 t484, .string t485, .bool t486, .int .i64 t487] (0, 0) _ rfl bx_get Tryd.underlying25 rfl kr) rfl ?_
      exact ⟨er2, bx_bl⟩
     ·rw [if_neg c41] at H
      have c41b0 : (t482 == 4) = false := beq_eq_false_iff_ne.mpr c41
      have c41b1 : (t482 != 4) = true := bne_iff_ne.mpr c41
      by_cases c48 : a0 ≥ 21
      ·rw [if_pos c48] at H
       have c48b0 : decide (21 ≤ a0) = true := decide_eq_true c48
       clear c48
       replace H := Option.bind_eq_some_iff.mp H
       obtain ⟨t494, A490, H⟩ := H
       have A49 := Aside0.mk A490
       clear A490
       replace H := Option.bind_eq_some_iff.mp H
       obtain ⟨t495, A500, H⟩ := H
       have A50 := Aside0.mk A500
       clear A500
       replace H := Option.bind_eq_some_iff.mp H
       obtain ⟨⟨t496, t497, t498, t499, t500, t501⟩, A510, H⟩ := H
       replace H : (some (t496, t497, t498, t499, t500, t501)) = some (r1, r2, r3, r4, r5, r6) := H
       have A51 := Aside0.mk A510
       clear A510
       simp only [Option.some.injEq, Prod.mk.injEq] at H
       obtain ⟨rfl, rfl, rfl, rfl, rfl, rfl⟩ := H
       go_wp2_with (first | ((with_reducible refine gate_callee (f := 32) rfl ?_); refine goesL_ (some 50) rfl rfl Tryd.func32 kr rfl #[.agg #[.int .i64 t476, .int .i64 t477, .int .i64 t478, .string t479, .bool t480, .int .i64 t481], .agg #[.int .i64 t482, .int .i64 t483, .int .i64 t484, .string t485, .bool t486, .int .i64 t487]] rfl ga ?_; (with_reducible refine (value_Cmp.calls kj5 t476 t477 t478 t479 t480 t481 t482 t483 t484 t485 t486 t487 t494 _ A49.out).mono ?_); rintro e w57 ⟨rfl, hb⟩; refine ⟨_, rfl, ?_⟩; replace BX := bx_call hb; clear hb) | ((with_reducible refine gate_callee (f := 63) rfl ?_); refine goesL_ (some 51) rfl rfl Tryd.func63 kr rfl #[.int .i64 a0, .int .i64 t494] rfl ga ?_; (with_reducible refine (value_holds.calls a0 t494 t495 _ A50.out).mono ?_); rintro e w' ⟨rfl, ⟨nd, rfl⟩⟩; refine ⟨_, rfl, ?_⟩) | ((with_reducible refine gate_callee (f := 23) rfl ?_); refine goesL_ (some 52) rfl rfl Tryd.func23 kr rfl #[.bool t495] rfl ga ?_; (with_reducible refine (value_Truth.calls t495 t496 t497 t498 t499 t500 t501 _ A51.out).mono ?_); rintro e w61 ⟨rfl, hb⟩; refine ⟨_, rfl, ?_⟩; replace BX := bx_call hb; clear hb))
       refine bodyPost_ret (results_cell_row rfl _ _ gb475 25 #[.int .i64 t496, .int .i64 t497, .int .i64 t498, .string t499, .bool t500, .int .i64 t501] (0, 0) _ rfl bx_get Tryd.underlying25 rfl kr) rfl ?_
       exact ⟨er2, bx_bl⟩
      ·rw [if_neg c48] at H
       have c48b0 : decide (21 ≤ a0) = false := decide_eq_false c48
       clear c48
       by_cases c63 : a0 = 16
       ·rw [if_pos c63] at H
        have c63b0 : (a0 == 16) = true := beq_iff_eq.mpr c63
        have c63b1 : (a0 != 16) = false := bne_eq_false_iff_eq.mpr c63
        clear c63
        replace H := Option.bind_eq_some_iff.mp H
        obtain ⟨⟨t502, t503, t504, t505, t506, t507, t508⟩, A640, H⟩ := H
        have A64 := Aside0.mk A640
        clear A640
        replace H := Option.bind_eq_some_iff.mp H
        obtain ⟨⟨t510, t511, t512, t513, t514, t515, t516⟩, A650, H⟩ := H
        replace H : (if t502.size + t510.size ≤ 9223372036854775807 then ((value_Text.f kj5 (t502 ++ t510)).bind fun bt518 => (some (bt518.1, bt518.2.1, bt518.2.2.1, bt518.2.2.2.1, bt518.2.2.2.2.1, bt518.2.2.2.2.2))) else (none)) = some (r1, r2, r3, r4, r5, r6) := H
        have A65 := Aside0.mk A650
        clear A650
        by_cases c66 : t502.size + t510.size ≤ 9223372036854775807
        ·rw [if_pos c66] at H
         have c66b0 := eq_true c66
         have c66b1 : decide (t502.size + t510.size ≤ 9223372036854775807) = true := decide_eq_true c66
         try have c66b2 : (9223372036854775807 < t502.size + t510.size) = False := eq_false (Nat.not_lt.2 c66)
         replace H := Option.bind_eq_some_iff.mp H
         obtain ⟨⟨t518, t519, t520, t521, t522, t523⟩, A670, H⟩ := H
         replace H : (some (t518, t519, t520, t521, t522, t523)) = some (r1, r2, r3, r4, r5, r6) := H
         have A67 := Aside0.mk A670
         clear A670
         simp only [Option.some.injEq, Prod.mk.injEq] at H
         obtain ⟨rfl, rfl, rfl, rfl, rfl, rfl⟩ := H
         go_wp2_with (first | ((with_reducible refine gate_callee (f := 39) rfl ?_); refine goesL_ (some 58) rfl rfl Tryd.func39 kr rfl #[.agg #[.int .i64 t476, .int .i64 t477, .int .i64 t478, .string t479, .bool t480, .int .i64 t481]] rfl ga ?_; (with_reducible refine (value_AsText.calls kj5 t476 t477 t478 t479 t480 t481 t502 t503 t504 t505 t506 t507 t508 _ ?side1 A64.out).mono ?_); (case side1 => exact HT.out.on bx_bl); rintro e w73 ⟨rfl, hb⟩; refine ⟨_, rfl, ?_⟩; replace BX := bx_call hb; clear hb) | ((with_reducible refine gate_dst (N := 8) rfl ?_); refine bxe 8 #[.int .i64 0, .int .i64 0, .int .i64 0, .string (⟨#[]⟩ : ByteArray), .bool false, .int .i64 0] 25 rfl rfl gr ?_; clear BX; intro gb509 w74 GE509 BX) | ((with_reducible refine gate_callee (f := 39) rfl ?_); refine goesL_ (some 63) rfl rfl Tryd.func39 kr rfl #[.agg #[.int .i64 t482, .int .i64 t483, .int .i64 t484, .string t485, .bool t486, .int .i64 t487]] rfl ga ?_; (with_reducible refine (value_AsText.calls kj5 t482 t483 t484 t485 t486 t487 t510 t511 t512 t513 t514 t515 t516 _ ?side1 A65.out).mono ?_); (case side1 => exact HT.out.on bx_bl); rintro e w80 ⟨rfl, hb⟩; refine ⟨_, rfl, ?_⟩; replace BX := bx_call hb; clear hb) | ((with_reducible refine gate_dst (N := 10) rfl ?_); refine bxe 10 #[.int .i64 0, .int .i64 0, .int .i64 0, .string (⟨#[]⟩ : ByteArray), .bool false, .int .i64 0] 25 rfl rfl gr ?_; clear BX; intro gb517 w81 GE517 BX) | ((with_reducible refine gate_callee (f := 21) rfl ?_); refine goesL_ (some 69) rfl rfl Tryd.func21 kr rfl #[.string (t502 ++ t510)] rfl ga ?_; (with_reducible refine (value_Text.calls kj5 (t502 ++ t510) t518 t519 t520 t521 t522 t523 _ A67.out).mono ?_); rintro e w87 ⟨rfl, hb⟩; refine ⟨_, rfl, ?_⟩; replace BX := bx_call hb; clear hb))
         refine bodyPost_ret (results_cell_row rfl _ _ gb475 25 #[.int .i64 t518, .int .i64 t519, .int .i64 t520, .string t521, .bool t522, .int .i64 t523] (0, 0) _ rfl bx_get Tryd.underlying25 rfl kr) rfl ?_
         exact ⟨er2, bx_bl⟩
        ·rw [if_neg c66] at H
         exact absurd H (by simp)
       ·rw [if_neg c63] at H
        have c63b0 : (a0 == 16) = false := beq_eq_false_iff_ne.mpr c63
        have c63b1 : (a0 != 16) = true := bne_iff_ne.mpr c63
        replace H := Option.bind_eq_some_iff.mp H
        obtain ⟨⟨t524, t525, t526, t527, t528, t529, t530, t531⟩, A890, H⟩ := H
        replace H : (if t526 = 4 then (some (t526, t527, t528, t529, t530, t531)) else ((value_AsNumber.f kj5 t482 t483 t484 t485 t486 t487).bind fun bt534 => (if bt534.2.2.1 = 4 then (some (bt534.2.2.1, bt534.2.2.2.1, bt534.2.2.2.2.1, bt534.2.2.2.2.2.1, bt534.2.2.2.2.2.2.1, bt534.2.2.2.2.2.2.2)) else ((value_reckon.f kj5 a0 t524 t525 bt534.1 bt534.2.1).bind fun bt543 => (some (bt543.1, bt543.2.1, bt543.2.2.1, bt543.2.2.2.1, bt543.2.2.2.2.1, bt543.2.2.2.2.2)))))) = some (r1, r2, r3, r4, r5, r6) := H
        have A89 := Aside0.mk A890
        clear A890
        by_cases c90 : t526 = 4
        ·rw [if_pos c90] at H
         have c90b0 : (t526 == 4) = true := beq_iff_eq.mpr c90
         have c90b1 : (t526 != 4) = false := bne_eq_false_iff_eq.mpr c90
         clear c90
         simp only [Option.some.injEq, Prod.mk.injEq] at H
         obtain ⟨rfl, rfl, rfl, rfl, rfl, rfl⟩ := H
         go_wp2_with (first | ((with_reducible refine gate_callee (f := 37) rfl ?_); refine goesL_ (some 72) rfl rfl Tryd.func37 kr rfl #[.agg #[.int .i64 t476, .int .i64 t477, .int .i64 t478, .string t479, .bool t480, .int .i64 t481]] rfl ga ?_; (with_reducible refine (value_AsNumber.calls kj5 t476 t477 t478 t479 t480 t481 t524 t525 t526 t527 t528 t529 t530 t531 _ A89.out).mono ?_); rintro e w96 ⟨rfl, hb⟩; refine ⟨_, rfl, ?_⟩; replace BX := bx_call hb; clear hb) | ((with_reducible refine gate_dst (N := 11) rfl ?_); refine bxe 11 #[.int .i64 0, .int .i64 0] 23 rfl rfl gr ?_; clear BX; intro gb532 w97 GE532 BX) | ((with_reducible refine gate_dst (N := 12) rfl ?_); refine bxe 12 #[.int .i64 0, .int .i64 0, .int .i64 0, .string (⟨#[]⟩ : ByteArray), .bool false, .int .i64 0] 25 rfl rfl gr ?_; clear BX; intro gb533 w98 GE533 BX))
         refine bodyPost_ret (results_cell_row rfl _ _ gb475 25 #[.int .i64 t526, .int .i64 t527, .int .i64 t528, .string t529, .bool t530, .int .i64 t531] (0, 0) _ rfl bx_get Tryd.underlying25 rfl kr) rfl ?_
         exact ⟨er2, bx_bl⟩
        ·rw [if_neg c90] at H
         have c90b0 : (t526 == 4) = false := beq_eq_false_iff_ne.mpr c90
         have c90b1 : (t526 != 4) = true := bne_iff_ne.mpr c90
         replace H := Option.bind_eq_some_iff.mp H
         obtain ⟨⟨t534, t535, t536, t537, t538, t539, t540, t541⟩, A1090, H⟩ := H
         replace H : (if t536 = 4 then (some (t536, t537, t538, t539, t540, t541)) else ((value_reckon.f kj5 a0 t524 t525 t534 t535).bind fun bt543 => (some (bt543.1, bt543.2.1, bt543.2.2.1, bt543.2.2.2.1, bt543.2.2.2.2.1, bt543.2.2.2.2.2)))) = some (r1, r2, r3, r4, r5, r6) := H
         have A109 := Aside0.mk A1090
         clear A1090
         by_cases c110 : t536 = 4
         ·rw [if_pos c110] at H
          have c110b0 : (t536 == 4) = true := beq_iff_eq.mpr c110
          have c110b1 : (t536 != 4) = false := bne_eq_false_iff_eq.mpr c110
          clear c110
          simp only [Option.some.injEq, Prod.mk.injEq] at H
          obtain ⟨rfl, rfl, rfl, rfl, rfl, rfl⟩ := H
          go_wp2_with (first | ((with_reducible refine gate_callee (f := 37) rfl ?_); refine goesL_ (some 72) rfl rfl Tryd.func37 kr rfl #[.agg #[.int .i64 t476, .int .i64 t477, .int .i64 t478, .string t479, .bool t480, .int .i64 t481]] rfl ga ?_; (with_reducible refine (value_AsNumber.calls kj5 t476 t477 t478 t479 t480 t481 t524 t525 t526 t527 t528 t529 t530 t531 _ A89.out).mono ?_); rintro e w116 ⟨rfl, hb⟩; refine ⟨_, rfl, ?_⟩; replace BX := bx_call hb; clear hb) | ((with_reducible refine gate_dst (N := 11) rfl ?_); refine bxe 11 #[.int .i64 0, .int .i64 0] 23 rfl rfl gr ?_; clear BX; intro gb532 w117 GE532 BX) | ((with_reducible refine gate_dst (N := 12) rfl ?_); refine bxe 12 #[.int .i64 0, .int .i64 0, .int .i64 0, .string (⟨#[]⟩ : ByteArray), .bool false, .int .i64 0] 25 rfl rfl gr ?_; clear BX; intro gb533 w118 GE533 BX) | ((with_reducible refine gate_callee (f := 37) rfl ?_); refine goesL_ (some 81) rfl rfl Tryd.func37 kr rfl #[.agg #[.int .i64 t482, .int .i64 t483, .int .i64 t484, .string t485, .bool t486, .int .i64 t487]] rfl ga ?_; (with_reducible refine (value_AsNumber.calls kj5 t482 t483 t484 t485 t486 t487 t534 t535 t536 t537 t538 t539 t540 t541 _ A109.out).mono ?_); rintro e w129 ⟨rfl, hb⟩; refine ⟨_, rfl, ?_⟩; replace BX := bx_call hb; clear hb) | ((with_reducible refine gate_dst (N := 13) rfl ?_); refine bxe 13 #[.int .i64 0, .int .i64 0] 23 rfl rfl gr ?_; clear BX; intro gb542 w130 GE542 BX))
          refine bodyPost_ret (results_cell_row rfl _ _ gb475 25 #[.int .i64 t536, .int .i64 t537, .int .i64 t538, .string t539, .bool t540, .int .i64 t541] (0, 0) _ rfl bx_get Tryd.underlying25 rfl kr) rfl ?_
          exact ⟨er2, bx_bl⟩
         ·rw [if_neg c110] at H
          have c110b0 : (t536 == 4) = false := beq_eq_false_iff_ne.mpr c110
          have c110b1 : (t536 != 4) = true := bne_iff_ne.mpr c110
          replace H := Option.bind_eq_some_iff.mp H
          obtain ⟨⟨t543, t544, t545, t546, t547, t548⟩, A1390, H⟩ := H
          replace H : (some (t543, t544, t545, t546, t547, t548)) = some (r1, r2, r3, r4, r5, r6) := H
          have A139 := Aside0.mk A1390
          clear A1390
          simp only [Option.some.injEq, Prod.mk.injEq] at H
          obtain ⟨rfl, rfl, rfl, rfl, rfl, rfl⟩ := H
          go_wp2_with (first | ((with_reducible refine gate_callee (f := 37) rfl ?_); refine goesL_ (some 72) rfl rfl Tryd.func37 kr rfl #[.agg #[.int .i64 t476, .int .i64 t477, .int .i64 t478, .string t479, .bool t480, .int .i64 t481]] rfl ga ?_; (with_reducible refine (value_AsNumber.calls kj5 t476 t477 t478 t479 t480 t481 t524 t525 t526 t527 t528 t529 t530 t531 _ A89.out).mono ?_); rintro e w145 ⟨rfl, hb⟩; refine ⟨_, rfl, ?_⟩; replace BX := bx_call hb; clear hb) | ((with_reducible refine gate_dst (N := 11) rfl ?_); refine bxe 11 #[.int .i64 0, .int .i64 0] 23 rfl rfl gr ?_; clear BX; intro gb532 w146 GE532 BX) | ((with_reducible refine gate_dst (N := 12) rfl ?_); refine bxe 12 #[.int .i64 0, .int .i64 0, .int .i64 0, .string (⟨#[]⟩ : ByteArray), .bool false, .int .i64 0] 25 rfl rfl gr ?_; clear BX; intro gb533 w147 GE533 BX) | ((with_reducible refine gate_callee (f := 37) rfl ?_); refine goesL_ (some 81) rfl rfl Tryd.func37 kr rfl #[.agg #[.int .i64 t482, .int .i64 t483, .int .i64 t484, .string t485, .bool t486, .int .i64 t487]] rfl ga ?_; (with_reducible refine (value_AsNumber.calls kj5 t482 t483 t484 t485 t486 t487 t534 t535 t536 t537 t538 t539 t540 t541 _ A109.out).mono ?_); rintro e w158 ⟨rfl, hb⟩; refine ⟨_, rfl, ?_⟩; replace BX := bx_call hb; clear hb) | ((with_reducible refine gate_dst (N := 13) rfl ?_); refine bxe 13 #[.int .i64 0, .int .i64 0] 23 rfl rfl gr ?_; clear BX; intro gb542 w159 GE542 BX) | ((with_reducible refine gate_callee (f := 64) rfl ?_); refine goesL_ (some 91) rfl rfl Tryd.func64 kr rfl #[.int .i64 a0, .agg #[.int .i64 t524, .int .i64 t525], .agg #[.int .i64 t534, .int .i64 t535]] rfl ga ?_; (with_reducible refine (value_reckon.calls kj5 a0 t524 t525 t534 t535 t543 t544 t545 t546 t547 t548 _ A139.out).mono ?_); rintro e w168 ⟨rfl, hb⟩; refine ⟨_, rfl, ?_⟩; replace BX := bx_call hb; clear hb))
          refine bodyPost_ret (results_cell_row rfl _ _ gb475 25 #[.int .i64 t543, .int .i64 t544, .int .i64 t545, .string t546, .bool t547, .int .i64 t548] (0, 0) _ rfl bx_get Tryd.underlying25 rfl kr) rfl ?_
          exact ⟨er2, bx_bl⟩
end
end Go.Proofs.YtmakkdlkgfgaoaaDoor.F
