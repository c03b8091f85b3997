-- Laid by program (wip/tools/genv.sh, pack.py, merge.py of this repo) out of the translation; Lean checks it.
import Derived.Test.YtmakkdlkgfgaoaaGreatDoorF0
import Derived.Test.YtmakkdlkgfgaoaaGreatDoorC0
import Derived.Test.YtmakkdlkgfgaoaaGreatDoorF106
import Derived.Test.YtmakkdlkgfgaoaaGreatDoorF108
import Derived.Test.YtmakkdlkgfgaoaaGreatDoorF109
namespace Go.Proofs.YtmakkdlkgfgaoaaGreatDoor.F
open Go.RowKit Go.Proofs.YtmakkdlkgfgaoaaGreatDoorW.PrintWords Go.Proofs.YtmakkdlkgfgaoaaGreatDoorW.PrintLast Go.Proofs.YtmakkdlkgfgaoaaGreatDoorW.PrintMore
attribute [local go_sem] max2_int min2_int max_two min_two max_three min_three max_four min_four
attribute [local go_sem high] bx_cell bx_frozen
set_option linter.unusedVariables false
set_option linter.unusedSimpArgs false

section
/-! ### whittleref2_reckoned: function 30 -/
def whittleref2_reckoned.j0 : Nat → Bool → Int → Int → Int → Int → Option (Int × Int × Int × ByteArray × Bool × Int)
 | 0, _, _, _, _, _ => none
 | k + 1, x19, x805000, x805001, x806000, x806001 => if x19 = true then ((whittleref2_Fault.f 1).bind fun bt850 => (some (bt850.1, bt850.2.1, bt850.2.2.1, bt850.2.2.2.1, bt850.2.2.2.2.1, bt850.2.2.2.2.2))) else ((whittleref1_Whole.f k x806000 x806001).bind fun bt856 => (if bt856.2 = true then ((whittleref1_Pow.f k x805000 x805001 bt856.1).bind fun bt858 => ((whittleref2_fitting.f k bt858.1 bt858.2.1 bt858.2.2).bind fun bt861 => (some (bt861.1, bt861.2.1, bt861.2.2.1, bt861.2.2.2.1, bt861.2.2.2.2.1, bt861.2.2.2.2.2)))) else ((whittleref2_Fault.f 4).bind fun bt867 => (some (bt867.1, bt867.2.1, bt867.2.2.1, bt867.2.2.2.1, bt867.2.2.2.2.1, bt867.2.2.2.2.2)))))
def whittleref2_reckoned.f (k : Nat) (a0 : Int) (a1_0 : Int) (a1_1 : Int) (a2_0 : Int) (a2_1 : Int) : Option (Int × Int × Int × ByteArray × Bool × Int) := if a0 = 11 then ((whittleref1_Add.f k a1_0 a1_1 a2_0 a2_1).bind fun bt808 => ((whittleref2_fitting.f k bt808.1 bt808.2.1 bt808.2.2).bind fun bt811 => (some (bt811.1, bt811.2.1, bt811.2.2.1, bt811.2.2.2.1, bt811.2.2.2.2.1, bt811.2.2.2.2.2)))) else (if a0 = 12 then ((whittleref1_Sub.f k a1_0 a1_1 a2_0 a2_1).bind fun bt817 => ((whittleref2_fitting.f k bt817.1 bt817.2.1 bt817.2.2).bind fun bt820 => (some (bt820.1, bt820.2.1, bt820.2.2.1, bt820.2.2.2.1, bt820.2.2.2.2.1, bt820.2.2.2.2.2)))) else (if a0 = 13 then ((whittleref1_Mul.f k a1_0 a1_1 a2_0 a2_1).bind fun bt826 => ((whittleref2_fitting.f k bt826.1 bt826.2.1 bt826.2.2).bind fun bt829 => (some (bt829.1, bt829.2.1, bt829.2.2.1, bt829.2.2.2.1, bt829.2.2.2.2.1, bt829.2.2.2.2.2)))) else (if a0 = 14 then (if a2_0 = 0 then ((whittleref2_Fault.f 1).bind fun bt835 => (some (bt835.1, bt835.2.1, bt835.2.2.1, bt835.2.2.2.1, bt835.2.2.2.2.1, bt835.2.2.2.2.2))) else ((whittleref1_Div.f k a1_0 a1_1 a2_0 a2_1).bind fun bt841 => ((whittleref2_fitting.f k bt841.1 bt841.2.1 bt841.2.2).bind fun bt844 => (some (bt844.1, bt844.2.1, bt844.2.2.1, bt844.2.2.2.1, bt844.2.2.2.2.1, bt844.2.2.2.2.2))))) else (if a1_0 = 0 then (whittleref2_reckoned.j0 k (decide (a2_0 < 0)) a1_0 a1_1 a2_0 a2_1) else (whittleref2_reckoned.j0 k false a1_0 a1_1 a2_0 a2_1)))))
theorem whittleref2_reckoned.mono_l : ∀ k, (∀ y0 y1 y2 y3 y4, LeO (whittleref2_reckoned.j0 k y0 y1 y2 y3 y4) (whittleref2_reckoned.j0 (k + 1) y0 y1 y2 y3 y4))
 | 0 => fun _ _ _ _ _ r h => by simp [whittleref2_reckoned.j0] at h
 | k + 1 => by
  have ih0 := whittleref2_reckoned.mono_l k
  ·intro y0 y1 y2 y3 y4
   unfold whittleref2_reckoned.j0
   repeat' first
   | (with_reducible exact ih0 _ _ _ _ _)
   | (with_reducible exact whittleref1_Add.mono _ _ _ _ _)
   | (with_reducible exact whittleref1_Div.mono _ _ _ _ _)
   | (with_reducible exact whittleref1_Mul.mono _ _ _ _ _)
   | (with_reducible exact whittleref1_Pow.mono _ _ _ _)
   | (with_reducible exact whittleref1_Sub.mono _ _ _ _ _)
   | (with_reducible exact whittleref1_Whole.mono _ _ _)
   | (with_reducible exact whittleref2_fitting.mono _ _ _ _)
   | (with_reducible exact LeO.refl _)
   | (with_reducible exact LeO.none _)
   | (with_reducible refine LeO.ite ?_ ?_)
   | (with_reducible refine LeO.bind ?_ (fun _ => ?_))
   | exact ih0 _ _ _ _ _
   | exact whittleref1_Add.mono _ _ _ _ _
   | exact whittleref1_Div.mono _ _ _ _ _
   | exact whittleref1_Mul.mono _ _ _ _ _
   | exact whittleref1_Pow.mono _ _ _ _
   | exact whittleref1_Sub.mono _ _ _ _ _
   | exact whittleref1_Whole.mono _ _ _
   | exact whittleref2_fitting.mono _ _ _ _
   | exact LeO.none _
   | refine LeO.ite ?_ ?_
   | refine LeO.bind ?_ (fun _ => ?_)
theorem whittleref2_reckoned.mono : ∀ a0 a1 a2 a3 a4 k, LeO (whittleref2_reckoned.f k a0 a1 a2 a3 a4) (whittleref2_reckoned.f (k + 1) a0 a1 a2 a3 a4) := by
 intro a0 a1 a2 a3 a4 k
 have ih0 := whittleref2_reckoned.mono_l k
 unfold whittleref2_reckoned.f
 repeat' first
   | (with_reducible exact ih0 _ _ _ _ _)
   | (with_reducible exact whittleref1_Add.mono _ _ _ _ _)
   | (with_reducible exact whittleref1_Div.mono _ _ _ _ _)
   | (with_reducible exact whittleref1_Mul.mono _ _ _ _ _)
   | (with_reducible exact whittleref1_Pow.mono _ _ _ _)
   | (with_reducible exact whittleref1_Sub.mono _ _ _ _ _)
   | (with_reducible exact whittleref1_Whole.mono _ _ _)
   | (with_reducible exact whittleref2_fitting.mono _ _ _ _)
   | (with_reducible exact LeO.refl _)
   | (with_reducible exact LeO.none _)
   | (with_reducible refine LeO.ite ?_ ?_)
   | (with_reducible refine LeO.bind ?_ (fun _ => ?_))
   | exact ih0 _ _ _ _ _
   | exact whittleref1_Add.mono _ _ _ _ _
   | exact whittleref1_Div.mono _ _ _ _ _
   | exact whittleref1_Mul.mono _ _ _ _ _
   | exact whittleref1_Pow.mono _ _ _ _
   | exact whittleref1_Sub.mono _ _ _ _ _
   | exact whittleref1_Whole.mono _ _ _
   | exact whittleref2_fitting.mono _ _ _ _
   | exact LeO.none _
   | refine LeO.ite ?_ ?_
   | refine LeO.bind ?_ (fun _ => ?_)
set_option maxHeartbeats 8000000 in
set_option maxRecDepth 100000 in
theorem whittleref2_reckoned.calls (k : Nat) (a0 : Int) (a1_0 : Int) (a1_1 : Int) (a2_0 : Int) (a2_1 : Int) (r1 : Int) (r2 : Int) (r3 : Int) (r4 : ByteArray) (r5 : Bool) (r6 : Int) (w : World) (h : whittleref2_reckoned.f k a0 a1_0 a1_1 a2_0 a2_1 = some (r1, r2, r3, r4, r5, r6)) :
  Calls Tryz.prog 30 #[.int .i64 a0, .agg #[.int .i64 a1_0, .int .i64 a1_1], .agg #[.int .i64 a2_0, .int .i64 a2_1]] w fun e w' => e = .returned (.agg #[.int .i64 r1, .int .i64 r2, .int .i64 r3, .string r4, .bool r5, .int .i64 r6]) ∧ Below w.heap.size w w' := by
 have hu23 := Tryz.underlying23
 have hu25 := Tryz.underlying25
 have BX := Bx.start w
 have H : (if a0 = 11 then ((whittleref1_Add.f k a1_0 a1_1 a2_0 a2_1).bind fun bt808 => ((whittleref2_fitting.f k bt808.1 bt808.2.1 bt808.2.2).bind fun bt811 => (some (bt811.1, bt811.2.1, bt811.2.2.1, bt811.2.2.2.1, bt811.2.2.2.2.1, bt811.2.2.2.2.2)))) else (if a0 = 12 then ((whittleref1_Sub.f k a1_0 a1_1 a2_0 a2_1).bind fun bt817 => ((whittleref2_fitting.f k bt817.1 bt817.2.1 bt817.2.2).bind fun bt820 => (some (bt820.1, bt820.2.1, bt820.2.2.1, bt820.2.2.2.1, bt820.2.2.2.2.1, bt820.2.2.2.2.2)))) else (if a0 = 13 then ((whittleref1_Mul.f k a1_0 a1_1 a2_0 a2_1).bind fun bt826 => ((whittleref2_fitting.f k bt826.1 bt826.2.1 bt826.2.2).bind fun bt829 => (some (bt829.1, bt829.2.1, bt829.2.2.1, bt829.2.2.2.1, bt829.2.2.2.2.1, bt829.2.2.2.2.2)))) else (if a0 = 14 then (if a2_0 = 0 then ((whittleref2_Fault.f 1).bind fun bt835 => (some (bt835.1, bt835.2.1, bt835.2.2.1, bt835.2.2.2.1, bt835.2.2.2.2.1, bt835.2.2.2.2.2))) else ((whittleref1_Div.f k a1_0 a1_1 a2_0 a2_1).bind fun bt841 => ((whittleref2_fitting.f k bt841.1 bt841.2.1 bt841.2.2).bind fun bt844 => (some (bt844.1, bt844.2.1, bt844.2.2.1, bt844.2.2.2.1, bt844.2.2.2.2.1, bt844.2.2.2.2.2))))) else (if a1_0 = 0 then (whittleref2_reckoned.j0 k (decide (a2_0 < 0)) a1_0 a1_1 a2_0 a2_1) else (whittleref2_reckoned.j0 k false a1_0 a1_1 a2_0 a2_1)))))) = some (r1, r2, r3, r4, r5, r6) := h
 clear h
 by_cases c4 : a0 = 11
 ·rw [if_pos c4] at H
  have c4b0 : (a0 == 11) = true := beq_iff_eq.mpr c4
  have c4b1 : (a0 != 11) = false := bne_eq_false_iff_eq.mpr c4
  clear c4
  replace H := Option.bind_eq_some_iff.mp H
  obtain ⟨⟨t808, t809, t810⟩, A50, H⟩ := H
  have A5 := Aside0.mk A50
  clear A50
  replace H := Option.bind_eq_some_iff.mp H
  obtain ⟨⟨t811, t812, t813, t814, t815, t816⟩, A60, H⟩ := H
  replace H : (some (t811, t812, t813, t814, t815, t816)) = some (r1, r2, r3, r4, r5, r6) := H
  have A6 := Aside0.mk A60
  clear A60
  simp only [Option.some.injEq, Prod.mk.injEq] at H
  obtain ⟨rfl, rfl, rfl, rfl, rfl, rfl⟩ := H
  go_enter Tryz.func30, Tryz.ntmps30
  go_wp2_with (first | ((with_reducible refine gate_dst (N := 4) rfl ?_); refine bxe 4 #[.int .i64 a1_0, .int .i64 a1_1] 23 rfl rfl gr ?_; clear BX; intro gb804 w7 GE804 BX) | ((with_reducible refine gate_dst (N := 5) rfl ?_); refine bxe 5 #[.int .i64 a2_0, .int .i64 a2_1] 23 rfl rfl gr ?_; clear BX; intro gb805 w8 GE805 BX) | ((with_reducible refine gate_dst (N := 6) rfl ?_); refine bxe 6 #[.int .i64 0, .int .i64 0, .int .i64 0, .string (⟨#[]⟩ : ByteArray), .bool false, .int .i64 0] 25 rfl rfl gr ?_; clear BX; intro gb806 w9 GE806 BX) | ((with_reducible refine gate_dst (N := 7) rfl ?_); refine bxe 7 #[.int .i64 0, .int .i64 0] 23 rfl rfl gr ?_; clear BX; intro gb807 w10 GE807 BX) | ((with_reducible refine gate_callee (f := 58) rfl ?_); refine goesL_ (some 40) rfl rfl Tryz.func58 kr rfl #[.agg #[.int .i64 a1_0, .int .i64 a1_1], .agg #[.int .i64 a2_0, .int .i64 a2_1]] rfl ga ?_; (with_reducible refine (whittleref1_Add.calls k a1_0 a1_1 a2_0 a2_1 t808 t809 t810 _ A5.out).mono ?_); rintro e w18 ⟨rfl, hb⟩; refine ⟨_, rfl, ?_⟩; replace BX := bx_call hb; clear hb) | ((with_reducible refine gate_callee (f := 64) rfl ?_); refine goesL_ (some 73) rfl rfl Tryz.func64 kr rfl #[.agg #[.int .i64 t808, .int .i64 t809], .bool t810] rfl ga ?_; (with_reducible refine (whittleref2_fitting.calls k t808 t809 t810 t811 t812 t813 t814 t815 t816 _ A6.out).mono ?_); rintro e w21 ⟨rfl, hb⟩; refine ⟨_, rfl, ?_⟩; replace BX := bx_call hb; clear hb))
  refine bodyPost_ret (results_cell_row rfl _ _ gb806 25 #[.int .i64 t811, .int .i64 t812, .int .i64 t813, .string t814, .bool t815, .int .i64 t816] (0, 0) _ rfl bx_get Tryz.underlying25 rfl kr) rfl ?_
  exact ⟨er2, bx_bl⟩
 ·rw [if_neg c4] at H
  have c4b0 : (a0 == 11) = false := beq_eq_false_iff_ne.mpr c4
  have c4b1 : (a0 != 11) = true := bne_iff_ne.mpr c4
  by_cases c23 : a0 = 12
  ·rw [if_pos c23] at H
   have c23b0 : (a0 == 12) = true := beq_iff_eq.mpr c23
   have c23b1 : (a0 != 12) = false := bne_eq_false_iff_eq.mpr c23
   clear c23
   replace H := Option.bind_eq_some_iff.mp H
   obtain ⟨⟨t817, t818, t819⟩, A240, H⟩ := H
   have A24 := Aside0.mk A240
   clear A240
   replace H := Option.bind_eq_some_iff.mp H
   obtain ⟨⟨t820, t821, t822, t823, t824, t825⟩, A250, H⟩ := H
   replace H : (some (t820, t821, t822, t823, t824, t825)) = some (r1, r2, r3, r4, r5, r6) := H
   have A25 := Aside0.mk A250
   clear A250
   simp only [Option.some.injEq, Prod.mk.injEq] at H
   obtain ⟨rfl, rfl, rfl, rfl, rfl, rfl⟩ := H
   go_enter Tryz.func30, Tryz.ntmps30
   go_wp2_with (first | ((with_reducible refine gate_dst (N := 4) rfl ?_); refine bxe 4 #[.int .i64 a1_0, .int .i64 a1_1] 23 rfl rfl gr ?_; clear BX; intro gb804 w26 GE804 BX) | ((with_reducible refine gate_dst (N := 5) rfl ?_); refine bxe 5 #[.int .i64 a2_0, .int .i64 a2_1] 23 rfl rfl gr ?_; clear BX; intro gb805 w27 GE805 BX) | ((with_reducible refine gate_dst (N := 6) rfl ?_); refine bxe 6 #[.int .i64 0, .int .i64 0, .int .i64 0, .string (⟨#[]⟩ : ByteArray), .bool false, .int .i64 0] 25 rfl rfl gr ?_; clear BX; intro gb806 w28 GE806 BX) | ((with_reducible refine gate_dst (N := 7) rfl ?_); refine bxe 7 #[.int .i64 0, .int .i64 0] 23 rfl rfl gr ?_; clear BX; intro gb807 w29 GE807 BX) | ((with_reducible refine gate_callee (f := 59) rfl ?_); refine goesL_ (some 48) rfl rfl Tryz.func59 kr rfl #[.agg #[.int .i64 a1_0, .int .i64 a1_1], .agg #[.int .i64 a2_0, .int .i64 a2_1]] rfl ga ?_; (with_reducible refine (whittleref1_Sub.calls k a1_0 a1_1 a2_0 a2_1 t817 t818 t819 _ A24.out).mono ?_); rintro e w37 ⟨rfl, hb⟩; refine ⟨_, rfl, ?_⟩; replace BX := bx_call hb; clear hb) | ((with_reducible refine gate_callee (f := 64) rfl ?_); refine goesL_ (some 73) rfl rfl Tryz.func64 kr rfl #[.agg #[.int .i64 t817, .int .i64 t818], .bool t819] rfl ga ?_; (with_reducible refine (whittleref2_fitting.calls k t817 t818 t819 t820 t821 t822 t823 t824 t825 _ A25.out).mono ?_); rintro e w40 ⟨rfl, hb⟩; refine ⟨_, rfl, ?_⟩; replace BX := bx_call hb; clear hb))
   refine bodyPost_ret (results_cell_row rfl _ _ gb806 25 #[.int .i64 t820, .int .i64 t821, .int .i64 t822, .string t823, .bool t824, .int .i64 t825] (0, 0) _ rfl bx_get Tryz.underlying25 rfl kr) rfl ?_
   exact ⟨er2, bx_bl⟩
  ·rw [if_neg c23] at H
   have c23b0 : (a0 == 12) = false := beq_eq_false_iff_ne.mpr c23
   have c23b1 : (a0 != 12) = true := bne_iff_ne.mpr c23
   by_cases c42 : a0 = 13
   ·rw [if_pos c42] at H
    have c42b0 : (a0 == 13) = true := beq_iff_eq.mpr c42
    have c42b1 : (a0 != 13) = false := bne_eq_false_iff_eq.mpr c42
    clear c42
    replace H := Option.bind_eq_some_iff.mp H
    obtain ⟨⟨t826, t827, t828⟩, A430, H⟩ := H
    have A43 := Aside0.mk A430
    clear A430
    replace H := Option.bind_eq_some_iff.mp H
    obtain ⟨⟨t829, t830, t831, t832, t833, t834⟩, A440, H⟩ := H
    replace H : (some (t829, t830, t831, t832, t833, t834)) = some (r1, r2, r3, r4, r5, r6) := H
    have A44 := Aside0.mk A440
    clear A440
    simp only [Option.some.injEq, Prod.mk.injEq] at H
    obtain ⟨rfl, rfl, rfl, rfl, rfl, rfl⟩ := H
    go_enter Tryz.func30, Tryz.ntmps30
    go_wp2_with (first | ((with_reducible refine gate_dst (N := 4) rfl ?_); refine bxe 4 #[.int .i64 a1_0, .int .i64 a1_1] 23 rfl rfl gr ?_; clear BX; intro gb804 w45 GE804 BX) | ((with_reducible refine gate_dst (N := 5) rfl ?_); refine bxe 5 #[.int .i64 a2_0, .int .i64 a2_1] 23 rfl rfl gr ?_; clear BX; intro gb805 w46 GE805 BX) | ((with_reducible refine gate_dst (N := 6) rfl ?_); refine bxe 6 #[.int .i64 0, .int .i64 0, .int .i64 0, .string (⟨#[]⟩ : ByteArray), .bool false, .int .i64 0] 25 rfl rfl gr ?_; clear BX; intro gb806 w47 GE806 BX) | ((with_reducible refine gate_dst (N := 7) rfl ?_); refine bxe 7 #[.int .i64 0, .int .i64 0] 23 rfl rfl gr ?_; clear BX; intro gb807 w48 GE807 BX) | ((with_reducible refine gate_callee (f := 60) rfl ?_); refine goesL_ (some 56) rfl rfl Tryz.func60 kr rfl #[.agg #[.int .i64 a1_0, .int .i64 a1_1], .agg #[.int .i64 a2_0, .int .i64 a2_1]] rfl ga ?_; (with_reducible refine (whittleref1_Mul.calls k a1_0 a1_1 a2_0 a2_1 t826 t827 t828 _ A43.out).mono ?_); rintro e w56 ⟨rfl, hb⟩; refine ⟨_, rfl, ?_⟩; replace BX := bx_call hb; clear hb) | ((with_reducible refine gate_callee (f := 64) rfl ?_); refine goesL_ (some 73) rfl rfl Tryz.func64 kr rfl #[.agg #[.int .i64 t826, .int .i64 t827], .bool t828] rfl ga ?_; (with_reducible refine (whittleref2_fitting.calls k t826 t827 t828 t829 t830 t831 t832 t833 t834 _ A44.out).mono ?_); rintro e w59 ⟨rfl, hb⟩; refine ⟨_, rfl, ?_⟩; replace BX := bx_call hb; clear hb))
    refine bodyPost_ret (results_cell_row rfl _ _ gb806 25 #[.int .i64 t829, .int .i64 t830, .int .i64 t831, .string t832, .bool t833, .int .i64 t834] (0, 0) _ rfl bx_get Tryz.underlying25 rfl kr) rfl ?_
    exact ⟨er2, bx_bl⟩
   ·rw [if_neg c42] at H
    have c42b0 : (a0 == 13) = false := beq_eq_false_iff_ne.mpr c42
    have c42b1 : (a0 != 13) = true := bne_iff_ne.mpr c42
    by_cases c61 : a0 = 14
    ·rw [if_pos c61] at H
     have c61b0 : (a0 == 14) = true := beq_iff_eq.mpr c61
     have c61b1 : (a0 != 14) = false := bne_eq_false_iff_eq.mpr c61
     clear c61
     by_cases c62 : a2_0 = 0
     ·rw [if_pos c62] at H
      have c62b0 : (a2_0 == 0) = true := beq_iff_eq.mpr c62
      have c62b1 : (a2_0 != 0) = false := bne_eq_false_iff_eq.mpr c62
      clear c62
      replace H := Option.bind_eq_some_iff.mp H
      obtain ⟨⟨t835, t836, t837, t838, t839, t840⟩, A630, H⟩ := H
      replace H : (some (t835, t836, t837, t838, t839, t840)) = some (r1, r2, r3, r4, r5, r6) := H
      have A63 := Aside0.mk A630
      clear A630
      simp only [Option.some.injEq, Prod.mk.injEq] at H
      obtain ⟨rfl, rfl, rfl, rfl, rfl, rfl⟩ := H
      go_enter Tryz.func30, Tryz.ntmps30
      go_wp2_with (first | ((with_reducible refine gate_dst (N := 4) rfl ?_); refine bxe 4 #[.int .i64 a1_0, .int .i64 a1_1] 23 rfl rfl gr ?_; clear BX; intro gb804 w64 GE804 BX) | ((with_reducible refine gate_dst (N := 5) rfl ?_); refine bxe 5 #[.int .i64 a2_0, .int .i64 a2_1] 23 rfl rfl gr ?_; clear BX; intro gb805 w65 GE805 BX) | ((with_reducible refine gate_dst (N := 6) rfl ?_); refine bxe 6 #[.int .i64 0, .int .i64 0, .int .i64 0, .string (⟨#[]⟩ : ByteArray), .bool false, .int .i64 0] 25 rfl rfl gr ?_; clear BX; intro gb806 w66 GE806 BX) | ((with_reducible refine gate_dst (N := 7) rfl ?_); refine bxe 7 #[.int .i64 0, .int .i64 0] 23 rfl rfl gr ?_; clear BX; intro gb807 w67 GE807 BX) | ((with_reducible refine gate_callee (f := 24) rfl ?_); refine goesL_ (some 64) rfl rfl Tryz.func24 kr rfl #[.int .i64 1] rfl ga ?_; (with_reducible refine (whittleref2_Fault.calls 1 t835 t836 t837 t838 t839 t840 _ A63.out).mono ?_); rintro e w72 ⟨rfl, hb⟩; refine ⟨_, rfl, ?_⟩; replace BX := bx_call hb; clear hb))
      refine bodyPost_ret (results_cell_row rfl _ _ gb806 25 #[.int .i64 t835, .int .i64 t836, .int .i64 t837, .string t838, .bool t839, .int .i64 t840] (0, 0) _ rfl bx_get Tryz.underlying25 rfl kr) rfl ?_
      exact ⟨er2, bx_bl⟩
     ·rw [if_neg c62] at H
      have c62b0 : (a2_0 == 0) = false := beq_eq_false_iff_ne.mpr c62
      have c62b1 : (a2_0 != 0) = true := bne_iff_ne.mpr c62
      replace H := Option.bind_eq_some_iff.mp H
      obtain ⟨⟨t841, t842, t843⟩, A760, H⟩ := H
      have A76 := Aside0.mk A760
      clear A760
      replace H := Option.bind_eq_some_iff.mp H
      obtain ⟨⟨t844, t845, t846, t847, t848, t849⟩, A770, H⟩ := H
      replace H : (some (t844, t845, t846, t847, t848, t849)) = some (r1, r2, r3, r4, r5, r6) := H
      have A77 := Aside0.mk A770
      clear A770
      simp only [Option.some.injEq, Prod.mk.injEq] at H
      obtain ⟨rfl, rfl, rfl, rfl, rfl, rfl⟩ := H
      go_enter Tryz.func30, Tryz.ntmps30
      go_wp2_with (first | ((with_reducible refine gate_dst (N := 4) rfl ?_); refine bxe 4 #[.int .i64 a1_0, .int .i64 a1_1] 23 rfl rfl gr ?_; clear BX; intro gb804 w78 GE804 BX) | ((with_reducible refine gate_dst (N := 5) rfl ?_); refine bxe 5 #[.int .i64 a2_0, .int .i64 a2_1] 23 rfl rfl gr ?_; clear BX; intro gb805 w79 GE805 BX) | ((with_reducible refine gate_dst (N := 6) rfl ?_); refine bxe 6 #[.int .i64 0, .int .i64 0, .int .i64 0, .string (⟨#[]⟩ : ByteArray), .bool false, .int .i64 0] 25 rfl rfl gr ?_; clear BX; intro gb806 w80 GE806 BX) | ((with_reducible refine gate_dst (N := 7) rfl ?_); refine bxe 7 #[.int .i64 0, .int .i64 0] 23 rfl rfl gr ?_; clear BX; intro gb807 w81 GE807 BX) | ((with_reducible refine gate_callee (f := 61) rfl ?_); refine goesL_ (some 68) rfl rfl Tryz.func61 kr rfl #[.agg #[.int .i64 a1_0, .int .i64 a1_1], .agg #[.int .i64 a2_0, .int .i64 a2_1]] rfl ga ?_; (with_reducible refine (whittleref1_Div.calls k a1_0 a1_1 a2_0 a2_1 t841 t842 t843 _ A76.out).mono ?_); rintro e w89 ⟨rfl, hb⟩; refine ⟨_, rfl, ?_⟩; replace BX := bx_call hb; clear hb) | ((with_reducible refine gate_callee (f := 64) rfl ?_); refine goesL_ (some 73) rfl rfl Tryz.func64 kr rfl #[.agg #[.int .i64 t841, .int .i64 t842], .bool t843] rfl ga ?_; (with_reducible refine (whittleref2_fitting.calls k t841 t842 t843 t844 t845 t846 t847 t848 t849 _ A77.out).mono ?_); rintro e w92 ⟨rfl, hb⟩; refine ⟨_, rfl, ?_⟩; replace BX := bx_call hb; clear hb))
      refine bodyPost_ret (results_cell_row rfl _ _ gb806 25 #[.int .i64 t844, .int .i64 t845, .int .i64 t846, .string t847, .bool t848, .int .i64 t849] (0, 0) _ rfl bx_get Tryz.underlying25 rfl kr) rfl ?_
      exact ⟨er2, bx_bl⟩
    ·rw [if_neg c61] at H
     have c61b0 : (a0 == 14) = false := beq_eq_false_iff_ne.mpr c61
     have c61b1 : (a0 != 14) = true := bne_iff_ne.mpr c61
     have HC94 := Aside0.mk H
     clear H
     go_enter Tryz.func30, Tryz.ntmps30
     go_upto_region 4 with (first | ((with_reducible refine gate_dst (N := 4) rfl ?_); refine bxe 4 #[.int .i64 a1_0, .int .i64 a1_1] 23 rfl rfl gr ?_; clear BX; intro gb804 w95 GE804 BX) | ((with_reducible refine gate_dst (N := 5) rfl ?_); refine bxe 5 #[.int .i64 a2_0, .int .i64 a2_1] 23 rfl rfl gr ?_; clear BX; intro gb805 w96 GE805 BX) | ((with_reducible refine gate_dst (N := 6) rfl ?_); refine bxe 6 #[.int .i64 0, .int .i64 0, .int .i64 0, .string (⟨#[]⟩ : ByteArray), .bool false, .int .i64 0] 25 rfl rfl gr ?_; clear BX; intro gb806 w97 GE806 BX) | ((with_reducible refine gate_dst (N := 7) rfl ?_); refine bxe 7 #[.int .i64 0, .int .i64 0] 23 rfl rfl gr ?_; clear BX; intro gb807 w98 GE807 BX))
     (try simp only [Act.put, List.setIfInBounds_toArray, List.set_cons_zero, List.set_cons_succ])
     go_cut [19] (fun v19 wc => ∃ (kq : Nat) (x19_93 : Bool), v19 = .bool x19_93 ∧ Aside0 (whittleref2_reckoned.j0 kq x19_93 a1_0 a1_1 a2_0 a2_1 = some (r1, r2, r3, r4, r5, r6)) ∧ Aside0 (kq ≤ k) ∧ Bx w wc [(gb807, 23, #[.int .i64 0, .int .i64 0]), (gb806, 25, #[.int .i64 0, .int .i64 0, .int .i64 0, .string (⟨#[]⟩ : ByteArray), .bool false, .int .i64 0]), (gb805, 23, #[.int .i64 a2_0, .int .i64 a2_1]), (gb804, 23, #[.int .i64 a1_0, .int .i64 a1_1])])
     case first =>
      have H := HC94.out
      clear HC94
      by_cases c99 : a1_0 = 0
      ·rw [if_pos c99] at H
       have c99b0 : (a1_0 == 0) = true := beq_iff_eq.mpr c99
       have c99b1 : (a1_0 != 0) = false := bne_eq_false_iff_eq.mpr c99
       clear c99
       (first | rw [c99b0] | (simp only [i64_w, i32_w]; rw [c99b0]) | skip)
       have H' := Aside0.mk H
       clear H
       go_wp2
       go_meet
       case rel => exact ⟨_, (decide (a2_0 < 0)), er, H', ⟨by first | omega | exact Nat.le_refl _⟩, bxs⟩
      ·rw [if_neg c99] at H
       have c99b0 : (a1_0 == 0) = false := beq_eq_false_iff_ne.mpr c99
       have c99b1 : (a1_0 != 0) = true := bne_iff_ne.mpr c99
       (first | rw [c99b0] | (simp only [i64_w, i32_w]; rw [c99b0]) | skip)
       have H' := Aside0.mk H
       clear H
       go_wp2
       go_meet
       case rel => exact ⟨_, (false), er, H', ⟨by first | omega | exact Nat.le_refl _⟩, bxs⟩
     case rest =>
      clear HC94
      try clear c1
      try clear c2
      try clear p2
      try clear c3
      try clear c4
      try clear c4b0
      try clear c4b1
      try clear c5
      try clear c6
      try clear c7
      try clear c8
      try clear c9
      try clear c10
      try clear c11
      try clear c12
      try clear c13
      try clear c15
      try clear c16
      try clear c19
      try clear c23
      try clear c23b0
      try clear c23b1
      try clear c24
      try clear c30
      try clear c31
      try clear c32
      try clear c34
      try clear c35
      try clear c38
      try clear c42
      try clear c42b0
      try clear c42b1
      try clear c49
      try clear c50
      try clear c51
      try clear c53
      try clear c54
      try clear c57
      try clear c58
      try clear c59
      try clear c60
      try clear c61
      try clear c61b0
      try clear c61b1
      try clear c62
      try clear c62b0
      try clear c62b1
      try clear c64
      try clear c68
      try clear c69
      try clear c70
      try clear c73
      try clear c74
      try clear c82
      try clear c83
      try clear c84
      try clear c86
      try clear c87
      try clear c90
      try clear c99
      try clear c99b0
      try clear c99b1
      try clear c100
      try clear c101
      try clear c102
      try clear c104
      try clear c105
      try clear c107
      try clear c108
      try clear c109
      obtain ⟨kq, x19_93, rfl, HA, HJ93, BX⟩ := hcut
      cases kq with
      | zero => exact absurd HA.out (by simp [whittleref2_reckoned.j0])
      | succ kj93 =>
       have H := HA.out
       clear HA
       simp only [whittleref2_reckoned.j0] at H
       by_cases c111 : x19_93 = true
       ·subst c111
        have H1 : ((whittleref2_Fault.f 1).bind fun bt850 => (some (bt850.1, bt850.2.1, bt850.2.2.1, bt850.2.2.2.1, bt850.2.2.2.2.1, bt850.2.2.2.2.2))) = some (r1, r2, r3, r4, r5, r6) := by rw [if_pos rfl] at H; exact H
        clear H
        have H := H1
        clear H1
        replace H := Option.bind_eq_some_iff.mp H
        obtain ⟨⟨t850, t851, t852, t853, t854, t855⟩, A1120, H⟩ := H
        replace H : (some (t850, t851, t852, t853, t854, t855)) = some (r1, r2, r3, r4, r5, r6) := H
        have A112 := Aside0.mk A1120
        clear A1120
        simp only [Option.some.injEq, Prod.mk.injEq] at H
        obtain ⟨rfl, rfl, rfl, rfl, rfl, rfl⟩ := H
        go_wp2_with (first | ((with_reducible refine gate_callee (f := 24) rfl ?_); refine goesL_ (some 20) rfl rfl Tryz.func24 kr rfl #[.int .i64 1] rfl ga ?_; (with_reducible refine (whittleref2_Fault.calls 1 t850 t851 t852 t853 t854 t855 _ A112.out).mono ?_); rintro e w113 ⟨rfl, hb⟩; refine ⟨_, rfl, ?_⟩; replace BX := bx_call hb; clear hb))
        refine bodyPost_ret (results_cell_row rfl _ _ gb806 25 #[.int .i64 t850, .int .i64 t851, .int .i64 t852, .string t853, .bool t854, .int .i64 t855] (0, 0) _ rfl bx_get Tryz.underlying25 rfl kr) rfl ?_
        exact ⟨er2, bx_bl⟩
       ·replace c111 := Bool.eq_false_iff.mpr c111
        subst c111
        have H1 : ((whittleref1_Whole.f kj93 a2_0 a2_1).bind fun bt856 => (if bt856.2 = true then ((whittleref1_Pow.f kj93 a1_0 a1_1 bt856.1).bind fun bt858 => ((whittleref2_fitting.f kj93 bt858.1 bt858.2.1 bt858.2.2).bind fun bt861 => (some (bt861.1, bt861.2.1, bt861.2.2.1, bt861.2.2.2.1, bt861.2.2.2.2.1, bt861.2.2.2.2.2)))) else ((whittleref2_Fault.f 4).bind fun bt867 => (some (bt867.1, bt867.2.1, bt867.2.2.1, bt867.2.2.2.1, bt867.2.2.2.2.1, bt867.2.2.2.2.2))))) = some (r1, r2, r3, r4, r5, r6) := by rw [if_neg (show ¬ (false = true) by decide)] at H; exact H
        clear H
        have H := H1
        clear H1
        replace H := Option.bind_eq_some_iff.mp H
        obtain ⟨⟨t856, t857⟩, A1180, H⟩ := H
        replace H : (if t857 = true then ((whittleref1_Pow.f kj93 a1_0 a1_1 t856).bind fun bt858 => ((whittleref2_fitting.f kj93 bt858.1 bt858.2.1 bt858.2.2).bind fun bt861 => (some (bt861.1, bt861.2.1, bt861.2.2.1, bt861.2.2.2.1, bt861.2.2.2.2.1, bt861.2.2.2.2.2)))) else ((whittleref2_Fault.f 4).bind fun bt867 => (some (bt867.1, bt867.2.1, bt867.2.2.1, bt867.2.2.2.1, bt867.2.2.2.2.1, bt867.2.2.2.2.2)))) = some (r1, r2, r3, r4, r5, r6) := H
        have A118 := Aside0.mk A1180
        clear A1180
        by_cases c119 : t857 = true
        ·subst c119
         have H1 : ((whittleref1_Pow.f kj93 a1_0 a1_1 t856).bind fun bt858 => ((whittleref2_fitting.f kj93 bt858.1 bt858.2.1 bt858.2.2).bind fun bt861 => (some (bt861.1, bt861.2.1, bt861.2.2.1, bt861.2.2.2.1, bt861.2.2.2.2.1, bt861.2.2.2.2.2)))) = some (r1, r2, r3, r4, r5, r6) := by rw [if_pos rfl] at H; exact H
         clear H
         have H := H1
         clear H1
         replace H := Option.bind_eq_some_iff.mp H
         obtain ⟨⟨t858, t859, t860⟩, A1200, H⟩ := H
         have A120 := Aside0.mk A1200
         clear A1200
         replace H := Option.bind_eq_some_iff.mp H
         obtain ⟨⟨t861, t862, t863, t864, t865, t866⟩, A1210, H⟩ := H
         replace H : (some (t861, t862, t863, t864, t865, t866)) = some (r1, r2, r3, r4, r5, r6) := H
         have A121 := Aside0.mk A1210
         clear A1210
         simp only [Option.some.injEq, Prod.mk.injEq] at H
         obtain ⟨rfl, rfl, rfl, rfl, rfl, rfl⟩ := H
         go_wp2_with (first | ((with_reducible refine gate_callee (f := 62) rfl ?_); refine goesL_ (some 23) rfl rfl Tryz.func62 kr rfl #[.agg #[.int .i64 a2_0, .int .i64 a2_1]] rfl ga ?_; (with_reducible refine (whittleref1_Whole.calls kj93 a2_0 a2_1 t856 true _ A118.out).mono ?_); rintro e w126 ⟨rfl, hb⟩; refine ⟨_, rfl, ?_⟩; replace BX := bx_call hb; clear hb) | ((with_reducible refine gate_callee (f := 63) rfl ?_); refine goesL_ (some 32) rfl rfl Tryz.func63 kr rfl #[.agg #[.int .i64 a1_0, .int .i64 a1_1], .int .i64 t856] rfl ga ?_; (with_reducible refine (whittleref1_Pow.calls kj93 a1_0 a1_1 t856 t858 t859 t860 _ A120.out).mono ?_); rintro e w130 ⟨rfl, hb⟩; refine ⟨_, rfl, ?_⟩; replace BX := bx_call hb; clear hb) | ((with_reducible refine gate_callee (f := 64) rfl ?_); refine goesL_ (some 73) rfl rfl Tryz.func64 kr rfl #[.agg #[.int .i64 t858, .int .i64 t859], .bool t860] rfl ga ?_; (with_reducible refine (whittleref2_fitting.calls kj93 t858 t859 t860 t861 t862 t863 t864 t865 t866 _ A121.out).mono ?_); rintro e w133 ⟨rfl, hb⟩; refine ⟨_, rfl, ?_⟩; replace BX := bx_call hb; clear hb))
         refine bodyPost_ret (results_cell_row rfl _ _ gb806 25 #[.int .i64 t861, .int .i64 t862, .int .i64 t863, .string t864, .bool t865, .int .i64 t866] (0, 0) _ rfl bx_get Tryz.underlying25 rfl kr) rfl ?_
         exact ⟨er2, bx_bl⟩
        ·replace c119 := Bool.eq_false_iff.mpr c119
         subst c119
         have H1 : ((whittleref2_Fault.f 4).bind fun bt867 => (some (bt867.1, bt867.2.1, bt867.2.2.1, bt867.2.2.2.1, bt867.2.2.2.2.1, bt867.2.2.2.2.2))) = some (r1, r2, r3, r4, r5, r6) := by rw [if_neg (show ¬ (false = true) by decide)] at H; exact H
         clear H
         have H := H1
         clear H1
         replace H := Option.bind_eq_some_iff.mp H
         obtain ⟨⟨t867, t868, t869, t870, t871, t872⟩, A1350, H⟩ := H
         replace H : (some (t867, t868, t869, t870, t871, t872)) = some (r1, r2, r3, r4, r5, r6) := H
         have A135 := Aside0.mk A1350
         clear A1350
         simp only [Option.some.injEq, Prod.mk.injEq] at H
         obtain ⟨rfl, rfl, rfl, rfl, rfl, rfl⟩ := H
         go_wp2_with (first | ((with_reducible refine gate_callee (f := 62) rfl ?_); refine goesL_ (some 23) rfl rfl Tryz.func62 kr rfl #[.agg #[.int .i64 a2_0, .int .i64 a2_1]] rfl ga ?_; (with_reducible refine (whittleref1_Whole.calls kj93 a2_0 a2_1 t856 false _ A118.out).mono ?_); rintro e w140 ⟨rfl, hb⟩; refine ⟨_, rfl, ?_⟩; replace BX := bx_call hb; clear hb) | ((with_reducible refine gate_callee (f := 24) rfl ?_); refine goesL_ (some 28) rfl rfl Tryz.func24 kr rfl #[.int .i64 4] rfl ga ?_; (with_reducible refine (whittleref2_Fault.calls 4 t867 t868 t869 t870 t871 t872 _ A135.out).mono ?_); rintro e w141 ⟨rfl, hb⟩; refine ⟨_, rfl, ?_⟩; replace BX := bx_call hb; clear hb))
         refine bodyPost_ret (results_cell_row rfl _ _ gb806 25 #[.int .i64 t867, .int .i64 t868, .int .i64 t869, .string t870, .bool t871, .int .i64 t872] (0, 0) _ rfl bx_get Tryz.underlying25 rfl kr) rfl ?_
         exact ⟨er2, bx_bl⟩
end
section
/-! ### whittleref2_Bin: function 7 -/
def whittleref2_Bin.j0 : Nat → Int → Bool → Int → Int → Int → ByteArray → Bool → Int → Int → Int → Int → ByteArray → Bool → Int → Option (Int × Int × Int × ByteArray × Bool × Int)
 | 0, _, _, _, _, _, _, _, _, _, _, _, _, _, _ => none
 | k + 1, x0, x34, x874000, x874001, x874002, x874003, x874004, x874005, x875000, x875001, x875002, x875003, x875004, x875005 => if x34 = true then ((whittleref2_Fault.f 2).bind fun bt888 => (some (bt888.1, bt888.2.1, bt888.2.2.1, bt888.2.2.2.1, bt888.2.2.2.2.1, bt888.2.2.2.2.2))) else (if x874000 = 4 then (some (x874000, x874001, x874002, x874003, x874004, x874005)) else (if x875000 = 4 then (some (x875000, x875001, x875002, x875003, x875004, x875005)) else (if x0 = 16 then ((whittleref2_AsText.f k x874000 x874001 x874002 x874003 x874004 x874005).bind fun bt894 => ((whittleref2_AsText.f k x875000 x875001 x875002 x875003 x875004 x875005).bind fun bt902 => (if bt894.1.size + bt902.1.size ≤ 9223372036854775807 then ((whittleref2_Text.f k (bt894.1 ++ bt902.1)).bind fun bt910 => (some (bt910.1, bt910.2.1, bt910.2.2.1, bt910.2.2.2.1, bt910.2.2.2.2.1, bt910.2.2.2.2.2))) else (none)))) else (if x0 ≥ 21 then ((whittleref2_Cmp.f k x874000 x874001 x874002 x874003 x874004 x874005 x875000 x875001 x875002 x875003 x875004 x875005).bind fun t916 => ((some (([(t916 == 0), (t916 != 0), decide (t916 < 0), decide (t916 ≤ 0), decide (t916 > 0), decide (t916 ≥ 0)] : List Bool) : List Bool)).bind fun y917 => (if 0 ≤ (wrap64 (x0 - 21)) then (if (wrap64 (x0 - 21)) < (y917.length : Int) then ((whittleref2_Truth.f (rdOf false y917 (wrap64 (x0 - 21)))).bind fun bt921 => (some (bt921.1, bt921.2.1, bt921.2.2.1, bt921.2.2.2.1, bt921.2.2.2.2.1, bt921.2.2.2.2.2))) else (none)) else (none)))) else ((whittleref2_AsNumber.f k x874000 x874001 x874002 x874003 x874004 x874005).bind fun bt927 => (if bt927.2.2.1 = 4 then (some (bt927.2.2.1, bt927.2.2.2.1, bt927.2.2.2.2.1, bt927.2.2.2.2.2.1, bt927.2.2.2.2.2.2.1, bt927.2.2.2.2.2.2.2)) else ((whittleref2_AsNumber.f k x875000 x875001 x875002 x875003 x875004 x875005).bind fun bt937 => (if bt937.2.2.1 = 4 then (some (bt937.2.2.1, bt937.2.2.2.1, bt937.2.2.2.2.1, bt937.2.2.2.2.2.1, bt937.2.2.2.2.2.2.1, bt937.2.2.2.2.2.2.2)) else ((whittleref2_reckoned.f k x0 bt927.1 bt927.2.1 bt937.1 bt937.2.1).bind fun bt947 => (some (bt947.1, bt947.2.1, bt947.2.2.1, bt947.2.2.2.1, bt947.2.2.2.2.1, bt947.2.2.2.2.2)))))))))))
def whittleref2_Bin.f (k : Nat) (a0 : Int) (a1_0 : Int) (a1_1 : Int) (a1_2 : Int) (a1_3 : ByteArray) (a1_4 : Bool) (a1_5 : Int) (a2_0 : Int) (a2_1 : Int) (a2_2 : Int) (a2_3 : ByteArray) (a2_4 : Bool) (a2_5 : Int) : Option (Int × Int × Int × ByteArray × Bool × Int) := (whittleref2_Of.f k a1_0 a1_1 a1_2 a1_3 a1_4 a1_5).bind fun bt876 => ((whittleref2_Of.f k a2_0 a2_1 a2_2 a2_3 a2_4 a2_5).bind fun bt882 => (if a0 < 11 then (if a0 < 21 then (whittleref2_Bin.j0 k a0 true bt876.1 bt876.2.1 bt876.2.2.1 bt876.2.2.2.1 bt876.2.2.2.2.1 bt876.2.2.2.2.2 bt882.1 bt882.2.1 bt882.2.2.1 bt882.2.2.2.1 bt882.2.2.2.2.1 bt882.2.2.2.2.2) else (whittleref2_Bin.j0 k a0 (decide (a0 > 26)) bt876.1 bt876.2.1 bt876.2.2.1 bt876.2.2.2.1 bt876.2.2.2.2.1 bt876.2.2.2.2.2 bt882.1 bt882.2.1 bt882.2.2.1 bt882.2.2.2.1 bt882.2.2.2.2.1 bt882.2.2.2.2.2)) else (if a0 > 16 then (if a0 < 21 then (whittleref2_Bin.j0 k a0 true bt876.1 bt876.2.1 bt876.2.2.1 bt876.2.2.2.1 bt876.2.2.2.2.1 bt876.2.2.2.2.2 bt882.1 bt882.2.1 bt882.2.2.1 bt882.2.2.2.1 bt882.2.2.2.2.1 bt882.2.2.2.2.2) else (whittleref2_Bin.j0 k a0 (decide (a0 > 26)) bt876.1 bt876.2.1 bt876.2.2.1 bt876.2.2.2.1 bt876.2.2.2.2.1 bt876.2.2.2.2.2 bt882.1 bt882.2.1 bt882.2.2.1 bt882.2.2.2.1 bt882.2.2.2.2.1 bt882.2.2.2.2.2)) else (whittleref2_Bin.j0 k a0 false bt876.1 bt876.2.1 bt876.2.2.1 bt876.2.2.2.1 bt876.2.2.2.2.1 bt876.2.2.2.2.2 bt882.1 bt882.2.1 bt882.2.2.1 bt882.2.2.2.1 bt882.2.2.2.2.1 bt882.2.2.2.2.2))))
theorem whittleref2_Bin.mono_l : ∀ k, (∀ y0 y1 y2 y3 y4 y5 y6 y7 y8 y9 y10 y11 y12 y13, LeO (whittleref2_Bin.j0 k y0 y1 y2 y3 y4 y5 y6 y7 y8 y9 y10 y11 y12 y13) (whittleref2_Bin.j0 (k + 1) y0 y1 y2 y3 y4 y5 y6 y7 y8 y9 y10 y11 y12 y13))
 | 0 => fun _ _ _ _ _ _ _ _ _ _ _ _ _ _ r h => by simp [whittleref2_Bin.j0] at h
 | k + 1 => by
  have ih0 := whittleref2_Bin.mono_l k
  ·intro y0 y1 y2 y3 y4 y5 y6 y7 y8 y9 y10 y11 y12 y13
   unfold whittleref2_Bin.j0
   repeat' first
   | (with_reducible exact ih0 _ _ _ _ _ _ _ _ _ _ _ _ _ _)
   | (with_reducible exact whittleref2_AsNumber.mono _ _ _ _ _ _ _)
   | (with_reducible exact whittleref2_AsText.mono _ _ _ _ _ _ _)
   | (with_reducible exact whittleref2_Cmp.mono _ _ _ _ _ _ _ _ _ _ _ _ _)
   | (with_reducible exact whittleref2_Of.mono _ _ _ _ _ _ _)
   | (with_reducible exact whittleref2_Text.mono _ _)
   | (with_reducible exact whittleref2_reckoned.mono _ _ _ _ _ _)
   | (with_reducible exact LeO.refl _)
   | (with_reducible exact LeO.none _)
   | (with_reducible refine LeO.ite ?_ ?_)
   | (with_reducible refine LeO.bind ?_ (fun _ => ?_))
   | exact ih0 _ _ _ _ _ _ _ _ _ _ _ _ _ _
   | exact whittleref2_AsNumber.mono _ _ _ _ _ _ _
   | exact whittleref2_AsText.mono _ _ _ _ _ _ _
   | exact whittleref2_Cmp.mono _ _ _ _ _ _ _ _ _ _ _ _ _
   | exact whittleref2_Of.mono _ _ _ _ _ _ _
   | exact whittleref2_Text.mono _ _
   | exact whittleref2_reckoned.mono _ _ _ _ _ _
   | exact LeO.none _
   | refine LeO.ite ?_ ?_
   | refine LeO.bind ?_ (fun _ => ?_)
theorem whittleref2_Bin.mono : ∀ a0 a1 a2 a3 a4 a5 a6 a7 a8 a9 a10 a11 a12 k, LeO (whittleref2_Bin.f k a0 a1 a2 a3 a4 a5 a6 a7 a8 a9 a10 a11 a12) (whittleref2_Bin.f (k + 1) a0 a1 a2 a3 a4 a5 a6 a7 a8 a9 a10 a11 a12) := by
 intro a0 a1 a2 a3 a4 a5 a6 a7 a8 a9 a10 a11 a12 k
 have ih0 := whittleref2_Bin.mono_l k
 unfold whittleref2_Bin.f
 repeat' first
   | (with_reducible exact ih0 _ _ _ _ _ _ _ _ _ _ _ _ _ _)
   | (with_reducible exact whittleref2_AsNumber.mono _ _ _ _ _ _ _)
   | (with_reducible exact whittleref2_AsText.mono _ _ _ _ _ _ _)
   | (with_reducible exact whittleref2_Cmp.mono _ _ _ _ _ _ _ _ _ _ _ _ _)
   | (with_reducible exact whittleref2_Of.mono _ _ _ _ _ _ _)
   | (with_reducible exact whittleref2_Text.mono _ _)
   | (with_reducible exact whittleref2_reckoned.mono _ _ _ _ _ _)
   | (with_reducible exact LeO.refl _)
   | (with_reducible exact LeO.none _)
   | (with_reducible refine LeO.ite ?_ ?_)
   | (with_reducible refine LeO.bind ?_ (fun _ => ?_))
   | exact ih0 _ _ _ _ _ _ _ _ _ _ _ _ _ _
   | exact whittleref2_AsNumber.mono _ _ _ _ _ _ _
   | exact whittleref2_AsText.mono _ _ _ _ _ _ _
   | exact whittleref2_Cmp.mono _ _ _ _ _ _ _ _ _ _ _ _ _
   | exact whittleref2_Of.mono _ _ _ _ _ _ _
   | exact whittleref2_Text.mono _ _
   | exact whittleref2_reckoned.mono _ _ _ _ _ _
   | exact LeO.none _
   | refine LeO.ite ?_ ?_
   | refine LeO.bind ?_ (fun _ => ?_)
set_option maxHeartbeats 8000000 in
set_option maxRecDepth 100000 in
theorem whittleref2_Bin.calls (k : Nat) (a0 : Int) (a1_0 : Int) (a1_1 : Int) (a1_2 : Int) (a1_3 : ByteArray) (a1_4 : Bool) (a1_5 : Int) (a2_0 : Int) (a2_1 : Int) (a2_2 : Int) (a2_3 : ByteArray) (a2_4 : Bool) (a2_5 : Int) (r1 : Int) (r2 : Int) (r3 : Int) (r4 : ByteArray) (r5 : Bool) (r6 : Int) (w : World) (h : whittleref2_Bin.f k a0 a1_0 a1_1 a1_2 a1_3 a1_4 a1_5 a2_0 a2_1 a2_2 a2_3 a2_4 a2_5 = some (r1, r2, r3, r4, r5, r6)) :
  Calls Tryz.prog 7 #[.int .i64 a0, .agg #[.int .i64 a1_0, .int .i64 a1_1, .int .i64 a1_2, .string a1_3, .bool a1_4, .int .i64 a1_5], .agg #[.int .i64 a2_0, .int .i64 a2_1, .int .i64 a2_2, .string a2_3, .bool a2_4, .int .i64 a2_5]] w fun e w' => e = .returned (.agg #[.int .i64 r1, .int .i64 r2, .int .i64 r3, .string r4, .bool r5, .int .i64 r6]) ∧ Below w.heap.size w w' := by
 have hu25 := Tryz.underlying25
 have hu23 := Tryz.underlying23
 have BX := Bx.start w
 have H : ((whittleref2_Of.f k a1_0 a1_1 a1_2 a1_3 a1_4 a1_5).bind fun bt876 => ((whittleref2_Of.f k a2_0 a2_1 a2_2 a2_3 a2_4 a2_5).bind fun bt882 => (if a0 < 11 then (if a0 < 21 then (whittleref2_Bin.j0 k a0 true bt876.1 bt876.2.1 bt876.2.2.1 bt876.2.2.2.1 bt876.2.2.2.2.1 bt876.2.2.2.2.2 bt882.1 bt882.2.1 bt882.2.2.1 bt882.2.2.2.1 bt882.2.2.2.2.1 bt882.2.2.2.2.2) else (whittleref2_Bin.j0 k a0 (decide (a0 > 26)) bt876.1 bt876.2.1 bt876.2.2.1 bt876.2.2.2.1 bt876.2.2.2.2.1 bt876.2.2.2.2.2 bt882.1 bt882.2.1 bt882.2.2.1 bt882.2.2.2.1 bt882.2.2.2.2.1 bt882.2.2.2.2.2)) else (if a0 > 16 then (if a0 < 21 then (whittleref2_Bin.j0 k a0 true bt876.1 bt876.2.1 bt876.2.2.1 bt876.2.2.2.1 bt876.2.2.2.2.1 bt876.2.2.2.2.2 bt882.1 bt882.2.1 bt882.2.2.1 bt882.2.2.2.1 bt882.2.2.2.2.1 bt882.2.2.2.2.2) else (whittleref2_Bin.j0 k a0 (decide (a0 > 26)) bt876.1 bt876.2.1 bt876.2.2.1 bt876.2.2.2.1 bt876.2.2.2.2.1 bt876.2.2.2.2.2 bt882.1 bt882.2.1 bt882.2.2.1 bt882.2.2.2.1 bt882.2.2.2.2.1 bt882.2.2.2.2.2)) else (whittleref2_Bin.j0 k a0 false bt876.1 bt876.2.1 bt876.2.2.1 bt876.2.2.2.1 bt876.2.2.2.2.1 bt876.2.2.2.2.2 bt882.1 bt882.2.1 bt882.2.2.1 bt882.2.2.2.1 bt882.2.2.2.2.1 bt882.2.2.2.2.2))))) = some (r1, r2, r3, r4, r5, r6) := h
 clear h
 replace H := Option.bind_eq_some_iff.mp H
 obtain ⟨⟨t876, t877, t878, t879, t880, t881⟩, A40, H⟩ := H
 have A4 := Aside0.mk A40
 clear A40
 replace H := Option.bind_eq_some_iff.mp H
 obtain ⟨⟨t882, t883, t884, t885, t886, t887⟩, A50, H⟩ := H
 replace H : (if a0 < 11 then (if a0 < 21 then (whittleref2_Bin.j0 k a0 true t876 t877 t878 t879 t880 t881 t882 t883 t884 t885 t886 t887) else (whittleref2_Bin.j0 k a0 (decide (a0 > 26)) t876 t877 t878 t879 t880 t881 t882 t883 t884 t885 t886 t887)) else (if a0 > 16 then (if a0 < 21 then (whittleref2_Bin.j0 k a0 true t876 t877 t878 t879 t880 t881 t882 t883 t884 t885 t886 t887) else (whittleref2_Bin.j0 k a0 (decide (a0 > 26)) t876 t877 t878 t879 t880 t881 t882 t883 t884 t885 t886 t887)) else (whittleref2_Bin.j0 k a0 false t876 t877 t878 t879 t880 t881 t882 t883 t884 t885 t886 t887))) = some (r1, r2, r3, r4, r5, r6) := H
 have A5 := Aside0.mk A50
 clear A50
 have HC6 := Aside0.mk H
 clear H
 go_enter Tryz.func7, Tryz.ntmps7
 go_upto_region 3 with (first | ((with_reducible refine gate_dst (N := 4) rfl ?_); refine bxe 4 #[.int .i64 a1_0, .int .i64 a1_1, .int .i64 a1_2, .string a1_3, .bool a1_4, .int .i64 a1_5] 25 rfl rfl gr ?_; clear BX; intro gb873 w7 GE873 BX) | ((with_reducible refine gate_dst (N := 5) rfl ?_); refine bxe 5 #[.int .i64 a2_0, .int .i64 a2_1, .int .i64 a2_2, .string a2_3, .bool a2_4, .int .i64 a2_5] 25 rfl rfl gr ?_; clear BX; intro gb874 w8 GE874 BX) | ((with_reducible refine gate_dst (N := 6) rfl ?_); refine bxe 6 #[.int .i64 0, .int .i64 0, .int .i64 0, .string (⟨#[]⟩ : ByteArray), .bool false, .int .i64 0] 25 rfl rfl gr ?_; clear BX; intro gb875 w9 GE875 BX) | ((with_reducible refine gate_callee (f := 23) rfl ?_); refine goesL_ (some 18) rfl rfl Tryz.func23 kr rfl #[.agg #[.int .i64 a1_0, .int .i64 a1_1, .int .i64 a1_2, .string a1_3, .bool a1_4, .int .i64 a1_5]] rfl ga ?_; (with_reducible refine (whittleref2_Of.calls k a1_0 a1_1 a1_2 a1_3 a1_4 a1_5 t876 t877 t878 t879 t880 t881 _ A4.out).mono ?_); rintro e w13 ⟨rfl, hb⟩; refine ⟨_, rfl, ?_⟩; replace BX := bx_call hb; clear hb) | ((with_reducible refine gate_callee (f := 23) rfl ?_); refine goesL_ (some 20) rfl rfl Tryz.func23 kr rfl #[.agg #[.int .i64 a2_0, .int .i64 a2_1, .int .i64 a2_2, .string a2_3, .bool a2_4, .int .i64 a2_5]] rfl ga ?_; (with_reducible refine (whittleref2_Of.calls k a2_0 a2_1 a2_2 a2_3 a2_4 a2_5 t882 t883 t884 t885 t886 t887 _ A5.out).mono ?_); rintro e w17 ⟨rfl, hb⟩; refine ⟨_, rfl, ?_⟩; replace BX := bx_call hb; clear hb))
 (try simp only [Act.put, List.setIfInBounds_toArray, List.set_cons_zero, List.set_cons_succ])
 go_cut [34] (fun v34 wc => ∃ (kq : Nat) (x34_5 : Bool), v34 = .bool x34_5 ∧ Aside0 (whittleref2_Bin.j0 kq a0 x34_5 t876 t877 t878 t879 t880 t881 t882 t883 t884 t885 t886 t887 = some (r1, r2, r3, r4, r5, r6)) ∧ Aside0 (kq ≤ k) ∧ Bx w wc [(gb875, 25, #[.int .i64 0, .int .i64 0, .int .i64 0, .string (⟨#[]⟩ : ByteArray), .bool false, .int .i64 0]), (gb874, 25, #[.int .i64 t882, .int .i64 t883, .int .i64 t884, .string t885, .bool t886, .int .i64 t887]), (gb873, 25, #[.int .i64 t876, .int .i64 t877, .int .i64 t878, .string t879, .bool t880, .int .i64 t881])])
 case first =>
  have H := HC6.out
  clear HC6
  by_cases c19 : a0 < 11
  ·rw [if_pos c19] at H
   have c19b0 : decide (a0 < 11) = true := decide_eq_true c19
   clear c19
   (first | rw [c19b0] | (simp only [i64_w, i32_w]; rw [c19b0]) | skip)
   by_cases c20 : a0 < 21
   ·rw [if_pos c20] at H
    have c20b0 : decide (a0 < 21) = true := decide_eq_true c20
    clear c20
    have H' := Aside0.mk H
    clear H
    go_wp2
    go_meet
    case rel => exact ⟨_, (true), er, H', ⟨by first | omega | exact Nat.le_refl _⟩, bxs⟩
   ·rw [if_neg c20] at H
    have c20b0 : decide (a0 < 21) = false := decide_eq_false c20
    clear c20
    have H' := Aside0.mk H
    clear H
    go_wp2
    go_meet
    case rel => exact ⟨_, (decide (a0 > 26)), er, H', ⟨by first | omega | exact Nat.le_refl _⟩, bxs⟩
  ·rw [if_neg c19] at H
   have c19b0 : decide (a0 < 11) = false := decide_eq_false c19
   clear c19
   (first | rw [c19b0] | (simp only [i64_w, i32_w]; rw [c19b0]) | skip)
   by_cases c21 : a0 > 16
   ·rw [if_pos c21] at H
    have c21b0 : decide (16 < a0) = true := decide_eq_true c21
    clear c21
    by_cases c22 : a0 < 21
    ·rw [if_pos c22] at H
     have c22b0 : decide (a0 < 21) = true := decide_eq_true c22
     clear c22
     have H' := Aside0.mk H
     clear H
     go_wp2
     go_meet
     case rel => exact ⟨_, (true), er, H', ⟨by first | omega | exact Nat.le_refl _⟩, bxs⟩
    ·rw [if_neg c22] at H
     have c22b0 : decide (a0 < 21) = false := decide_eq_false c22
     clear c22
     have H' := Aside0.mk H
     clear H
     go_wp2
     go_meet
     case rel => exact ⟨_, (decide (a0 > 26)), er, H', ⟨by first | omega | exact Nat.le_refl _⟩, bxs⟩
   ·rw [if_neg c21] at H
    have c21b0 : decide (16 < a0) = false := decide_eq_false c21
    clear c21
    have H' := Aside0.mk H
    clear H
    go_wp2
    go_meet
    case rel => exact ⟨_, (false), er, H', ⟨by first | omega | exact Nat.le_refl _⟩, bxs⟩
 case rest =>
  clear HC6
  try clear c1
  try clear c2
  try clear p2
  try clear c7
  try clear c10
  try clear c11
  try clear c15
  try clear c19
  try clear c19b0
  try clear c20
  try clear c20b0
  try clear c21
  try clear c21b0
  try clear c22
  try clear c22b0
  obtain ⟨kq, x34_5, rfl, HA, HJ5, BX⟩ := hcut
  cases kq with
  | zero => exact absurd HA.out (by simp [whittleref2_Bin.j0])
  | succ kj5 =>
   have H := HA.out
   clear HA
   simp only [whittleref2_Bin.j0] at H
   by_cases c23 : x34_5 = true
   ·subst c23
    have H1 : ((whittleref2_Fault.f 2).bind fun bt888 => (some (bt888.1, bt888.2.1, bt888.2.2.1, bt888.2.2.2.1, bt888.2.2.2.2.1, bt888.2.2.2.2.2))) = some (r1, r2, r3, r4, r5, r6) := by rw [if_pos rfl] at H; exact H
    clear H
    have H := H1
    clear H1
    replace H := Option.bind_eq_some_iff.mp H
    obtain ⟨⟨t888, t889, t890, t891, t892, t893⟩, A240, H⟩ := H
    replace H : (some (t888, t889, t890, t891, t892, t893)) = some (r1, r2, r3, r4, r5, r6) := H
    have A24 := Aside0.mk A240
    clear A240
    simp only [Option.some.injEq, Prod.mk.injEq] at H
    obtain ⟨rfl, rfl, rfl, rfl, rfl, rfl⟩ := H
    go_wp2_with (first | ((with_reducible refine gate_callee (f := 24) rfl ?_); refine goesL_ (some 35) rfl rfl Tryz.func24 kr rfl #[.int .i64 2] rfl ga ?_; (with_reducible refine (whittleref2_Fault.calls 2 t888 t889 t890 t891 t892 t893 _ A24.out).mono ?_); rintro e w25 ⟨rfl, hb⟩; refine ⟨_, rfl, ?_⟩; replace BX := bx_call hb; clear hb))
    refine bodyPost_ret (results_cell_row rfl _ _ gb875 25 #[.int .i64 t888, .int .i64 t889, .int .i64 t890, .string t891, .bool t892, .int .i64 t893] (0, 0) _ rfl bx_get Tryz.underlying25 rfl kr) rfl ?_
    exact ⟨er2, bx_bl⟩
   ·replace c23 := Bool.eq_false_iff.mpr c23
    subst c23
    have H1 : (if t876 = 4 then (some (t876, t877, t878, t879, t880, t881)) else (if t882 = 4 then (some (t882, t883, t884, t885, t886, t887)) else (if a0 = 16 then ((whittleref2_AsText.f kj5 t876 t877 t878 t879 t880 t881).bind fun bt894 => ((whittleref2_AsText.f kj5 t882 t883 t884 t885 t886 t887).bind fun bt902 => (if bt894.1.size + bt902.1.size ≤ 9223372036854775807 then ((whittleref2_Text.f kj5 (bt894.1 ++ bt902.1)).bind fun bt910 => (some (bt910.1, bt910.2.1, bt910.2.2.1, bt910.2.2.2.1, bt910.2.2.2.2.1, bt910.2.2.2.2.2))) else (none)))) else (if a0 ≥ 21 then ((whittleref2_Cmp.f kj5 t876 t877 t878 t879 t880 t881 t882 t883 t884 t885 t886 t887).bind fun t916 => ((some (([(t916 == 0), (t916 != 0), decide (t916 < 0), decide (t916 ≤ 0), decide (t916 > 0), decide (t916 ≥ 0)] : List Bool) : List Bool)).bind fun y917 => (if 0 ≤ (wrap64 (a0 - 21)) then (if (wrap64 (a0 - 21)) < (y917.length : Int) then ((whittleref2_Truth.f (rdOf false y917 (wrap64 (a0 - 21)))).bind fun bt921 => (some (bt921.1, bt921.2.1, bt921.2.2.1, bt921.2.2.2.1, bt921.2.2.2.2.1, bt921.2.2.2.2.2))) else (none)) else (none)))) else ((whittleref2_AsNumber.f kj5 t876 t877 t878 t879 t880 t881).bind fun bt927 => (if bt927.2.2.1 = 4 then (some (bt927.2.2.1, bt927.2.2.2.1, bt927.2.2.2.2.1, bt927.2.2.2.2.2.1, bt927.2.2.2.2.2.2.1, bt927.2.2.2.2.2.2.2)) else ((whittleref2_AsNumber.f kj5 t882 t883 t884 t885 t886 t887).bind fun bt937 => (if bt937.2.2.1 = 4 then (some (bt937.2.2.1, bt937.2.2.2.1, bt937.2.2.2.2.1, bt937.2.2.2.2.2.1, bt937.2.2.2.2.2.2.1, bt937.2.2.2.2.2.2.2)) else ((whittleref2_reckoned.f kj5 a0 bt927.1 bt927.2.1 bt937.1 bt937.2.1).bind fun bt947 => (some (bt947.1, bt947.2.1, bt947.2.2.1, bt947.2.2.2.1, bt947.2.2.2.2.1, bt947.2.2.2.2.2))))))))))) = some (r1, r2, r3, r4, r5, r6) := by rw [if_neg (show ¬ (false = true) by decide)] at H; exact H
    clear H
    have H := H1
    clear H1
    by_cases c29 : t876 = 4
    ·rw [if_pos c29] at H
     have c29b0 : (t876 == 4) = true := beq_iff_eq.mpr c29
     have c29b1 : (t876 != 4) = false := bne_eq_false_iff_eq.mpr c29
     clear c29
     simp only [Option.some.injEq, Prod.mk.injEq] at H
     obtain ⟨rfl, rfl, rfl, rfl, rfl, rfl⟩ := H
     go_wp2
     refine bodyPost_ret (results_cell_row rfl _ _ gb875 25 #[.int .i64 t876, .int .i64 t877, .int .i64 t878, .string t879, .bool t880, .int .i64 t881] (0, 0) _ rfl bx_get Tryz.underlying25 rfl kr) rfl ?_
     exact ⟨er2, bx_bl⟩
    ·rw [if_neg c29] at H
     have c29b0 : (t876 == 4) = false := beq_eq_false_iff_ne.mpr c29
     have c29b1 : (t876 != 4) = true := bne_iff_ne.mpr c29
     by_cases c35 : t882 = 4
     ·rw [if_pos c35] at H
      have c35b0 : (t882 == 4) = true := beq_iff_eq.mpr c35
      have c35b1 : (t882 != 4) = false := bne_eq_false_iff_eq.mpr c35
      clear c35
      simp only [Option.some.injEq, Prod.mk.injEq] at H
      obtain ⟨rfl, rfl, rfl, rfl, rfl, rfl⟩ := H
      go_wp2
      refine bodyPost_ret (results_cell_row rfl _ _ gb875 25 #[.int .i64 t882, .int .i64 t883, .int .i64 t884, .string t885, .bool t886, .int .i64 t887] (0, 0) _ rfl bx_get Tryz.underlying25 rfl kr) rfl ?_
      exact ⟨er2, bx_bl⟩
     ·rw [if_neg c35] at H
      have c35b0 : (t882 == 4) = false := beq_eq_false_iff_ne.mpr c35
      have c35b1 : (t882 != 4) = true := bne_iff_ne.mpr c35
      by_cases c42 : a0 = 16
      ·rw [if_pos c42] at H
       have c42b0 : (a0 == 16) = true := beq_iff_eq.mpr c42
       have c42b1 : (a0 != 16) = false := bne_eq_false_iff_eq.mpr c42
       clear c42
       replace H := Option.bind_eq_some_iff.mp H
       obtain ⟨⟨t894, t895, t896, t897, t898, t899, t900⟩, A430, H⟩ := H
       have A43 := Aside0.mk A430
       clear A430
       replace H := Option.bind_eq_some_iff.mp H
       obtain ⟨⟨t902, t903, t904, t905, t906, t907, t908⟩, A440, H⟩ := H
       replace H : (if t894.size + t902.size ≤ 9223372036854775807 then ((whittleref2_Text.f kj5 (t894 ++ t902)).bind fun bt910 => (some (bt910.1, bt910.2.1, bt910.2.2.1, bt910.2.2.2.1, bt910.2.2.2.2.1, bt910.2.2.2.2.2))) else (none)) = some (r1, r2, r3, r4, r5, r6) := H
       have A44 := Aside0.mk A440
       clear A440
       by_cases c45 : t894.size + t902.size ≤ 9223372036854775807
       ·rw [if_pos c45] at H
        have c45b0 := eq_true c45
        have c45b1 : decide (t894.size + t902.size ≤ 9223372036854775807) = true := decide_eq_true c45
        try have c45b2 : (9223372036854775807 < t894.size + t902.size) = False := eq_false (Nat.not_lt.2 c45)
        replace H := Option.bind_eq_some_iff.mp H
        obtain ⟨⟨t910, t911, t912, t913, t914, t915⟩, A460, H⟩ := H
        replace H : (some (t910, t911, t912, t913, t914, t915)) = some (r1, r2, r3, r4, r5, r6) := H
        have A46 := Aside0.mk A460
        clear A460
        simp only [Option.some.injEq, Prod.mk.injEq] at H
        obtain ⟨rfl, rfl, rfl, rfl, rfl, rfl⟩ := H
        go_wp2_with (first | ((with_reducible refine gate_callee (f := 25) rfl ?_); refine goesL_ (some 48) rfl rfl Tryz.func25 kr rfl #[.agg #[.int .i64 t876, .int .i64 t877, .int .i64 t878, .string t879, .bool t880, .int .i64 t881]] rfl ga ?_; (with_reducible refine (whittleref2_AsText.calls kj5 t876 t877 t878 t879 t880 t881 t894 t895 t896 t897 t898 t899 t900 _ A43.out).mono ?_); rintro e w52 ⟨rfl, hb⟩; refine ⟨_, rfl, ?_⟩; replace BX := bx_call hb; clear hb) | ((with_reducible refine gate_dst (N := 8) rfl ?_); refine bxe 8 #[.int .i64 0, .int .i64 0, .int .i64 0, .string (⟨#[]⟩ : ByteArray), .bool false, .int .i64 0] 25 rfl rfl gr ?_; clear BX; intro gb901 w53 GE901 BX) | ((with_reducible refine gate_callee (f := 25) rfl ?_); refine goesL_ (some 53) rfl rfl Tryz.func25 kr rfl #[.agg #[.int .i64 t882, .int .i64 t883, .int .i64 t884, .string t885, .bool t886, .int .i64 t887]] rfl ga ?_; (with_reducible refine (whittleref2_AsText.calls kj5 t882 t883 t884 t885 t886 t887 t902 t903 t904 t905 t906 t907 t908 _ A44.out).mono ?_); rintro e w59 ⟨rfl, hb⟩; refine ⟨_, rfl, ?_⟩; replace BX := bx_call hb; clear hb) | ((with_reducible refine gate_dst (N := 10) rfl ?_); refine bxe 10 #[.int .i64 0, .int .i64 0, .int .i64 0, .string (⟨#[]⟩ : ByteArray), .bool false, .int .i64 0] 25 rfl rfl gr ?_; clear BX; intro gb909 w60 GE909 BX) | ((with_reducible refine gate_callee (f := 26) rfl ?_); refine goesL_ (some 59) rfl rfl Tryz.func26 kr rfl #[.string (t894 ++ t902)] rfl ga ?_; (with_reducible refine (whittleref2_Text.calls kj5 (t894 ++ t902) t910 t911 t912 t913 t914 t915 _ A46.out).mono ?_); rintro e w66 ⟨rfl, hb⟩; refine ⟨_, rfl, ?_⟩; replace BX := bx_call hb; clear hb))
        refine bodyPost_ret (results_cell_row rfl _ _ gb875 25 #[.int .i64 t910, .int .i64 t911, .int .i64 t912, .string t913, .bool t914, .int .i64 t915] (0, 0) _ rfl bx_get Tryz.underlying25 rfl kr) rfl ?_
        exact ⟨er2, bx_bl⟩
       ·rw [if_neg c45] at H
        exact absurd H (by simp)
      ·rw [if_neg c42] at H
       have c42b0 : (a0 == 16) = false := beq_eq_false_iff_ne.mpr c42
       have c42b1 : (a0 != 16) = true := bne_iff_ne.mpr c42
       by_cases c68 : a0 ≥ 21
       ·rw [if_pos c68] at H
        have c68b0 : decide (21 ≤ a0) = true := decide_eq_true c68
        clear c68
        replace H := Option.bind_eq_some_iff.mp H
        obtain ⟨t916, A690, H⟩ := H
        replace H : ((some (([(t916 == 0), (t916 != 0), decide (t916 < 0), decide (t916 ≤ 0), decide (t916 > 0), decide (t916 ≥ 0)] : List Bool) : List Bool)).bind fun y917 => (if 0 ≤ (wrap64 (a0 - 21)) then (if (wrap64 (a0 - 21)) < (y917.length : Int) then ((whittleref2_Truth.f (rdOf false y917 (wrap64 (a0 - 21)))).bind fun bt921 => (some (bt921.1, bt921.2.1, bt921.2.2.1, bt921.2.2.2.1, bt921.2.2.2.2.1, bt921.2.2.2.2.2))) else (none)) else (none))) = some (r1, r2, r3, r4, r5, r6) := H
        have A69 := Aside0.mk A690
        clear A690
        obtain ⟨y917, hy917⟩ : ∃ y_ : List Bool, y_ = (([(t916 == 0), (t916 != 0), decide (t916 < 0), decide (t916 ≤ 0), decide (t916 > 0), decide (t916 ≥ 0)] : List Bool)) := ⟨_, rfl⟩
        replace H : (if 0 ≤ (wrap64 (a0 - 21)) then (if (wrap64 (a0 - 21)) < (y917.length : Int) then ((whittleref2_Truth.f (rdOf false y917 (wrap64 (a0 - 21)))).bind fun bt921 => (some (bt921.1, bt921.2.1, bt921.2.2.1, bt921.2.2.2.1, bt921.2.2.2.2.1, bt921.2.2.2.2.2))) else (none)) else (none)) = some (r1, r2, r3, r4, r5, r6) := by first | (rw [hy917]; with_reducible exact H) | (have H2_ := (Option.bind_some _ _).symm.trans H; rw [hy917]; with_reducible exact H2_) | (have H2_ := (Option.bind_some _ _).symm.trans H; with_reducible exact H2_) | with_reducible exact H | (rw [hy917]; exact H) | exact H
        have Ny917 := Aside0.mk hy917
        clear hy917
        obtain ⟨ji70, hji70⟩ : ∃ j_ : Int, (wrap64 (a0 - 21)) = j_ := ⟨_, rfl⟩
        replace H : (if 0 ≤ (ji70) then (if (ji70) < (y917.length : Int) then ((whittleref2_Truth.f (rdOf false y917 (ji70))).bind fun bt921 => (some (bt921.1, bt921.2.1, bt921.2.2.1, bt921.2.2.2.1, bt921.2.2.2.2.1, bt921.2.2.2.2.2))) else (none)) else (none)) = some (r1, r2, r3, r4, r5, r6) := by first | (rw [hji70] at H; exact H) | (simp only [hji70] at H ⊢; exact H)
        (try rw [hji70] at A69)
        have hji70w : (IntKind.i64.wrap (a0 - 21)) = ji70 := (i64_w _).trans hji70
        by_cases c71 : 0 ≤ (ji70)
        ·rw [if_pos c71] at H
         have c71b0 : decide (0 ≤ (ji70)) = true := decide_eq_true c71
         clear c71
         by_cases c72 : (ji70) < (y917.length : Int)
         ·rw [if_pos c72] at H
          have c72b0 : decide ((ji70) < (y917.length : Int)) = true := decide_eq_true c72
          clear c72
          replace H := Option.bind_eq_some_iff.mp H
          obtain ⟨⟨t921, t922, t923, t924, t925, t926⟩, A730, H⟩ := H
          replace H : (some (t921, t922, t923, t924, t925, t926)) = some (r1, r2, r3, r4, r5, r6) := H
          have A73 := Aside0.mk A730
          clear A730
          simp only [Option.some.injEq, Prod.mk.injEq] at H
          obtain ⟨rfl, rfl, rfl, rfl, rfl, rfl⟩ := H
          go_wp2_with (first | ((with_reducible refine gate_callee (f := 27) rfl ?_); refine goesL_ (some 64) rfl rfl Tryz.func27 kr rfl #[.agg #[.int .i64 t876, .int .i64 t877, .int .i64 t878, .string t879, .bool t880, .int .i64 t881], .agg #[.int .i64 t882, .int .i64 t883, .int .i64 t884, .string t885, .bool t886, .int .i64 t887]] rfl ga ?_; (with_reducible refine (whittleref2_Cmp.calls kj5 t876 t877 t878 t879 t880 t881 t882 t883 t884 t885 t886 t887 t916 _ A69.out).mono ?_); rintro e w79 ⟨rfl, hb⟩; refine ⟨_, rfl, ?_⟩; replace BX := bx_call hb; clear hb) | ((with_reducible refine gate_dst (N := 77) rfl ?_); refine Kd.R_lit Kd.bool _ 4 ?hg (N := 77) ?hd (xs := ([(t916 == 0), (t916 != 0), decide (t916 < 0), decide (t916 ≤ 0), decide (t916 > 0), decide (t916 ≥ 0)] : List Bool)) (inner := [.bool (t916 == 0), .bool (t916 != 0), .bool (decide (t916 < 0)), .bool (decide (t916 ≤ 0)), .bool (decide (t916 > 0)), .bool (decide (t916 ≥ 0))]) (ok := fun _ => True) (okp := fun _ => True) ?hr ?hp (fun _ hk => hk) trivial (Below.refl _ _) (Nat.le_refl _) (by simp) ?_; (case hd => rfl); (case hg => rfl); (case hr => first | (go_simp; done) | (go_simp; rfl)); (case hp => exact (Reps.one (show Kd.M Kd.bool _ _ _ (t916 == 0) [.bool (t916 == 0)] from rfl) (Reps.one (show Kd.M Kd.bool _ _ _ (t916 != 0) [.bool (t916 != 0)] from rfl) (Reps.one (show Kd.M Kd.bool _ _ _ (decide (t916 < 0)) [.bool (decide (t916 < 0))] from rfl) (Reps.one (show Kd.M Kd.bool _ _ _ (decide (t916 ≤ 0)) [.bool (decide (t916 ≤ 0))] from rfl) (Reps.one (show Kd.M Kd.bool _ _ _ (decide (t916 > 0)) [.bool (decide (t916 > 0))] from rfl) (Reps.one (show Kd.M Kd.bool _ _ _ (decide (t916 ≥ 0)) [.bool (decide (t916 ≥ 0))] from rfl) (Reps.none _ _)))))))); intro v918 w80 ho81 hb hg_ hnew_; clear hg_ hnew_; (first | rw [← Ny917.out] at ho81 | (simp only [Int.reduceToNat] at ho81; rw [← Ny917.out] at ho81)); have n1_ := Aside0.mk (Kd.R_lower ho81 (below_size bx_bl)); replace BX := bx_call hb; have HO919 := n1_; clear n1_; clear hb ho81; obtain ⟨Ao82, co82, eo82⟩ := Kd.R_slice HO919.out; subst eo82; have p920 : 0 ≤ ((ji70) : Int) := of_decide_eq_true (by first | (with_reducible assumption) | assumption); have q920 : (ji70) < (y917.length : Int) := of_decide_eq_true (by first | (with_reducible assumption) | assumption); obtain ⟨ad920, e920, hx920_0⟩ := Kd.at_bool (Kd.R_reads' HO919.out).2.2 (ji70) p920 q920; cases e920; replace p920 := eq_true p920; replace q920 := eq_true q920) | ((with_reducible refine gate_callee (f := 28) rfl ?_); refine goesL_ (some 83) rfl rfl Tryz.func28 kr rfl #[.bool (rdOf false y917 (ji70))] rfl (by (try simp only [List.map_toArray, List.map_cons, List.map_nil]); first | done | (simp only [hji70]; rfl) | rfl | (simp only [List.length_drop, List.length_take]; rfl)) ?_; (with_reducible refine (whittleref2_Truth.calls (rdOf false y917 (ji70)) t921 t922 t923 t924 t925 t926 _ A73.out).mono ?_); rintro e w83 ⟨rfl, hb⟩; refine ⟨_, rfl, ?_⟩; have n1_ := Aside0.mk (Kd.R_below (by (with_reducible repeat (first | apply Kd.R_alloc | apply Kd.R_drewN | apply Kd.R_drew)); exact HO919.out) hb); replace BX := bx_call hb; clear HO919; have HO919 := n1_; clear n1_; clear hb))
          refine bodyPost_ret (results_cell_row rfl _ _ gb875 25 #[.int .i64 t921, .int .i64 t922, .int .i64 t923, .string t924, .bool t925, .int .i64 t926] (0, 0) _ rfl bx_get Tryz.underlying25 rfl kr) rfl ?_
          exact ⟨by first | rfl | (simp [errW_none, errW_some] <;> rfl) | (simp only [← hji70]; first | rfl | (simp [errW_none, errW_some] <;> rfl)) | (simp [*, errW_none, errW_some] <;> rfl), bx_bl⟩
         ·rw [if_neg c72] at H
          exact absurd H (by simp)
        ·rw [if_neg c71] at H
         exact absurd H (by simp)
       ·rw [if_neg c68] at H
        have c68b0 : decide (21 ≤ a0) = false := decide_eq_false c68
        clear c68
        replace H := Option.bind_eq_some_iff.mp H
        obtain ⟨⟨t927, t928, t929, t930, t931, t932, t933, t934⟩, A850, H⟩ := H
        replace H : (if t929 = 4 then (some (t929, t930, t931, t932, t933, t934)) else ((whittleref2_AsNumber.f kj5 t882 t883 t884 t885 t886 t887).bind fun bt937 => (if bt937.2.2.1 = 4 then (some (bt937.2.2.1, bt937.2.2.2.1, bt937.2.2.2.2.1, bt937.2.2.2.2.2.1, bt937.2.2.2.2.2.2.1, bt937.2.2.2.2.2.2.2)) else ((whittleref2_reckoned.f kj5 a0 t927 t928 bt937.1 bt937.2.1).bind fun bt947 => (some (bt947.1, bt947.2.1, bt947.2.2.1, bt947.2.2.2.1, bt947.2.2.2.2.1, bt947.2.2.2.2.2)))))) = some (r1, r2, r3, r4, r5, r6) := H
        have A85 := Aside0.mk A850
        clear A850
        by_cases c86 : t929 = 4
        ·rw [if_pos c86] at H
         have c86b0 : (t929 == 4) = true := beq_iff_eq.mpr c86
         have c86b1 : (t929 != 4) = false := bne_eq_false_iff_eq.mpr c86
         clear c86
         simp only [Option.some.injEq, Prod.mk.injEq] at H
         obtain ⟨rfl, rfl, rfl, rfl, rfl, rfl⟩ := H
         go_wp2_with (first | ((with_reducible refine gate_callee (f := 29) rfl ?_); refine goesL_ (some 86) rfl rfl Tryz.func29 kr rfl #[.agg #[.int .i64 t876, .int .i64 t877, .int .i64 t878, .string t879, .bool t880, .int .i64 t881]] rfl ga ?_; (with_reducible refine (whittleref2_AsNumber.calls kj5 t876 t877 t878 t879 t880 t881 t927 t928 t929 t930 t931 t932 t933 t934 _ A85.out).mono ?_); rintro e w92 ⟨rfl, hb⟩; refine ⟨_, rfl, ?_⟩; replace BX := bx_call hb; clear hb) | ((with_reducible refine gate_dst (N := 13) rfl ?_); refine bxe 13 #[.int .i64 0, .int .i64 0] 23 rfl rfl gr ?_; clear BX; intro gb935 w93 GE935 BX) | ((with_reducible refine gate_dst (N := 14) rfl ?_); refine bxe 14 #[.int .i64 0, .int .i64 0, .int .i64 0, .string (⟨#[]⟩ : ByteArray), .bool false, .int .i64 0] 25 rfl rfl gr ?_; clear BX; intro gb936 w94 GE936 BX))
         refine bodyPost_ret (results_cell_row rfl _ _ gb875 25 #[.int .i64 t929, .int .i64 t930, .int .i64 t931, .string t932, .bool t933, .int .i64 t934] (0, 0) _ rfl bx_get Tryz.underlying25 rfl kr) rfl ?_
         exact ⟨er2, bx_bl⟩
        ·rw [if_neg c86] at H
         have c86b0 : (t929 == 4) = false := beq_eq_false_iff_ne.mpr c86
         have c86b1 : (t929 != 4) = true := bne_iff_ne.mpr c86
         replace H := Option.bind_eq_some_iff.mp H
         obtain ⟨⟨t937, t938, t939, t940, t941, t942, t943, t944⟩, A1050, H⟩ := H
         replace H : (if t939 = 4 then (some (t939, t940, t941, t942, t943, t944)) else ((whittleref2_reckoned.f kj5 a0 t927 t928 t937 t938).bind fun bt947 => (some (bt947.1, bt947.2.1, bt947.2.2.1, bt947.2.2.2.1, bt947.2.2.2.2.1, bt947.2.2.2.2.2)))) = some (r1, r2, r3, r4, r5, r6) := H
         have A105 := Aside0.mk A1050
         clear A1050
         by_cases c106 : t939 = 4
         ·rw [if_pos c106] at H
          have c106b0 : (t939 == 4) = true := beq_iff_eq.mpr c106
          have c106b1 : (t939 != 4) = false := bne_eq_false_iff_eq.mpr c106
          clear c106
          simp only [Option.some.injEq, Prod.mk.injEq] at H
          obtain ⟨rfl, rfl, rfl, rfl, rfl, rfl⟩ := H
          go_wp2_with (first | ((with_reducible refine gate_callee (f := 29) rfl ?_); refine goesL_ (some 86) rfl rfl Tryz.func29 kr rfl #[.agg #[.int .i64 t876, .int .i64 t877, .int .i64 t878, .string t879, .bool t880, .int .i64 t881]] rfl ga ?_; (with_reducible refine (whittleref2_AsNumber.calls kj5 t876 t877 t878 t879 t880 t881 t927 t928 t929 t930 t931 t932 t933 t934 _ A85.out).mono ?_); rintro e w112 ⟨rfl, hb⟩; refine ⟨_, rfl, ?_⟩; replace BX := bx_call hb; clear hb) | ((with_reducible refine gate_dst (N := 13) rfl ?_); refine bxe 13 #[.int .i64 0, .int .i64 0] 23 rfl rfl gr ?_; clear BX; intro gb935 w113 GE935 BX) | ((with_reducible refine gate_dst (N := 14) rfl ?_); refine bxe 14 #[.int .i64 0, .int .i64 0, .int .i64 0, .string (⟨#[]⟩ : ByteArray), .bool false, .int .i64 0] 25 rfl rfl gr ?_; clear BX; intro gb936 w114 GE936 BX) | ((with_reducible refine gate_callee (f := 29) rfl ?_); refine goesL_ (some 95) rfl rfl Tryz.func29 kr rfl #[.agg #[.int .i64 t882, .int .i64 t883, .int .i64 t884, .string t885, .bool t886, .int .i64 t887]] rfl ga ?_; (with_reducible refine (whittleref2_AsNumber.calls kj5 t882 t883 t884 t885 t886 t887 t937 t938 t939 t940 t941 t942 t943 t944 _ A105.out).mono ?_); rintro e w125 ⟨rfl, hb⟩; refine ⟨_, rfl, ?_⟩; replace BX := bx_call hb; clear hb) | ((with_reducible refine gate_dst (N := 15) rfl ?_); refine bxe 15 #[.int .i64 0, .int .i64 0] 23 rfl rfl gr ?_; clear BX; intro gb945 w126 GE945 BX) | ((with_reducible refine gate_dst (N := 16) rfl ?_); refine bxe 16 #[.int .i64 0, .int .i64 0, .int .i64 0, .string (⟨#[]⟩ : ByteArray), .bool false, .int .i64 0] 25 rfl rfl gr ?_; clear BX; intro gb946 w127 GE946 BX))
          refine bodyPost_ret (results_cell_row rfl _ _ gb875 25 #[.int .i64 t939, .int .i64 t940, .int .i64 t941, .string t942, .bool t943, .int .i64 t944] (0, 0) _ rfl bx_get Tryz.underlying25 rfl kr) rfl ?_
          exact ⟨er2, bx_bl⟩
         ·rw [if_neg c106] at H
          have c106b0 : (t939 == 4) = false := beq_eq_false_iff_ne.mpr c106
          have c106b1 : (t939 != 4) = true := bne_iff_ne.mpr c106
          replace H := Option.bind_eq_some_iff.mp H
          obtain ⟨⟨t947, t948, t949, t950, t951, t952⟩, A1420, H⟩ := H
          replace H : (some (t947, t948, t949, t950, t951, t952)) = some (r1, r2, r3, r4, r5, r6) := H
          have A142 := Aside0.mk A1420
          clear A1420
          simp only [Option.some.injEq, Prod.mk.injEq] at H
          obtain ⟨rfl, rfl, rfl, rfl, rfl, rfl⟩ := H
          go_wp2_with (first | ((with_reducible refine gate_callee (f := 29) rfl ?_); refine goesL_ (some 86) rfl rfl Tryz.func29 kr rfl #[.agg #[.int .i64 t876, .int .i64 t877, .int .i64 t878, .string t879, .bool t880, .int .i64 t881]] rfl ga ?_; (with_reducible refine (whittleref2_AsNumber.calls kj5 t876 t877 t878 t879 t880 t881 t927 t928 t929 t930 t931 t932 t933 t934 _ A85.out).mono ?_); rintro e w148 ⟨rfl, hb⟩; refine ⟨_, rfl, ?_⟩; replace BX := bx_call hb; clear hb) | ((with_reducible refine gate_dst (N := 13) rfl ?_); refine bxe 13 #[.int .i64 0, .int .i64 0] 23 rfl rfl gr ?_; clear BX; intro gb935 w149 GE935 BX) | ((with_reducible refine gate_dst (N := 14) rfl ?_); refine bxe 14 #[.int .i64 0, .int .i64 0, .int .i64 0, .string (⟨#[]⟩ : ByteArray), .bool false, .int .i64 0] 25 rfl rfl gr ?_; clear BX; intro gb936 w150 GE936 BX) | ((with_reducible refine gate_callee (f := 29) rfl ?_); refine goesL_ (some 95) rfl rfl Tryz.func29 kr rfl #[.agg #[.int .i64 t882, .int .i64 t883, .int .i64 t884, .string t885, .bool t886, .int .i64 t887]] rfl ga ?_; (with_reducible refine (whittleref2_AsNumber.calls kj5 t882 t883 t884 t885 t886 t887 t937 t938 t939 t940 t941 t942 t943 t944 _ A105.out).mono ?_); rintro e w161 ⟨rfl, hb⟩; refine ⟨_, rfl, ?_⟩; replace BX := bx_call hb; clear hb) | ((with_reducible refine gate_dst (N := 15) rfl ?_); refine bxe 15 #[.int .i64 0, .int .i64 0] 23 rfl rfl gr ?_; clear BX; intro gb945 w162 GE945 BX) | ((with_reducible refine gate_dst (N := 16) rfl ?_); refine bxe 16 #[.int .i64 0, .int .i64 0, .int .i64 0, .string (⟨#[]⟩ : ByteArray), .bool false, .int .i64 0] 25 rfl rfl gr ?_; clear BX; intro gb946 w163 GE946 BX) | ((with_reducible refine gate_callee (f := 30) rfl ?_); refine goesL_ (some 105) rfl rfl Tryz.func30 kr rfl #[.int .i64 a0, .agg #[.int .i64 t927, .int .i64 t928], .agg #[.int .i64 t937, .int .i64 t938]] rfl ga ?_; (with_reducible refine (whittleref2_reckoned.calls kj5 a0 t927 t928 t937 t938 t947 t948 t949 t950 t951 t952 _ A142.out).mono ?_); rintro e w178 ⟨rfl, hb⟩; refine ⟨_, rfl, ?_⟩; replace BX := bx_call hb; clear hb))
          refine bodyPost_ret (results_cell_row rfl _ _ gb875 25 #[.int .i64 t947, .int .i64 t948, .int .i64 t949, .string t950, .bool t951, .int .i64 t952] (0, 0) _ rfl bx_get Tryz.underlying25 rfl kr) rfl ?_
          exact ⟨er2, bx_bl⟩
end
end Go.Proofs.YtmakkdlkgfgaoaaGreatDoor.F
