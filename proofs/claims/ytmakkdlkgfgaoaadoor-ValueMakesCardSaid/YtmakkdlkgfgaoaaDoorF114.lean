-- Laid by program (wip/tools/genv.sh, pack.py, merge.py of this repo) out of the translation; Lean checks it.
import Derived.Test.YtmakkdlkgfgaoaaDoorF0
import Derived.Test.YtmakkdlkgfgaoaaDoorC0
import Derived.Test.YtmakkdlkgfgaoaaDoorF100
import Derived.Test.YtmakkdlkgfgaoaaDoorF103
import Derived.Test.YtmakkdlkgfgaoaaDoorF108
import Derived.Test.YtmakkdlkgfgaoaaDoorF112
namespace Go.Proofs.YtmakkdlkgfgaoaaDoor.F
open Go.RowKit Go.Proofs.YtmakkdlkgfgaoaaDoorW.PrintWords Go.Proofs.YtmakkdlkgfgaoaaDoorW.PrintLast Go.Proofs.YtmakkdlkgfgaoaaDoorW.PrintMore
attribute [local go_sem] max2_int min2_int max_two min_two max_three min_three max_four min_four
attribute [local go_sem high] bx_cell bx_frozen
set_option linter.unusedVariables false
set_option linter.unusedSimpArgs false

section
attribute [local go_sem high] eqA25
/-! ### whittlelaw2_ValueMakes: function 3 -/
def whittlelaw2_ValueMakes.f (k : Nat) (a0_0 : Int) (a0_1 : Int) (a0_2 : Int) (a0_3 : ByteArray) (a0_4 : Bool) (a0_5 : Int) (a1_0 : Int) (a1_1 : Int) (a2 : ByteArray) (a3 : Int) : Option (Bool) := (whittlelaw2_able.f k).bind fun t607 => (if t607 = true then ((value_Right.f k a0_0 a0_1 a0_2 a0_3 a0_4 a0_5).bind fun t608 => ((whittleref2_Right.f k a0_0 a0_1 a0_2 a0_3 a0_4 a0_5).bind fun t609 => (if (t608 == t609) = true then ((value_Blank.f).bind fun bt610 => (if (bt610.1 == 0 && ((bt610.2.1 == 0 && (bt610.2.2.1 == 0)) && (bt610.2.2.2.1.toList == ([] : List UInt8) && (!bt610.2.2.2.2.1 && (bt610.2.2.2.2.2 == 0))))) = true then ((value_Number.f k a1_0 a1_1).bind fun bt616 => ((whittleref2_Number.f k a1_0 a1_1).bind fun bt622 => (if (bt616.1 == bt622.1 && ((bt616.2.1 == bt622.2.1 && (bt616.2.2.1 == bt622.2.2.1)) && (bt616.2.2.2.1.toList == bt622.2.2.2.1.toList && (bt616.2.2.2.2.1 == bt622.2.2.2.2.1 && (bt616.2.2.2.2.2 == bt622.2.2.2.2.2))))) = true then ((value_Text.f k a2).bind fun bt628 => ((whittleref2_Text.f k a2).bind fun bt634 => (if (bt628.1 == bt634.1 && ((bt628.2.1 == bt634.2.1 && (bt628.2.2.1 == bt634.2.2.1)) && (bt628.2.2.2.1.toList == bt634.2.2.2.1.toList && (bt628.2.2.2.2.1 == bt634.2.2.2.2.1 && (bt628.2.2.2.2.2 == bt634.2.2.2.2.2))))) = true then ((value_Truth.f true).bind fun bt640 => ((whittleref2_Truth.f true).bind fun bt646 => (if (bt640.1 == bt646.1 && ((bt640.2.1 == bt646.2.1 && (bt640.2.2.1 == bt646.2.2.1)) && (bt640.2.2.2.1.toList == bt646.2.2.2.1.toList && (bt640.2.2.2.2.1 == bt646.2.2.2.2.1 && (bt640.2.2.2.2.2 == bt646.2.2.2.2.2))))) = true then ((value_Truth.f false).bind fun bt652 => ((whittleref2_Truth.f false).bind fun bt658 => (if (bt652.1 == bt658.1 && ((bt652.2.1 == bt658.2.1 && (bt652.2.2.1 == bt658.2.2.1)) && (bt652.2.2.2.1.toList == bt658.2.2.2.1.toList && (bt652.2.2.2.2.1 == bt658.2.2.2.2.1 && (bt652.2.2.2.2.2 == bt658.2.2.2.2.2))))) = true then ((value_Fault.f a3).bind fun bt664 => ((whittleref2_Fault.f a3).bind fun bt670 => (some (bt664.1 == bt670.1 && ((bt664.2.1 == bt670.2.1 && (bt664.2.2.1 == bt670.2.2.1)) && (bt664.2.2.2.1.toList == bt670.2.2.2.1.toList && (bt664.2.2.2.2.1 == bt670.2.2.2.2.1 && (bt664.2.2.2.2.2 == bt670.2.2.2.2.2)))))))) else (some false)))) else (some false)))) else (some false)))) else (some false)))) else (some false))) else (some false)))) else (some false))
theorem whittlelaw2_ValueMakes.mono : ∀ a0 a1 a2 a3 a4 a5 a6 a7 a8 a9 k, LeO (whittlelaw2_ValueMakes.f k a0 a1 a2 a3 a4 a5 a6 a7 a8 a9) (whittlelaw2_ValueMakes.f (k + 1) a0 a1 a2 a3 a4 a5 a6 a7 a8 a9) := by
 intro a0 a1 a2 a3 a4 a5 a6 a7 a8 a9 k
 unfold whittlelaw2_ValueMakes.f
 repeat' first
   | (with_reducible exact value_Number.mono _ _ _)
   | (with_reducible exact value_Right.mono _ _ _ _ _ _ _)
   | (with_reducible exact value_Text.mono _ _)
   | (with_reducible exact whittlelaw2_able.mono _)
   | (with_reducible exact whittleref2_Number.mono _ _ _)
   | (with_reducible exact whittleref2_Right.mono _ _ _ _ _ _ _)
   | (with_reducible exact whittleref2_Text.mono _ _)
   | (with_reducible exact LeO.refl _)
   | (with_reducible exact LeO.none _)
   | (with_reducible refine LeO.ite ?_ ?_)
   | (with_reducible refine LeO.bind ?_ (fun _ => ?_))
   | exact value_Number.mono _ _ _
   | exact value_Right.mono _ _ _ _ _ _ _
   | exact value_Text.mono _ _
   | exact whittlelaw2_able.mono _
   | exact whittleref2_Number.mono _ _ _
   | exact whittleref2_Right.mono _ _ _ _ _ _ _
   | exact whittleref2_Text.mono _ _
   | exact LeO.none _
   | refine LeO.ite ?_ ?_
   | refine LeO.bind ?_ (fun _ => ?_)
def whittlelaw2_ValueMakes.T1 : Bool × List (List Nat × List Nat) := (true, [([], []), ([0, 0], [0]), ([1], [1]), ([2, 1, 1], [1, 2]), ([1], [1]), ([4, 3, 1], [1, 4]), ([3, 5, 1], [1, 3, 5]), ([1, 6], [1, 6]), ([7, 5], [7]), ([8, 8], [8]), ([8], [8]), ([9, 10, 8], [8, 9, 10]), ([8, 11], [8, 11]), ([12, 9], [12]), ([13], [13]), ([14, 13, 13], [13, 14]), ([13], [13]), ([16, 15, 13], [13, 16]), ([15, 17, 13], [13, 15, 17]), ([13, 18], [13, 18]), ([19, 17], [19]), ([20], [20]), ([21, 20, 20], [20, 21]), ([20], [20]), ([23, 22, 20], [20, 23]), ([22, 24, 20], [20, 22, 24]), ([20, 25], [20, 25]), ([26, 24], [26]), ([27, 27], [27]), ([28, 27], [27]), ([28, 29, 27], [27, 28, 29]), ([27, 30], [27, 30]), ([31, 29], [31]), ([32, 32], [32]), ([33, 32], [32]), ([33, 34, 32], [32, 33, 34]), ([32, 35], [32, 35]), ([36, 34], [36]), ([37], [37]), ([38, 37, 37], [37, 38]), ([37], [37]), ([40, 39, 37], [37, 40]), ([39, 41, 37], [37, 39, 41]), ([37, 42], [37, 42]), ([43, 41, 0, 1, 2, 3, 4, 5, 6, 7, 8, 9, 10, 11, 12, 13, 14, 15, 16, 17, 18, 19, 20, 21, 22, 23, 24, 25, 26, 27, 28, 29, 30, 31, 32, 33, 34, 35, 36, 37, 38, 39, 40, 41, 42, 43], [43])])
def whittlelaw2_ValueMakes.B1 : List Nat := [0, 1, 3, 7, 3, 31, 63, 127, 255, 511, 511, 2047, 4095, 8191, 16383, 32767, 16383, 131071, 262143, 524287, 1048575, 2097151, 4194303, 2097151, 16777215, 33554431, 67108863, 134217727, 268435455, 536870911, 1073741823, 2147483647, 4294967295, 8589934591, 17179869183, 34359738367, 68719476735, 137438953471, 274877906943, 549755813887, 274877906943, 2199023255551, 4398046511103, 8796093022207, 17592186044415]
theorem whittlelaw2_ValueMakes.tab1 : rtab .any (opsOf Tryd.f3 1) = whittlelaw2_ValueMakes.T1 := by kernel_rfl
theorem whittlelaw2_ValueMakes.bits1 : waitsOk whittlelaw2_ValueMakes.T1.2 whittlelaw2_ValueMakes.B1 = true := by kernel_rfl
set_option maxHeartbeats 8000000 in
set_option maxRecDepth 100000 in
theorem whittlelaw2_ValueMakes.calls (k : Nat) (a0_0 : Int) (a0_1 : Int) (a0_2 : Int) (a0_3 : ByteArray) (a0_4 : Bool) (a0_5 : Int) (a1_0 : Int) (a1_1 : Int) (a2 : ByteArray) (a3 : Int) (r : Bool) (w : World) (HT0 : TabAt w) (hr0 : r = true) (h : whittlelaw2_ValueMakes.f k a0_0 a0_1 a0_2 a0_3 a0_4 a0_5 a1_0 a1_1 a2 a3 = some r) :
  Calls Tryd.prog 3 #[.agg #[.int .i64 a0_0, .int .i64 a0_1, .int .i64 a0_2, .string a0_3, .bool a0_4, .int .i64 a0_5], .agg #[.int .i64 a1_0, .int .i64 a1_1], .string a2, .int .i64 a3] w fun e w' => e = .returned (.bool r) ∧ Below w.heap.size w w' := by
 have hu25 := Tryd.underlying25
 have hu23 := Tryd.underlying23
 have HT := Aside0.mk HT0
 clear HT0
 have HR := Aside0.mk hr0
 clear hr0
 have BX := Bx.start w
 have H : ((whittlelaw2_able.f k).bind fun t607 => (if t607 = true then ((value_Right.f k a0_0 a0_1 a0_2 a0_3 a0_4 a0_5).bind fun t608 => ((whittleref2_Right.f k a0_0 a0_1 a0_2 a0_3 a0_4 a0_5).bind fun t609 => (if (t608 == t609) = true then ((value_Blank.f).bind fun bt610 => (if (bt610.1 == 0 && ((bt610.2.1 == 0 && (bt610.2.2.1 == 0)) && (bt610.2.2.2.1.toList == ([] : List UInt8) && (!bt610.2.2.2.2.1 && (bt610.2.2.2.2.2 == 0))))) = true then ((value_Number.f k a1_0 a1_1).bind fun bt616 => ((whittleref2_Number.f k a1_0 a1_1).bind fun bt622 => (if (bt616.1 == bt622.1 && ((bt616.2.1 == bt622.2.1 && (bt616.2.2.1 == bt622.2.2.1)) && (bt616.2.2.2.1.toList == bt622.2.2.2.1.toList && (bt616.2.2.2.2.1 == bt622.2.2.2.2.1 && (bt616.2.2.2.2.2 == bt622.2.2.2.2.2))))) = true then ((value_Text.f k a2).bind fun bt628 => ((whittleref2_Text.f k a2).bind fun bt634 => (if (bt628.1 == bt634.1 && ((bt628.2.1 == bt634.2.1 && (bt628.2.2.1 == bt634.2.2.1)) && (bt628.2.2.2.1.toList == bt634.2.2.2.1.toList && (bt628.2.2.2.2.1 == bt634.2.2.2.2.1 && (bt628.2.2.2.2.2 == bt634.2.2.2.2.2))))) = true then ((value_Truth.f true).bind fun bt640 => ((whittleref2_Truth.f true).bind fun bt646 => (if (bt640.1 == bt646.1 && ((bt640.2.1 == bt646.2.1 && (bt640.2.2.1 == bt646.2.2.1)) && (bt640.2.2.2.1.toList == bt646.2.2.2.1.toList && (bt640.2.2.2.2.1 == bt646.2.2.2.2.1 && (bt640.2.2.2.2.2 == bt646.2.2.2.2.2))))) = true then ((value_Truth.f false).bind fun bt652 => ((whittleref2_Truth.f false).bind fun bt658 => (if (bt652.1 == bt658.1 && ((bt652.2.1 == bt658.2.1 && (bt652.2.2.1 == bt658.2.2.1)) && (bt652.2.2.2.1.toList == bt658.2.2.2.1.toList && (bt652.2.2.2.2.1 == bt658.2.2.2.2.1 && (bt652.2.2.2.2.2 == bt658.2.2.2.2.2))))) = true then ((value_Fault.f a3).bind fun bt664 => ((whittleref2_Fault.f a3).bind fun bt670 => (some (bt664.1 == bt670.1 && ((bt664.2.1 == bt670.2.1 && (bt664.2.2.1 == bt670.2.2.1)) && (bt664.2.2.2.1.toList == bt670.2.2.2.1.toList && (bt664.2.2.2.2.1 == bt670.2.2.2.2.1 && (bt664.2.2.2.2.2 == bt670.2.2.2.2.2)))))))) else (some false)))) else (some false)))) else (some false)))) else (some false)))) else (some false))) else (some false)))) else (some false))) = some r := h
 clear h
 replace H := Option.bind_eq_some_iff.mp H
 obtain ⟨t607, A50, H⟩ := H
 replace H : (if t607 = true then ((value_Right.f k a0_0 a0_1 a0_2 a0_3 a0_4 a0_5).bind fun t608 => ((whittleref2_Right.f k a0_0 a0_1 a0_2 a0_3 a0_4 a0_5).bind fun t609 => (if (t608 == t609) = true then ((value_Blank.f).bind fun bt610 => (if (bt610.1 == 0 && ((bt610.2.1 == 0 && (bt610.2.2.1 == 0)) && (bt610.2.2.2.1.toList == ([] : List UInt8) && (!bt610.2.2.2.2.1 && (bt610.2.2.2.2.2 == 0))))) = true then ((value_Number.f k a1_0 a1_1).bind fun bt616 => ((whittleref2_Number.f k a1_0 a1_1).bind fun bt622 => (if (bt616.1 == bt622.1 && ((bt616.2.1 == bt622.2.1 && (bt616.2.2.1 == bt622.2.2.1)) && (bt616.2.2.2.1.toList == bt622.2.2.2.1.toList && (bt616.2.2.2.2.1 == bt622.2.2.2.2.1 && (bt616.2.2.2.2.2 == bt622.2.2.2.2.2))))) = true then ((value_Text.f k a2).bind fun bt628 => ((whittleref2_Text.f k a2).bind fun bt634 => (if (bt628.1 == bt634.1 && ((bt628.2.1 == bt634.2.1 && (bt628.2.2.1 == bt634.2.2.1)) && (bt628.2.2.2.1.toList == bt634.2.2.2.1.toList && (bt628.2.2.2.2.1 == bt634.2.2.2.2.1 && (bt628.2.2.2.2.2 == bt634.2.2.2.2.2))))) = true then ((value_Truth.f true).bind fun bt640 => ((whittleref2_Truth.f true).bind fun bt646 => (if (bt640.1 == bt646.1 && ((bt640.2.1 == bt646.2.1 && (bt640.2.2.1 == bt646.2.2.1)) && (bt640.2.2.2.1.toList == bt646.2.2.2.1.toList && (bt640.2.2.2.2.1 == bt646.2.2.2.2.1 && (bt640.2.2.2.2.2 == bt646.2.2.2.2.2))))) = true then ((value_Truth.f false).bind fun bt652 => ((whittleref2_Truth.f false).bind fun bt658 => (if (bt652.1 == bt658.1 && ((bt652.2.1 == bt658.2.1 && (bt652.2.2.1 == bt658.2.2.1)) && (bt652.2.2.2.1.toList == bt658.2.2.2.1.toList && (bt652.2.2.2.2.1 == bt658.2.2.2.2.1 && (bt652.2.2.2.2.2 == bt658.2.2.2.2.2))))) = true then ((value_Fault.f a3).bind fun bt664 => ((whittleref2_Fault.f a3).bind fun bt670 => (some (bt664.1 == bt670.1 && ((bt664.2.1 == bt670.2.1 && (bt664.2.2.1 == bt670.2.2.1)) && (bt664.2.2.2.1.toList == bt670.2.2.2.1.toList && (bt664.2.2.2.2.1 == bt670.2.2.2.2.1 && (bt664.2.2.2.2.2 == bt670.2.2.2.2.2)))))))) else (some false)))) else (some false)))) else (some false)))) else (some false)))) else (some false))) else (some false)))) else (some false)) = some r := H
 have A5 := Aside0.mk A50
 clear A50
 by_cases c6 : t607 = true
 ·subst c6
  have H1 : ((value_Right.f k a0_0 a0_1 a0_2 a0_3 a0_4 a0_5).bind fun t608 => ((whittleref2_Right.f k a0_0 a0_1 a0_2 a0_3 a0_4 a0_5).bind fun t609 => (if (t608 == t609) = true then ((value_Blank.f).bind fun bt610 => (if (bt610.1 == 0 && ((bt610.2.1 == 0 && (bt610.2.2.1 == 0)) && (bt610.2.2.2.1.toList == ([] : List UInt8) && (!bt610.2.2.2.2.1 && (bt610.2.2.2.2.2 == 0))))) = true then ((value_Number.f k a1_0 a1_1).bind fun bt616 => ((whittleref2_Number.f k a1_0 a1_1).bind fun bt622 => (if (bt616.1 == bt622.1 && ((bt616.2.1 == bt622.2.1 && (bt616.2.2.1 == bt622.2.2.1)) && (bt616.2.2.2.1.toList == bt622.2.2.2.1.toList && (bt616.2.2.2.2.1 == bt622.2.2.2.2.1 && (bt616.2.2.2.2.2 == bt622.2.2.2.2.2))))) = true then ((value_Text.f k a2).bind fun bt628 => ((whittleref2_Text.f k a2).bind fun bt634 => (if (bt628.1 == bt634.1 && ((bt628.2.1 == bt634.2.1 && (bt628.2.2.1 == bt634.2.2.1)) && (bt628.2.2.2.1.toList == bt634.2.2.2.1.toList && (bt628.2.2.2.2.1 == bt634.2.2.2.2.1 && (bt628.2.2.2.2.2 == bt634.2.2.2.2.2))))) = true then ((value_Truth.f true).bind fun bt640 => ((whittleref2_Truth.f true).bind fun bt646 => (if (bt640.1 == bt646.1 && ((bt640.2.1 == bt646.2.1 && (bt640.2.2.1 == bt646.2.2.1)) && (bt640.2.2.2.1.toList == bt646.2.2.2.1.toList && (bt640.2.2.2.2.1 == bt646.2.2.2.2.1 && (bt640.2.2.2.2.2 == bt646.2.2.2.2.2))))) = true then ((value_Truth.f false).bind fun bt652 => ((whittleref2_Truth.f false).bind fun bt658 => (if (bt652.1 == bt658.1 && ((bt652.2.1 == bt658.2.1 && (bt652.2.2.1 == bt658.2.2.1)) && (bt652.2.2.2.1.toList == bt658.2.2.2.1.toList && (bt652.2.2.2.2.1 == bt658.2.2.2.2.1 && (bt652.2.2.2.2.2 == bt658.2.2.2.2.2))))) = true then ((value_Fault.f a3).bind fun bt664 => ((whittleref2_Fault.f a3).bind fun bt670 => (some (bt664.1 == bt670.1 && ((bt664.2.1 == bt670.2.1 && (bt664.2.2.1 == bt670.2.2.1)) && (bt664.2.2.2.1.toList == bt670.2.2.2.1.toList && (bt664.2.2.2.2.1 == bt670.2.2.2.2.1 && (bt664.2.2.2.2.2 == bt670.2.2.2.2.2)))))))) else (some false)))) else (some false)))) else (some false)))) else (some false)))) else (some false))) else (some false)))) = some r := by rw [if_pos rfl] at H; exact H
  clear H
  have H := H1
  clear H1
  replace H := Option.bind_eq_some_iff.mp H
  obtain ⟨t608, A70, H⟩ := H
  have A7 := Aside0.mk A70
  clear A70
  replace H := Option.bind_eq_some_iff.mp H
  obtain ⟨t609, A80, H⟩ := H
  replace H : (if (t608 == t609) = true then ((value_Blank.f).bind fun bt610 => (if (bt610.1 == 0 && ((bt610.2.1 == 0 && (bt610.2.2.1 == 0)) && (bt610.2.2.2.1.toList == ([] : List UInt8) && (!bt610.2.2.2.2.1 && (bt610.2.2.2.2.2 == 0))))) = true then ((value_Number.f k a1_0 a1_1).bind fun bt616 => ((whittleref2_Number.f k a1_0 a1_1).bind fun bt622 => (if (bt616.1 == bt622.1 && ((bt616.2.1 == bt622.2.1 && (bt616.2.2.1 == bt622.2.2.1)) && (bt616.2.2.2.1.toList == bt622.2.2.2.1.toList && (bt616.2.2.2.2.1 == bt622.2.2.2.2.1 && (bt616.2.2.2.2.2 == bt622.2.2.2.2.2))))) = true then ((value_Text.f k a2).bind fun bt628 => ((whittleref2_Text.f k a2).bind fun bt634 => (if (bt628.1 == bt634.1 && ((bt628.2.1 == bt634.2.1 && (bt628.2.2.1 == bt634.2.2.1)) && (bt628.2.2.2.1.toList == bt634.2.2.2.1.toList && (bt628.2.2.2.2.1 == bt634.2.2.2.2.1 && (bt628.2.2.2.2.2 == bt634.2.2.2.2.2))))) = true then ((value_Truth.f true).bind fun bt640 => ((whittleref2_Truth.f true).bind fun bt646 => (if (bt640.1 == bt646.1 && ((bt640.2.1 == bt646.2.1 && (bt640.2.2.1 == bt646.2.2.1)) && (bt640.2.2.2.1.toList == bt646.2.2.2.1.toList && (bt640.2.2.2.2.1 == bt646.2.2.2.2.1 && (bt640.2.2.2.2.2 == bt646.2.2.2.2.2))))) = true then ((value_Truth.f false).bind fun bt652 => ((whittleref2_Truth.f false).bind fun bt658 => (if (bt652.1 == bt658.1 && ((bt652.2.1 == bt658.2.1 && (bt652.2.2.1 == bt658.2.2.1)) && (bt652.2.2.2.1.toList == bt658.2.2.2.1.toList && (bt652.2.2.2.2.1 == bt658.2.2.2.2.1 && (bt652.2.2.2.2.2 == bt658.2.2.2.2.2))))) = true then ((value_Fault.f a3).bind fun bt664 => ((whittleref2_Fault.f a3).bind fun bt670 => (some (bt664.1 == bt670.1 && ((bt664.2.1 == bt670.2.1 && (bt664.2.2.1 == bt670.2.2.1)) && (bt664.2.2.2.1.toList == bt670.2.2.2.1.toList && (bt664.2.2.2.2.1 == bt670.2.2.2.2.1 && (bt664.2.2.2.2.2 == bt670.2.2.2.2.2)))))))) else (some false)))) else (some false)))) else (some false)))) else (some false)))) else (some false))) else (some false)) = some r := H
  have A8 := Aside0.mk A80
  clear A80
  by_cases c9 : (t608 == t609) = true
  ·rw [if_pos c9] at H
   have c9b0 : (t608 == t609) = true := c9
   (try (have c9b1 : decide (t608 = t609) = true := by simpa using c9))
   (try (have c9b2 : (t608 == t609) = true := by simpa using c9))
   clear c9
   replace H := Option.bind_eq_some_iff.mp H
   obtain ⟨⟨t610, t611, t612, t613, t614, t615⟩, A100, H⟩ := H
   replace H : (if (t610 == 0 && ((t611 == 0 && (t612 == 0)) && (t613.toList == ([] : List UInt8) && (!t614 && (t615 == 0))))) = true then ((value_Number.f k a1_0 a1_1).bind fun bt616 => ((whittleref2_Number.f k a1_0 a1_1).bind fun bt622 => (if (bt616.1 == bt622.1 && ((bt616.2.1 == bt622.2.1 && (bt616.2.2.1 == bt622.2.2.1)) && (bt616.2.2.2.1.toList == bt622.2.2.2.1.toList && (bt616.2.2.2.2.1 == bt622.2.2.2.2.1 && (bt616.2.2.2.2.2 == bt622.2.2.2.2.2))))) = true then ((value_Text.f k a2).bind fun bt628 => ((whittleref2_Text.f k a2).bind fun bt634 => (if (bt628.1 == bt634.1 && ((bt628.2.1 == bt634.2.1 && (bt628.2.2.1 == bt634.2.2.1)) && (bt628.2.2.2.1.toList == bt634.2.2.2.1.toList && (bt628.2.2.2.2.1 == bt634.2.2.2.2.1 && (bt628.2.2.2.2.2 == bt634.2.2.2.2.2))))) = true then ((value_Truth.f true).bind fun bt640 => ((whittleref2_Truth.f true).bind fun bt646 => (if (bt640.1 == bt646.1 && ((bt640.2.1 == bt646.2.1 && (bt640.2.2.1 == bt646.2.2.1)) && (bt640.2.2.2.1.toList == bt646.2.2.2.1.toList && (bt640.2.2.2.2.1 == bt646.2.2.2.2.1 && (bt640.2.2.2.2.2 == bt646.2.2.2.2.2))))) = true then ((value_Truth.f false).bind fun bt652 => ((whittleref2_Truth.f false).bind fun bt658 => (if (bt652.1 == bt658.1 && ((bt652.2.1 == bt658.2.1 && (bt652.2.2.1 == bt658.2.2.1)) && (bt652.2.2.2.1.toList == bt658.2.2.2.1.toList && (bt652.2.2.2.2.1 == bt658.2.2.2.2.1 && (bt652.2.2.2.2.2 == bt658.2.2.2.2.2))))) = true then ((value_Fault.f a3).bind fun bt664 => ((whittleref2_Fault.f a3).bind fun bt670 => (some (bt664.1 == bt670.1 && ((bt664.2.1 == bt670.2.1 && (bt664.2.2.1 == bt670.2.2.1)) && (bt664.2.2.2.1.toList == bt670.2.2.2.1.toList && (bt664.2.2.2.2.1 == bt670.2.2.2.2.1 && (bt664.2.2.2.2.2 == bt670.2.2.2.2.2)))))))) else (some false)))) else (some false)))) else (some false)))) else (some false)))) else (some false)) = some r := H
   have A10 := Aside0.mk A100
   clear A100
   by_cases c11 : (t610 == 0 && ((t611 == 0 && (t612 == 0)) && (t613.toList == ([] : List UInt8) && (!t614 && (t615 == 0))))) = true
   ·rw [if_pos c11] at H
    have c11b0 : (t610 == 0 && ((t611 == 0 && (t612 == 0)) && (t613.toList == ([] : List UInt8) && (!t614 && (t615 == 0))))) = true := c11
    have c11be : (t610 == 0 && ((t611 == 0 && (t612 == 0)) && (t613.toList.isEmpty && (!t614 && (t615 == 0))))) = true := by have h_ := c11b0; simp only [beq_nil] at h_; exact h_
    (try (have c11b1 : decide (t610 = 0 && ((t611 == 0 && (t612 == 0)) && (t613.toList == ([] : List UInt8) && (!t614 && (t615 == 0))))) = true := by simpa using c11))
    (try (have c11b2 : (t610 == 0 && ((t611 == 0 && (t612 == 0)) && (t613.toList == ([] : List UInt8) && (!t614 && (t615 == 0))))) = true := by simpa using c11))
    clear c11
    replace H := Option.bind_eq_some_iff.mp H
    obtain ⟨⟨t616, t617, t618, t619, t620, t621⟩, A120, H⟩ := H
    have A12 := Aside0.mk A120
    clear A120
    replace H := Option.bind_eq_some_iff.mp H
    obtain ⟨⟨t622, t623, t624, t625, t626, t627⟩, A130, H⟩ := H
    replace H : (if (t616 == t622 && ((t617 == t623 && (t618 == t624)) && (t619.toList == t625.toList && (t620 == t626 && (t621 == t627))))) = true then ((value_Text.f k a2).bind fun bt628 => ((whittleref2_Text.f k a2).bind fun bt634 => (if (bt628.1 == bt634.1 && ((bt628.2.1 == bt634.2.1 && (bt628.2.2.1 == bt634.2.2.1)) && (bt628.2.2.2.1.toList == bt634.2.2.2.1.toList && (bt628.2.2.2.2.1 == bt634.2.2.2.2.1 && (bt628.2.2.2.2.2 == bt634.2.2.2.2.2))))) = true then ((value_Truth.f true).bind fun bt640 => ((whittleref2_Truth.f true).bind fun bt646 => (if (bt640.1 == bt646.1 && ((bt640.2.1 == bt646.2.1 && (bt640.2.2.1 == bt646.2.2.1)) && (bt640.2.2.2.1.toList == bt646.2.2.2.1.toList && (bt640.2.2.2.2.1 == bt646.2.2.2.2.1 && (bt640.2.2.2.2.2 == bt646.2.2.2.2.2))))) = true then ((value_Truth.f false).bind fun bt652 => ((whittleref2_Truth.f false).bind fun bt658 => (if (bt652.1 == bt658.1 && ((bt652.2.1 == bt658.2.1 && (bt652.2.2.1 == bt658.2.2.1)) && (bt652.2.2.2.1.toList == bt658.2.2.2.1.toList && (bt652.2.2.2.2.1 == bt658.2.2.2.2.1 && (bt652.2.2.2.2.2 == bt658.2.2.2.2.2))))) = true then ((value_Fault.f a3).bind fun bt664 => ((whittleref2_Fault.f a3).bind fun bt670 => (some (bt664.1 == bt670.1 && ((bt664.2.1 == bt670.2.1 && (bt664.2.2.1 == bt670.2.2.1)) && (bt664.2.2.2.1.toList == bt670.2.2.2.1.toList && (bt664.2.2.2.2.1 == bt670.2.2.2.2.1 && (bt664.2.2.2.2.2 == bt670.2.2.2.2.2)))))))) else (some false)))) else (some false)))) else (some false)))) else (some false)) = some r := H
    have A13 := Aside0.mk A130
    clear A130
    by_cases c14 : (t616 == t622 && ((t617 == t623 && (t618 == t624)) && (t619.toList == t625.toList && (t620 == t626 && (t621 == t627))))) = true
    ·rw [if_pos c14] at H
     have c14b0 : (t616 == t622 && ((t617 == t623 && (t618 == t624)) && (t619.toList == t625.toList && (t620 == t626 && (t621 == t627))))) = true := c14
     (try (have c14b1 : decide (t616 = t622 && ((t617 == t623 && (t618 == t624)) && (t619.toList == t625.toList && (t620 == t626 && (t621 == t627))))) = true := by simpa using c14))
     (try (have c14b2 : (t616 == t622 && ((t617 == t623 && (t618 == t624)) && (t619.toList == t625.toList && (t620 == t626 && (t621 == t627))))) = true := by simpa using c14))
     clear c14
     replace H := Option.bind_eq_some_iff.mp H
     obtain ⟨⟨t628, t629, t630, t631, t632, t633⟩, A150, H⟩ := H
     have A15 := Aside0.mk A150
     clear A150
     replace H := Option.bind_eq_some_iff.mp H
     obtain ⟨⟨t634, t635, t636, t637, t638, t639⟩, A160, H⟩ := H
     replace H : (if (t628 == t634 && ((t629 == t635 && (t630 == t636)) && (t631.toList == t637.toList && (t632 == t638 && (t633 == t639))))) = true then ((value_Truth.f true).bind fun bt640 => ((whittleref2_Truth.f true).bind fun bt646 => (if (bt640.1 == bt646.1 && ((bt640.2.1 == bt646.2.1 && (bt640.2.2.1 == bt646.2.2.1)) && (bt640.2.2.2.1.toList == bt646.2.2.2.1.toList && (bt640.2.2.2.2.1 == bt646.2.2.2.2.1 && (bt640.2.2.2.2.2 == bt646.2.2.2.2.2))))) = true then ((value_Truth.f false).bind fun bt652 => ((whittleref2_Truth.f false).bind fun bt658 => (if (bt652.1 == bt658.1 && ((bt652.2.1 == bt658.2.1 && (bt652.2.2.1 == bt658.2.2.1)) && (bt652.2.2.2.1.toList == bt658.2.2.2.1.toList && (bt652.2.2.2.2.1 == bt658.2.2.2.2.1 && (bt652.2.2.2.2.2 == bt658.2.2.2.2.2))))) = true then ((value_Fault.f a3).bind fun bt664 => ((whittleref2_Fault.f a3).bind fun bt670 => (some (bt664.1 == bt670.1 && ((bt664.2.1 == bt670.2.1 && (bt664.2.2.1 == bt670.2.2.1)) && (bt664.2.2.2.1.toList == bt670.2.2.2.1.toList && (bt664.2.2.2.2.1 == bt670.2.2.2.2.1 && (bt664.2.2.2.2.2 == bt670.2.2.2.2.2)))))))) else (some false)))) else (some false)))) else (some false)) = some r := H
     have A16 := Aside0.mk A160
     clear A160
     by_cases c17 : (t628 == t634 && ((t629 == t635 && (t630 == t636)) && (t631.toList == t637.toList && (t632 == t638 && (t633 == t639))))) = true
     ·rw [if_pos c17] at H
      have c17b0 : (t628 == t634 && ((t629 == t635 && (t630 == t636)) && (t631.toList == t637.toList && (t632 == t638 && (t633 == t639))))) = true := c17
      (try (have c17b1 : decide (t628 = t634 && ((t629 == t635 && (t630 == t636)) && (t631.toList == t637.toList && (t632 == t638 && (t633 == t639))))) = true := by simpa using c17))
      (try (have c17b2 : (t628 == t634 && ((t629 == t635 && (t630 == t636)) && (t631.toList == t637.toList && (t632 == t638 && (t633 == t639))))) = true := by simpa using c17))
      clear c17
      replace H := Option.bind_eq_some_iff.mp H
      obtain ⟨⟨t640, t641, t642, t643, t644, t645⟩, A180, H⟩ := H
      have A18 := Aside0.mk A180
      clear A180
      replace H := Option.bind_eq_some_iff.mp H
      obtain ⟨⟨t646, t647, t648, t649, t650, t651⟩, A190, H⟩ := H
      replace H : (if (t640 == t646 && ((t641 == t647 && (t642 == t648)) && (t643.toList == t649.toList && (t644 == t650 && (t645 == t651))))) = true then ((value_Truth.f false).bind fun bt652 => ((whittleref2_Truth.f false).bind fun bt658 => (if (bt652.1 == bt658.1 && ((bt652.2.1 == bt658.2.1 && (bt652.2.2.1 == bt658.2.2.1)) && (bt652.2.2.2.1.toList == bt658.2.2.2.1.toList && (bt652.2.2.2.2.1 == bt658.2.2.2.2.1 && (bt652.2.2.2.2.2 == bt658.2.2.2.2.2))))) = true then ((value_Fault.f a3).bind fun bt664 => ((whittleref2_Fault.f a3).bind fun bt670 => (some (bt664.1 == bt670.1 && ((bt664.2.1 == bt670.2.1 && (bt664.2.2.1 == bt670.2.2.1)) && (bt664.2.2.2.1.toList == bt670.2.2.2.1.toList && (bt664.2.2.2.2.1 == bt670.2.2.2.2.1 && (bt664.2.2.2.2.2 == bt670.2.2.2.2.2)))))))) else (some false)))) else (some false)) = some r := H
      have A19 := Aside0.mk A190
      clear A190
      by_cases c20 : (t640 == t646 && ((t641 == t647 && (t642 == t648)) && (t643.toList == t649.toList && (t644 == t650 && (t645 == t651))))) = true
      ·rw [if_pos c20] at H
       have c20b0 : (t640 == t646 && ((t641 == t647 && (t642 == t648)) && (t643.toList == t649.toList && (t644 == t650 && (t645 == t651))))) = true := c20
       (try (have c20b1 : decide (t640 = t646 && ((t641 == t647 && (t642 == t648)) && (t643.toList == t649.toList && (t644 == t650 && (t645 == t651))))) = true := by simpa using c20))
       (try (have c20b2 : (t640 == t646 && ((t641 == t647 && (t642 == t648)) && (t643.toList == t649.toList && (t644 == t650 && (t645 == t651))))) = true := by simpa using c20))
       clear c20
       replace H := Option.bind_eq_some_iff.mp H
       obtain ⟨⟨t652, t653, t654, t655, t656, t657⟩, A210, H⟩ := H
       have A21 := Aside0.mk A210
       clear A210
       replace H := Option.bind_eq_some_iff.mp H
       obtain ⟨⟨t658, t659, t660, t661, t662, t663⟩, A220, H⟩ := H
       replace H : (if (t652 == t658 && ((t653 == t659 && (t654 == t660)) && (t655.toList == t661.toList && (t656 == t662 && (t657 == t663))))) = true then ((value_Fault.f a3).bind fun bt664 => ((whittleref2_Fault.f a3).bind fun bt670 => (some (bt664.1 == bt670.1 && ((bt664.2.1 == bt670.2.1 && (bt664.2.2.1 == bt670.2.2.1)) && (bt664.2.2.2.1.toList == bt670.2.2.2.1.toList && (bt664.2.2.2.2.1 == bt670.2.2.2.2.1 && (bt664.2.2.2.2.2 == bt670.2.2.2.2.2)))))))) else (some false)) = some r := H
       have A22 := Aside0.mk A220
       clear A220
       by_cases c23 : (t652 == t658 && ((t653 == t659 && (t654 == t660)) && (t655.toList == t661.toList && (t656 == t662 && (t657 == t663))))) = true
       ·rw [if_pos c23] at H
        have c23b0 : (t652 == t658 && ((t653 == t659 && (t654 == t660)) && (t655.toList == t661.toList && (t656 == t662 && (t657 == t663))))) = true := c23
        (try (have c23b1 : decide (t652 = t658 && ((t653 == t659 && (t654 == t660)) && (t655.toList == t661.toList && (t656 == t662 && (t657 == t663))))) = true := by simpa using c23))
        (try (have c23b2 : (t652 == t658 && ((t653 == t659 && (t654 == t660)) && (t655.toList == t661.toList && (t656 == t662 && (t657 == t663))))) = true := by simpa using c23))
        clear c23
        replace H := Option.bind_eq_some_iff.mp H
        obtain ⟨⟨t664, t665, t666, t667, t668, t669⟩, A240, H⟩ := H
        have A24 := Aside0.mk A240
        clear A240
        replace H := Option.bind_eq_some_iff.mp H
        obtain ⟨⟨t670, t671, t672, t673, t674, t675⟩, A250, H⟩ := H
        replace H : (some (t664 == t670 && ((t665 == t671 && (t666 == t672)) && (t667.toList == t673.toList && (t668 == t674 && (t669 == t675)))))) = some r := H
        have A25 := Aside0.mk A250
        clear A250
        clear HR
        obtain rfl := Option.some.inj H
        go_enter Tryd.func3, Tryd.ntmps3
        try go_wp2_with (first | ((with_reducible refine gate_dst (N := 4) rfl ?_); refine bxe 4 #[.int .i64 a0_0, .int .i64 a0_1, .int .i64 a0_2, .string a0_3, .bool a0_4, .int .i64 a0_5] 25 rfl rfl gr ?_; clear BX; intro gb605 w26 GE605 BX) | ((with_reducible refine gate_dst (N := 5) rfl ?_); refine bxe 5 #[.int .i64 a1_0, .int .i64 a1_1] 23 rfl rfl gr ?_; clear BX; intro gb606 w27 GE606 BX))
        refine startm [true, true] (n := 45) (ds := []) #[false, false, false, false, false, false, false, false, false, false, false, false, false, false, false, false, false, false, false, false, false, false, false, false, false, false, false, false, false, false, false, false, false, false, false, false, false, false, false, false, false, false, false, false, false] kr rfl rfl (fun BX1 => ?_); refine with_tabW whittlelaw2_ValueMakes.tab1 whittlelaw2_ValueMakes.bits1 (fun HT_ HW_ => ?_)
        clear BX
        have BX := BX1
        clear BX1
        generalize w27.drew = w28 at BX ⊢
        refine one_ (i := 0) (N := some 9) #[true, false, false, false, false, false, false, false, false, false, false, false, false, false, false, false, false, false, false, false, false, false, false, false, false, false, false, false, false, false, false, false, false, false, false, false, false, false, false, false, false, false, false, false, false] rfl rfl (one_of HT_.out kr) (by decide) (fun K hK => ?_)
        refine goes_ Tryd.func15 kr rfl #[] (by rfl) rfl rfl ga ?_
        with_reducible refine (whittlelaw2_able.calls k  true _ ?side1 A5.out).mono ?_
        (case side1 => exact HT.out.on bx_bl)
        rintro e w29 ⟨rfl, hb⟩
        refine ⟨_, rfl, ?_⟩
        replace BX := bx_call hb
        clear hb
        refine hK.out _ _ bxs (fun hHeld => ?_)
        clear hK K hHeld
        refine norm_ (a' := ?_) ?_ ?_
        rotate_left
        ·show Act.put _ (some 9) _ = _
         simp only [Act.put, List.setIfInBounds_toArray, List.set_cons_zero, List.set_cons_succ, i64_w, i32_w]
         rfl
        refine pure_ (i := 1) (N := some 10) (v := ?_) (a' := ?_) #[true, true, false, false, false, false, false, false, false, false, false, false, false, false, false, false, false, false, false, false, false, false, false, false, false, false, false, false, false, false, false, false, false, false, false, false, false, false, false, false, false, false, false, false, false] rfl rfl (any_of HT_.out kr) (fun _ _ _ h => h) (Or.inl ⟨by rfl, ?_⟩) ?_ ?_
        rotate_left
        ·intro w'
         go_simp
         with_reducible rfl
        rotate_left
        ·simp only [Act.put, List.setIfInBounds_toArray, List.set_cons_zero, List.set_cons_succ, i64_w, i32_w]
         rfl
        refine take_ (i := 2) (N := some 11) (v := ?_) (a' := ?_) #[true, true, true, false, false, false, false, false, false, false, false, false, false, false, false, false, false, false, false, false, false, false, false, false, false, false, false, false, false, false, false, false, false, false, false, false, false, false, false, false, false, false, false, false, false] rfl rfl (take_ofW HT_.out HW_.out kr) (fun _ _ _ h => h) (Or.inl ⟨by rfl, ?_⟩) bxs ?_ ?_
        rotate_left
        ·intro w' hS
         go_simp
         with_reducible rfl
        rotate_left
        ·simp only [Act.put, List.setIfInBounds_toArray, List.set_cons_zero, List.set_cons_succ, i64_w, i32_w]
         rfl
        refine take_ (i := 4) (N := some 13) (v := ?_) (a' := ?_) #[true, true, true, false, true, false, false, false, false, false, false, false, false, false, false, false, false, false, false, false, false, false, false, false, false, false, false, false, false, false, false, false, false, false, false, false, false, false, false, false, false, false, false, false, false] rfl rfl (take_ofW HT_.out HW_.out kr) (fun _ _ _ h => h) (Or.inl ⟨by rfl, ?_⟩) bxs ?_ ?_
        rotate_left
        ·intro w' hS
         go_simp
         with_reducible rfl
        rotate_left
        ·simp only [Act.put, List.setIfInBounds_toArray, List.set_cons_zero, List.set_cons_succ, i64_w, i32_w]
         rfl
        refine one_ (i := 3) (N := some 12) #[true, true, true, true, true, false, false, false, false, false, false, false, false, false, false, false, false, false, false, false, false, false, false, false, false, false, false, false, false, false, false, false, false, false, false, false, false, false, false, false, false, false, false, false, false] rfl rfl (one_of HT_.out kr) (by decide) (fun K hK => ?_)
        refine goes_ Tryd.func16 kr rfl #[.agg #[.int .i64 a0_0, .int .i64 a0_1, .int .i64 a0_2, .string a0_3, .bool a0_4, .int .i64 a0_5]] (by rfl) rfl rfl ga ?_
        with_reducible refine (value_Right.calls k a0_0 a0_1 a0_2 a0_3 a0_4 a0_5 t608 _ A7.out).mono ?_
        rintro e w30 ⟨rfl, hb⟩
        refine ⟨_, rfl, ?_⟩
        replace BX := bx_call hb
        clear hb
        refine hK.out _ _ bxs (fun hHeld => ?_)
        clear hK K hHeld
        refine norm_ (a' := ?_) ?_ ?_
        rotate_left
        ·show Act.put _ (some 12) _ = _
         simp only [Act.put, List.setIfInBounds_toArray, List.set_cons_zero, List.set_cons_succ, i64_w, i32_w]
         rfl
        refine one_ (i := 5) (N := some 14) #[true, true, true, true, true, true, false, false, false, false, false, false, false, false, false, false, false, false, false, false, false, false, false, false, false, false, false, false, false, false, false, false, false, false, false, false, false, false, false, false, false, false, false, false, false] rfl rfl (one_of HT_.out kr) (by decide) (fun K hK => ?_)
        refine goes_ Tryd.func17 kr rfl #[.agg #[.int .i64 a0_0, .int .i64 a0_1, .int .i64 a0_2, .string a0_3, .bool a0_4, .int .i64 a0_5]] (by rfl) rfl rfl ga ?_
        with_reducible refine (whittleref2_Right.calls k a0_0 a0_1 a0_2 a0_3 a0_4 a0_5 t609 _ A8.out).mono ?_
        rintro e w31 ⟨rfl, hb⟩
        refine ⟨_, rfl, ?_⟩
        replace BX := bx_call hb
        clear hb
        refine hK.out _ _ bxs (fun hHeld => ?_)
        clear hK K hHeld
        refine norm_ (a' := ?_) ?_ ?_
        rotate_left
        ·show Act.put _ (some 14) _ = _
         simp only [Act.put, List.setIfInBounds_toArray, List.set_cons_zero, List.set_cons_succ, i64_w, i32_w]
         rfl
        refine pure_ (i := 6) (N := some 15) (v := ?_) (a' := ?_) #[true, true, true, true, true, true, true, false, false, false, false, false, false, false, false, false, false, false, false, false, false, false, false, false, false, false, false, false, false, false, false, false, false, false, false, false, false, false, false, false, false, false, false, false, false] rfl rfl (any_of HT_.out kr) (fun _ _ _ h => h) (Or.inl ⟨by rfl, ?_⟩) ?_ ?_
        rotate_left
        ·intro w'
         go_simp
         with_reducible rfl
        rotate_left
        ·simp only [Act.put, List.setIfInBounds_toArray, List.set_cons_zero, List.set_cons_succ, i64_w, i32_w]
         rfl
        refine pure_ (i := 7) (N := some 16) (v := ?_) (a' := ?_) #[true, true, true, true, true, true, true, true, false, false, false, false, false, false, false, false, false, false, false, false, false, false, false, false, false, false, false, false, false, false, false, false, false, false, false, false, false, false, false, false, false, false, false, false, false] rfl rfl (any_of HT_.out kr) (fun _ _ _ h => h) (Or.inl ⟨by rfl, ?_⟩) ?_ ?_
        rotate_left
        ·intro w'
         go_simp
         with_reducible rfl
        rotate_left
        ·simp only [Act.put, List.setIfInBounds_toArray, List.set_cons_zero, List.set_cons_succ, i64_w, i32_w]
         rfl
        refine pure_ (i := 8) (N := some 17) (v := ?_) (a' := ?_) #[true, true, true, true, true, true, true, true, true, false, false, false, false, false, false, false, false, false, false, false, false, false, false, false, false, false, false, false, false, false, false, false, false, false, false, false, false, false, false, false, false, false, false, false, false] rfl rfl (any_of HT_.out kr) (fun _ _ _ h => h) (Or.inl ⟨by rfl, ?_⟩) ?_ ?_
        rotate_left
        ·intro w'
         go_simp
         with_reducible rfl
        rotate_left
        ·simp only [Act.put, List.setIfInBounds_toArray, List.set_cons_zero, List.set_cons_succ, i64_w, i32_w]
         rfl
        refine pure_ (i := 10) (N := some 19) (v := ?_) (a' := ?_) #[true, true, true, true, true, true, true, true, true, false, true, false, false, false, false, false, false, false, false, false, false, false, false, false, false, false, false, false, false, false, false, false, false, false, false, false, false, false, false, false, false, false, false, false, false] rfl rfl (any_of HT_.out kr) (fun _ _ _ h => h) (Or.inl ⟨by rfl, ?_⟩) ?_ ?_
        rotate_left
        ·intro w'
         go_simp
         with_reducible rfl
        rotate_left
        ·simp only [Act.put, List.setIfInBounds_toArray, List.set_cons_zero, List.set_cons_succ, i64_w, i32_w]
         rfl
        refine one_ (i := 9) (N := some 18) #[true, true, true, true, true, true, true, true, true, true, true, false, false, false, false, false, false, false, false, false, false, false, false, false, false, false, false, false, false, false, false, false, false, false, false, false, false, false, false, false, false, false, false, false, false] rfl rfl (one_of HT_.out kr) (by decide) (fun K hK => ?_)
        refine goes_ Tryd.func18 kr rfl #[] (by rfl) rfl rfl ga ?_
        with_reducible refine (value_Blank.calls  t610 t611 t612 t613 t614 t615 _ A10.out).mono ?_
        rintro e w32 ⟨rfl, hb⟩
        refine ⟨_, rfl, ?_⟩
        replace BX := bx_call hb
        clear hb
        refine hK.out _ _ bxs (fun hHeld => ?_)
        clear hK K hHeld
        refine norm_ (a' := ?_) ?_ ?_
        rotate_left
        ·show Act.put _ (some 18) _ = _
         simp only [Act.put, List.setIfInBounds_toArray, List.set_cons_zero, List.set_cons_succ, i64_w, i32_w]
         rfl
        refine pure_ (i := 11) (N := some 20) (v := ?_) (a' := ?_) #[true, true, true, true, true, true, true, true, true, true, true, true, false, false, false, false, false, false, false, false, false, false, false, false, false, false, false, false, false, false, false, false, false, false, false, false, false, false, false, false, false, false, false, false, false] rfl rfl (any_of HT_.out kr) (fun _ _ _ h => h) (Or.inl ⟨by rfl, ?_⟩) ?_ ?_
        rotate_left
        ·intro w'
         go_simp
         with_reducible rfl
        rotate_left
        ·simp only [Act.put, List.setIfInBounds_toArray, List.set_cons_zero, List.set_cons_succ, i64_w, i32_w]
         rfl
        refine pure_ (i := 12) (N := some 21) (v := ?_) (a' := ?_) #[true, true, true, true, true, true, true, true, true, true, true, true, true, false, false, false, false, false, false, false, false, false, false, false, false, false, false, false, false, false, false, false, false, false, false, false, false, false, false, false, false, false, false, false, false] rfl rfl (any_of HT_.out kr) (fun _ _ _ h => h) (Or.inl ⟨by rfl, ?_⟩) ?_ ?_
        rotate_left
        ·intro w'
         go_simp
         with_reducible rfl
        rotate_left
        ·simp only [Act.put, List.setIfInBounds_toArray, List.set_cons_zero, List.set_cons_succ, i64_w, i32_w]
         rfl
        refine pure_ (i := 13) (N := some 22) (v := ?_) (a' := ?_) #[true, true, true, true, true, true, true, true, true, true, true, true, true, true, false, false, false, false, false, false, false, false, false, false, false, false, false, false, false, false, false, false, false, false, false, false, false, false, false, false, false, false, false, false, false] rfl rfl (any_of HT_.out kr) (fun _ _ _ h => h) (Or.inl ⟨by rfl, ?_⟩) ?_ ?_
        rotate_left
        ·intro w'
         go_simp
         with_reducible rfl
        rotate_left
        ·simp only [Act.put, List.setIfInBounds_toArray, List.set_cons_zero, List.set_cons_succ, i64_w, i32_w]
         rfl
        refine take_ (i := 14) (N := some 23) (v := ?_) (a' := ?_) #[true, true, true, true, true, true, true, true, true, true, true, true, true, true, true, false, false, false, false, false, false, false, false, false, false, false, false, false, false, false, false, false, false, false, false, false, false, false, false, false, false, false, false, false, false] rfl rfl (take_ofW HT_.out HW_.out kr) (fun _ _ _ h => h) (Or.inl ⟨by rfl, ?_⟩) bxs ?_ ?_
        rotate_left
        ·intro w' hS
         go_simp
         with_reducible rfl
        rotate_left
        ·simp only [Act.put, List.setIfInBounds_toArray, List.set_cons_zero, List.set_cons_succ, i64_w, i32_w]
         rfl
        refine take_ (i := 16) (N := some 25) (v := ?_) (a' := ?_) #[true, true, true, true, true, true, true, true, true, true, true, true, true, true, true, false, true, false, false, false, false, false, false, false, false, false, false, false, false, false, false, false, false, false, false, false, false, false, false, false, false, false, false, false, false] rfl rfl (take_ofW HT_.out HW_.out kr) (fun _ _ _ h => h) (Or.inl ⟨by rfl, ?_⟩) bxs ?_ ?_
        rotate_left
        ·intro w' hS
         go_simp
         with_reducible rfl
        rotate_left
        ·simp only [Act.put, List.setIfInBounds_toArray, List.set_cons_zero, List.set_cons_succ, i64_w, i32_w]
         rfl
        refine one_ (i := 15) (N := some 24) #[true, true, true, true, true, true, true, true, true, true, true, true, true, true, true, true, true, false, false, false, false, false, false, false, false, false, false, false, false, false, false, false, false, false, false, false, false, false, false, false, false, false, false, false, false] rfl rfl (one_of HT_.out kr) (by decide) (fun K hK => ?_)
        refine goes_ Tryd.func19 kr rfl #[.agg #[.int .i64 a1_0, .int .i64 a1_1]] (by rfl) rfl rfl ga ?_
        with_reducible refine (value_Number.calls k a1_0 a1_1 t616 t617 t618 t619 t620 t621 _ A12.out).mono ?_
        rintro e w33 ⟨rfl, hb⟩
        refine ⟨_, rfl, ?_⟩
        replace BX := bx_call hb
        clear hb
        refine hK.out _ _ bxs (fun hHeld => ?_)
        clear hK K hHeld
        refine norm_ (a' := ?_) ?_ ?_
        rotate_left
        ·show Act.put _ (some 24) _ = _
         simp only [Act.put, List.setIfInBounds_toArray, List.set_cons_zero, List.set_cons_succ, i64_w, i32_w]
         rfl
        refine one_ (i := 17) (N := some 26) #[true, true, true, true, true, true, true, true, true, true, true, true, true, true, true, true, true, true, false, false, false, false, false, false, false, false, false, false, false, false, false, false, false, false, false, false, false, false, false, false, false, false, false, false, false] rfl rfl (one_of HT_.out kr) (by decide) (fun K hK => ?_)
        refine goes_ Tryd.func20 kr rfl #[.agg #[.int .i64 a1_0, .int .i64 a1_1]] (by rfl) rfl rfl ga ?_
        with_reducible refine (whittleref2_Number.calls k a1_0 a1_1 t622 t623 t624 t625 t626 t627 _ A13.out).mono ?_
        rintro e w34 ⟨rfl, hb⟩
        refine ⟨_, rfl, ?_⟩
        replace BX := bx_call hb
        clear hb
        refine hK.out _ _ bxs (fun hHeld => ?_)
        clear hK K hHeld
        refine norm_ (a' := ?_) ?_ ?_
        rotate_left
        ·show Act.put _ (some 26) _ = _
         simp only [Act.put, List.setIfInBounds_toArray, List.set_cons_zero, List.set_cons_succ, i64_w, i32_w]
         rfl
        refine pure_ (i := 18) (N := some 27) (v := ?_) (a' := ?_) #[true, true, true, true, true, true, true, true, true, true, true, true, true, true, true, true, true, true, true, false, false, false, false, false, false, false, false, false, false, false, false, false, false, false, false, false, false, false, false, false, false, false, false, false, false] rfl rfl (any_of HT_.out kr) (fun _ _ _ h => h) (Or.inl ⟨by rfl, ?_⟩) ?_ ?_
        rotate_left
        ·intro w'
         go_simp
         with_reducible rfl
        rotate_left
        ·simp only [Act.put, List.setIfInBounds_toArray, List.set_cons_zero, List.set_cons_succ, i64_w, i32_w]
         rfl
        refine pure_ (i := 19) (N := some 28) (v := ?_) (a' := ?_) #[true, true, true, true, true, true, true, true, true, true, true, true, true, true, true, true, true, true, true, true, false, false, false, false, false, false, false, false, false, false, false, false, false, false, false, false, false, false, false, false, false, false, false, false, false] rfl rfl (any_of HT_.out kr) (fun _ _ _ h => h) (Or.inl ⟨by rfl, ?_⟩) ?_ ?_
        rotate_left
        ·intro w'
         go_simp
         with_reducible rfl
        rotate_left
        ·simp only [Act.put, List.setIfInBounds_toArray, List.set_cons_zero, List.set_cons_succ, i64_w, i32_w]
         rfl
        refine pure_ (i := 20) (N := some 29) (v := ?_) (a' := ?_) #[true, true, true, true, true, true, true, true, true, true, true, true, true, true, true, true, true, true, true, true, true, false, false, false, false, false, false, false, false, false, false, false, false, false, false, false, false, false, false, false, false, false, false, false, false] rfl rfl (any_of HT_.out kr) (fun _ _ _ h => h) (Or.inl ⟨by rfl, ?_⟩) ?_ ?_
        rotate_left
        ·intro w'
         go_simp
         with_reducible rfl
        rotate_left
        ·simp only [Act.put, List.setIfInBounds_toArray, List.set_cons_zero, List.set_cons_succ, i64_w, i32_w]
         rfl
        refine pure_ (i := 21) (N := some 30) (v := ?_) (a' := ?_) #[true, true, true, true, true, true, true, true, true, true, true, true, true, true, true, true, true, true, true, true, true, true, false, false, false, false, false, false, false, false, false, false, false, false, false, false, false, false, false, false, false, false, false, false, false] rfl rfl (any_of HT_.out kr) (fun _ _ _ h => h) (Or.inl ⟨by rfl, ?_⟩) ?_ ?_
        rotate_left
        ·intro w'
         go_simp
         with_reducible rfl
        rotate_left
        ·simp only [Act.put, List.setIfInBounds_toArray, List.set_cons_zero, List.set_cons_succ, i64_w, i32_w]
         rfl
        refine pure_ (i := 23) (N := some 32) (v := ?_) (a' := ?_) #[true, true, true, true, true, true, true, true, true, true, true, true, true, true, true, true, true, true, true, true, true, true, false, true, false, false, false, false, false, false, false, false, false, false, false, false, false, false, false, false, false, false, false, false, false] rfl rfl (any_of HT_.out kr) (fun _ _ _ h => h) (Or.inl ⟨by rfl, ?_⟩) ?_ ?_
        rotate_left
        ·intro w'
         go_simp
         with_reducible rfl
        rotate_left
        ·simp only [Act.put, List.setIfInBounds_toArray, List.set_cons_zero, List.set_cons_succ, i64_w, i32_w]
         rfl
        refine one_ (i := 22) (N := some 31) #[true, true, true, true, true, true, true, true, true, true, true, true, true, true, true, true, true, true, true, true, true, true, true, true, false, false, false, false, false, false, false, false, false, false, false, false, false, false, false, false, false, false, false, false, false] rfl rfl (one_of HT_.out kr) (by decide) (fun K hK => ?_)
        refine goes_ Tryd.func21 kr rfl #[.string a2] (by rfl) rfl rfl ga ?_
        with_reducible refine (value_Text.calls k a2 t628 t629 t630 t631 t632 t633 _ A15.out).mono ?_
        rintro e w35 ⟨rfl, hb⟩
        refine ⟨_, rfl, ?_⟩
        replace BX := bx_call hb
        clear hb
        refine hK.out _ _ bxs (fun hHeld => ?_)
        clear hK K hHeld
        refine norm_ (a' := ?_) ?_ ?_
        rotate_left
        ·show Act.put _ (some 31) _ = _
         simp only [Act.put, List.setIfInBounds_toArray, List.set_cons_zero, List.set_cons_succ, i64_w, i32_w]
         rfl
        refine one_ (i := 24) (N := some 33) #[true, true, true, true, true, true, true, true, true, true, true, true, true, true, true, true, true, true, true, true, true, true, true, true, true, false, false, false, false, false, false, false, false, false, false, false, false, false, false, false, false, false, false, false, false] rfl rfl (one_of HT_.out kr) (by decide) (fun K hK => ?_)
        refine goes_ Tryd.func22 kr rfl #[.string a2] (by rfl) rfl rfl ga ?_
        with_reducible refine (whittleref2_Text.calls k a2 t634 t635 t636 t637 t638 t639 _ A16.out).mono ?_
        rintro e w36 ⟨rfl, hb⟩
        refine ⟨_, rfl, ?_⟩
        replace BX := bx_call hb
        clear hb
        refine hK.out _ _ bxs (fun hHeld => ?_)
        clear hK K hHeld
        refine norm_ (a' := ?_) ?_ ?_
        rotate_left
        ·show Act.put _ (some 33) _ = _
         simp only [Act.put, List.setIfInBounds_toArray, List.set_cons_zero, List.set_cons_succ, i64_w, i32_w]
         rfl
        refine pure_ (i := 25) (N := some 34) (v := ?_) (a' := ?_) #[true, true, true, true, true, true, true, true, true, true, true, true, true, true, true, true, true, true, true, true, true, true, true, true, true, true, false, false, false, false, false, false, false, false, false, false, false, false, false, false, false, false, false, false, false] rfl rfl (any_of HT_.out kr) (fun _ _ _ h => h) (Or.inl ⟨by rfl, ?_⟩) ?_ ?_
        rotate_left
        ·intro w'
         go_simp
         with_reducible rfl
        rotate_left
        ·simp only [Act.put, List.setIfInBounds_toArray, List.set_cons_zero, List.set_cons_succ, i64_w, i32_w]
         rfl
        refine pure_ (i := 26) (N := some 35) (v := ?_) (a' := ?_) #[true, true, true, true, true, true, true, true, true, true, true, true, true, true, true, true, true, true, true, true, true, true, true, true, true, true, true, false, false, false, false, false, false, false, false, false, false, false, false, false, false, false, false, false, false] rfl rfl (any_of HT_.out kr) (fun _ _ _ h => h) (Or.inl ⟨by rfl, ?_⟩) ?_ ?_
        rotate_left
        ·intro w'
         go_simp
         with_reducible rfl
        rotate_left
        ·simp only [Act.put, List.setIfInBounds_toArray, List.set_cons_zero, List.set_cons_succ, i64_w, i32_w]
         rfl
        refine pure_ (i := 27) (N := some 36) (v := ?_) (a' := ?_) #[true, true, true, true, true, true, true, true, true, true, true, true, true, true, true, true, true, true, true, true, true, true, true, true, true, true, true, true, false, false, false, false, false, false, false, false, false, false, false, false, false, false, false, false, false] rfl rfl (any_of HT_.out kr) (fun _ _ _ h => h) (Or.inl ⟨by rfl, ?_⟩) ?_ ?_
        rotate_left
        ·intro w'
         go_simp
         with_reducible rfl
        rotate_left
        ·simp only [Act.put, List.setIfInBounds_toArray, List.set_cons_zero, List.set_cons_succ, i64_w, i32_w]
         rfl
        refine one_ (i := 28) (N := some 37) #[true, true, true, true, true, true, true, true, true, true, true, true, true, true, true, true, true, true, true, true, true, true, true, true, true, true, true, true, true, false, false, false, false, false, false, false, false, false, false, false, false, false, false, false, false] rfl rfl (one_of HT_.out kr) (by decide) (fun K hK => ?_)
        refine goes_ Tryd.func23 kr rfl #[.bool true] (by rfl) rfl rfl ga ?_
        with_reducible refine (value_Truth.calls true t640 t641 t642 t643 t644 t645 _ A18.out).mono ?_
        rintro e w37 ⟨rfl, hb⟩
        refine ⟨_, rfl, ?_⟩
        replace BX := bx_call hb
        clear hb
        refine hK.out _ _ bxs (fun hHeld => ?_)
        clear hK K hHeld
        refine norm_ (a' := ?_) ?_ ?_
        rotate_left
        ·show Act.put _ (some 37) _ = _
         simp only [Act.put, List.setIfInBounds_toArray, List.set_cons_zero, List.set_cons_succ, i64_w, i32_w]
         rfl
        refine one_ (i := 29) (N := some 38) #[true, true, true, true, true, true, true, true, true, true, true, true, true, true, true, true, true, true, true, true, true, true, true, true, true, true, true, true, true, true, false, false, false, false, false, false, false, false, false, false, false, false, false, false, false] rfl rfl (one_of HT_.out kr) (by decide) (fun K hK => ?_)
        refine goes_ Tryd.func24 kr rfl #[.bool true] (by rfl) rfl rfl ga ?_
        with_reducible refine (whittleref2_Truth.calls true t646 t647 t648 t649 t650 t651 _ A19.out).mono ?_
        rintro e w38 ⟨rfl, hb⟩
        refine ⟨_, rfl, ?_⟩
        replace BX := bx_call hb
        clear hb
        refine hK.out _ _ bxs (fun hHeld => ?_)
        clear hK K hHeld
        refine norm_ (a' := ?_) ?_ ?_
        rotate_left
        ·show Act.put _ (some 38) _ = _
         simp only [Act.put, List.setIfInBounds_toArray, List.set_cons_zero, List.set_cons_succ, i64_w, i32_w]
         rfl
        refine pure_ (i := 30) (N := some 39) (v := ?_) (a' := ?_) #[true, true, true, true, true, true, true, true, true, true, true, true, true, true, true, true, true, true, true, true, true, true, true, true, true, true, true, true, true, true, true, false, false, false, false, false, false, false, false, false, false, false, false, false, false] rfl rfl (any_of HT_.out kr) (fun _ _ _ h => h) (Or.inl ⟨by rfl, ?_⟩) ?_ ?_
        rotate_left
        ·intro w'
         go_simp
         with_reducible rfl
        rotate_left
        ·simp only [Act.put, List.setIfInBounds_toArray, List.set_cons_zero, List.set_cons_succ, i64_w, i32_w]
         rfl
        refine pure_ (i := 31) (N := some 40) (v := ?_) (a' := ?_) #[true, true, true, true, true, true, true, true, true, true, true, true, true, true, true, true, true, true, true, true, true, true, true, true, true, true, true, true, true, true, true, true, false, false, false, false, false, false, false, false, false, false, false, false, false] rfl rfl (any_of HT_.out kr) (fun _ _ _ h => h) (Or.inl ⟨by rfl, ?_⟩) ?_ ?_
        rotate_left
        ·intro w'
         go_simp
         with_reducible rfl
        rotate_left
        ·simp only [Act.put, List.setIfInBounds_toArray, List.set_cons_zero, List.set_cons_succ, i64_w, i32_w]
         rfl
        refine pure_ (i := 32) (N := some 41) (v := ?_) (a' := ?_) #[true, true, true, true, true, true, true, true, true, true, true, true, true, true, true, true, true, true, true, true, true, true, true, true, true, true, true, true, true, true, true, true, true, false, false, false, false, false, false, false, false, false, false, false, false] rfl rfl (any_of HT_.out kr) (fun _ _ _ h => h) (Or.inl ⟨by rfl, ?_⟩) ?_ ?_
        rotate_left
        ·intro w'
         go_simp
         with_reducible rfl
        rotate_left
        ·simp only [Act.put, List.setIfInBounds_toArray, List.set_cons_zero, List.set_cons_succ, i64_w, i32_w]
         rfl
        refine one_ (i := 33) (N := some 42) #[true, true, true, true, true, true, true, true, true, true, true, true, true, true, true, true, true, true, true, true, true, true, true, true, true, true, true, true, true, true, true, true, true, true, false, false, false, false, false, false, false, false, false, false, false] rfl rfl (one_of HT_.out kr) (by decide) (fun K hK => ?_)
        refine goes_ Tryd.func23 kr rfl #[.bool false] (by rfl) rfl rfl ga ?_
        with_reducible refine (value_Truth.calls false t652 t653 t654 t655 t656 t657 _ A21.out).mono ?_
        rintro e w39 ⟨rfl, hb⟩
        refine ⟨_, rfl, ?_⟩
        replace BX := bx_call hb
        clear hb
        refine hK.out _ _ bxs (fun hHeld => ?_)
        clear hK K hHeld
        refine norm_ (a' := ?_) ?_ ?_
        rotate_left
        ·show Act.put _ (some 42) _ = _
         simp only [Act.put, List.setIfInBounds_toArray, List.set_cons_zero, List.set_cons_succ, i64_w, i32_w]
         rfl
        refine one_ (i := 34) (N := some 43) #[true, true, true, true, true, true, true, true, true, true, true, true, true, true, true, true, true, true, true, true, true, true, true, true, true, true, true, true, true, true, true, true, true, true, true, false, false, false, false, false, false, false, false, false, false] rfl rfl (one_of HT_.out kr) (by decide) (fun K hK => ?_)
        refine goes_ Tryd.func24 kr rfl #[.bool false] (by rfl) rfl rfl ga ?_
        with_reducible refine (whittleref2_Truth.calls false t658 t659 t660 t661 t662 t663 _ A22.out).mono ?_
        rintro e w40 ⟨rfl, hb⟩
        refine ⟨_, rfl, ?_⟩
        replace BX := bx_call hb
        clear hb
        refine hK.out _ _ bxs (fun hHeld => ?_)
        clear hK K hHeld
        refine norm_ (a' := ?_) ?_ ?_
        rotate_left
        ·show Act.put _ (some 43) _ = _
         simp only [Act.put, List.setIfInBounds_toArray, List.set_cons_zero, List.set_cons_succ, i64_w, i32_w]
         rfl
        refine pure_ (i := 35) (N := some 44) (v := ?_) (a' := ?_) #[true, true, true, true, true, true, true, true, true, true, true, true, true, true, true, true, true, true, true, true, true, true, true, true, true, true, true, true, true, true, true, true, true, true, true, true, false, false, false, false, false, false, false, false, false] rfl rfl (any_of HT_.out kr) (fun _ _ _ h => h) (Or.inl ⟨by rfl, ?_⟩) ?_ ?_
        rotate_left
        ·intro w'
         go_simp
         with_reducible rfl
        rotate_left
        ·simp only [Act.put, List.setIfInBounds_toArray, List.set_cons_zero, List.set_cons_succ, i64_w, i32_w]
         rfl
        refine pure_ (i := 36) (N := some 45) (v := ?_) (a' := ?_) #[true, true, true, true, true, true, true, true, true, true, true, true, true, true, true, true, true, true, true, true, true, true, true, true, true, true, true, true, true, true, true, true, true, true, true, true, true, false, false, false, false, false, false, false, false] rfl rfl (any_of HT_.out kr) (fun _ _ _ h => h) (Or.inl ⟨by rfl, ?_⟩) ?_ ?_
        rotate_left
        ·intro w'
         go_simp
         with_reducible rfl
        rotate_left
        ·simp only [Act.put, List.setIfInBounds_toArray, List.set_cons_zero, List.set_cons_succ, i64_w, i32_w]
         rfl
        refine pure_ (i := 37) (N := some 46) (v := ?_) (a' := ?_) #[true, true, true, true, true, true, true, true, true, true, true, true, true, true, true, true, true, true, true, true, true, true, true, true, true, true, true, true, true, true, true, true, true, true, true, true, true, true, false, false, false, false, false, false, false] rfl rfl (any_of HT_.out kr) (fun _ _ _ h => h) (Or.inl ⟨by rfl, ?_⟩) ?_ ?_
        rotate_left
        ·intro w'
         go_simp
         with_reducible rfl
        rotate_left
        ·simp only [Act.put, List.setIfInBounds_toArray, List.set_cons_zero, List.set_cons_succ, i64_w, i32_w]
         rfl
        refine pure_ (i := 38) (N := some 47) (v := ?_) (a' := ?_) #[true, true, true, true, true, true, true, true, true, true, true, true, true, true, true, true, true, true, true, true, true, true, true, true, true, true, true, true, true, true, true, true, true, true, true, true, true, true, true, false, false, false, false, false, false] rfl rfl (any_of HT_.out kr) (fun _ _ _ h => h) (Or.inl ⟨by rfl, ?_⟩) ?_ ?_
        rotate_left
        ·intro w'
         go_simp
         with_reducible rfl
        rotate_left
        ·simp only [Act.put, List.setIfInBounds_toArray, List.set_cons_zero, List.set_cons_succ, i64_w, i32_w]
         rfl
        refine pure_ (i := 40) (N := some 49) (v := ?_) (a' := ?_) #[true, true, true, true, true, true, true, true, true, true, true, true, true, true, true, true, true, true, true, true, true, true, true, true, true, true, true, true, true, true, true, true, true, true, true, true, true, true, true, false, true, false, false, false, false] rfl rfl (any_of HT_.out kr) (fun _ _ _ h => h) (Or.inl ⟨by rfl, ?_⟩) ?_ ?_
        rotate_left
        ·intro w'
         go_simp
         with_reducible rfl
        rotate_left
        ·simp only [Act.put, List.setIfInBounds_toArray, List.set_cons_zero, List.set_cons_succ, i64_w, i32_w]
         rfl
        refine one_ (i := 39) (N := some 48) #[true, true, true, true, true, true, true, true, true, true, true, true, true, true, true, true, true, true, true, true, true, true, true, true, true, true, true, true, true, true, true, true, true, true, true, true, true, true, true, true, true, false, false, false, false] rfl rfl (one_of HT_.out kr) (by decide) (fun K hK => ?_)
        refine goes_ Tryd.func25 kr rfl #[.int .i64 a3] (by rfl) rfl rfl ga ?_
        with_reducible refine (value_Fault.calls a3 t664 t665 t666 t667 t668 t669 _ A24.out).mono ?_
        rintro e w41 ⟨rfl, hb⟩
        refine ⟨_, rfl, ?_⟩
        replace BX := bx_call hb
        clear hb
        refine hK.out _ _ bxs (fun hHeld => ?_)
        clear hK K hHeld
        refine norm_ (a' := ?_) ?_ ?_
        rotate_left
        ·show Act.put _ (some 48) _ = _
         simp only [Act.put, List.setIfInBounds_toArray, List.set_cons_zero, List.set_cons_succ, i64_w, i32_w]
         rfl
        refine one_ (i := 41) (N := some 50) #[true, true, true, true, true, true, true, true, true, true, true, true, true, true, true, true, true, true, true, true, true, true, true, true, true, true, true, true, true, true, true, true, true, true, true, true, true, true, true, true, true, true, false, false, false] rfl rfl (one_of HT_.out kr) (by decide) (fun K hK => ?_)
        refine goes_ Tryd.func26 kr rfl #[.int .i64 a3] (by rfl) rfl rfl ga ?_
        with_reducible refine (whittleref2_Fault.calls a3 t670 t671 t672 t673 t674 t675 _ A25.out).mono ?_
        rintro e w42 ⟨rfl, hb⟩
        refine ⟨_, rfl, ?_⟩
        replace BX := bx_call hb
        clear hb
        refine hK.out _ _ bxs (fun hHeld => ?_)
        clear hK K hHeld
        refine norm_ (a' := ?_) ?_ ?_
        rotate_left
        ·show Act.put _ (some 50) _ = _
         simp only [Act.put, List.setIfInBounds_toArray, List.set_cons_zero, List.set_cons_succ, i64_w, i32_w]
         rfl
        refine pure_ (i := 42) (N := some 51) (v := ?_) (a' := ?_) #[true, true, true, true, true, true, true, true, true, true, true, true, true, true, true, true, true, true, true, true, true, true, true, true, true, true, true, true, true, true, true, true, true, true, true, true, true, true, true, true, true, true, true, false, false] rfl rfl (any_of HT_.out kr) (fun _ _ _ h => h) (Or.inl ⟨by rfl, ?_⟩) ?_ ?_
        rotate_left
        ·intro w'
         go_simp
         with_reducible rfl
        rotate_left
        ·simp only [Act.put, List.setIfInBounds_toArray, List.set_cons_zero, List.set_cons_succ, i64_w, i32_w]
         rfl
        refine pure_ (i := 43) (N := some 52) (v := ?_) (a' := ?_) #[true, true, true, true, true, true, true, true, true, true, true, true, true, true, true, true, true, true, true, true, true, true, true, true, true, true, true, true, true, true, true, true, true, true, true, true, true, true, true, true, true, true, true, true, false] rfl rfl (any_of HT_.out kr) (fun _ _ _ h => h) (Or.inl ⟨by rfl, ?_⟩) ?_ ?_
        rotate_left
        ·intro w'
         go_simp
         with_reducible rfl
        rotate_left
        ·simp only [Act.put, List.setIfInBounds_toArray, List.set_cons_zero, List.set_cons_succ, i64_w, i32_w]
         rfl
        refine pure_ (i := 44) (N := some 8) (v := ?_) (a' := ?_) #[true, true, true, true, true, true, true, true, true, true, true, true, true, true, true, true, true, true, true, true, true, true, true, true, true, true, true, true, true, true, true, true, true, true, true, true, true, true, true, true, true, true, true, true, true] rfl rfl (any_of HT_.out kr) (fun _ _ _ h => h) (Or.inl ⟨by rfl, ?_⟩) ?_ ?_
        rotate_left
        ·intro w'
         go_simp
         with_reducible rfl
        rotate_left
        ·simp only [Act.put, List.setIfInBounds_toArray, List.set_cons_zero, List.set_cons_succ, i64_w, i32_w]
         rfl
        refine done_ (done_of HT_.out kr) ?_
        try go_wp2
        go_ret
        exact ⟨er2, bx_bl⟩
       ·rw [if_neg c23] at H
        have c23b0 : (t652 == t658 && ((t653 == t659 && (t654 == t660)) && (t655.toList == t661.toList && (t656 == t662 && (t657 == t663))))) = false := by simpa using c23
        (try (have c23b1 : decide (t652 = t658 && ((t653 == t659 && (t654 == t660)) && (t655.toList == t661.toList && (t656 == t662 && (t657 == t663))))) = false := by simpa using c23))
        (try (have c23b2 : (t652 == t658 && ((t653 == t659 && (t654 == t660)) && (t655.toList == t661.toList && (t656 == t662 && (t657 == t663))))) = false := by simpa using c23))
        (try (have c23b3 : ¬ (t652 = t658 && ((t653 == t659 && (t654 == t660)) && (t655.toList == t661.toList && (t656 == t662 && (t657 == t663))))) := by simpa using c23))
        clear c23
        exact absurd (Option.some.inj H) (by rw [HR.out]; decide)
      ·rw [if_neg c20] at H
       have c20b0 : (t640 == t646 && ((t641 == t647 && (t642 == t648)) && (t643.toList == t649.toList && (t644 == t650 && (t645 == t651))))) = false := by simpa using c20
       (try (have c20b1 : decide (t640 = t646 && ((t641 == t647 && (t642 == t648)) && (t643.toList == t649.toList && (t644 == t650 && (t645 == t651))))) = false := by simpa using c20))
       (try (have c20b2 : (t640 == t646 && ((t641 == t647 && (t642 == t648)) && (t643.toList == t649.toList && (t644 == t650 && (t645 == t651))))) = false := by simpa using c20))
       (try (have c20b3 : ¬ (t640 = t646 && ((t641 == t647 && (t642 == t648)) && (t643.toList == t649.toList && (t644 == t650 && (t645 == t651))))) := by simpa using c20))
       clear c20
       exact absurd (Option.some.inj H) (by rw [HR.out]; decide)
     ·rw [if_neg c17] at H
      have c17b0 : (t628 == t634 && ((t629 == t635 && (t630 == t636)) && (t631.toList == t637.toList && (t632 == t638 && (t633 == t639))))) = false := by simpa using c17
      (try (have c17b1 : decide (t628 = t634 && ((t629 == t635 && (t630 == t636)) && (t631.toList == t637.toList && (t632 == t638 && (t633 == t639))))) = false := by simpa using c17))
      (try (have c17b2 : (t628 == t634 && ((t629 == t635 && (t630 == t636)) && (t631.toList == t637.toList && (t632 == t638 && (t633 == t639))))) = false := by simpa using c17))
      (try (have c17b3 : ¬ (t628 = t634 && ((t629 == t635 && (t630 == t636)) && (t631.toList == t637.toList && (t632 == t638 && (t633 == t639))))) := by simpa using c17))
      clear c17
      exact absurd (Option.some.inj H) (by rw [HR.out]; decide)
    ·rw [if_neg c14] at H
     have c14b0 : (t616 == t622 && ((t617 == t623 && (t618 == t624)) && (t619.toList == t625.toList && (t620 == t626 && (t621 == t627))))) = false := by simpa using c14
     (try (have c14b1 : decide (t616 = t622 && ((t617 == t623 && (t618 == t624)) && (t619.toList == t625.toList && (t620 == t626 && (t621 == t627))))) = false := by simpa using c14))
     (try (have c14b2 : (t616 == t622 && ((t617 == t623 && (t618 == t624)) && (t619.toList == t625.toList && (t620 == t626 && (t621 == t627))))) = false := by simpa using c14))
     (try (have c14b3 : ¬ (t616 = t622 && ((t617 == t623 && (t618 == t624)) && (t619.toList == t625.toList && (t620 == t626 && (t621 == t627))))) := by simpa using c14))
     clear c14
     exact absurd (Option.some.inj H) (by rw [HR.out]; decide)
   ·rw [if_neg c11] at H
    have c11b0 : (t610 == 0 && ((t611 == 0 && (t612 == 0)) && (t613.toList == ([] : List UInt8) && (!t614 && (t615 == 0))))) = false := by simpa using c11
    have c11be : (t610 == 0 && ((t611 == 0 && (t612 == 0)) && (t613.toList.isEmpty && (!t614 && (t615 == 0))))) = false := by have h_ := c11b0; simp only [beq_nil] at h_; exact h_
    (try (have c11b1 : decide (t610 = 0 && ((t611 == 0 && (t612 == 0)) && (t613.toList == ([] : List UInt8) && (!t614 && (t615 == 0))))) = false := by simpa using c11))
    (try (have c11b2 : (t610 == 0 && ((t611 == 0 && (t612 == 0)) && (t613.toList == ([] : List UInt8) && (!t614 && (t615 == 0))))) = false := by simpa using c11))
    (try (have c11b3 : ¬ (t610 = 0 && ((t611 == 0 && (t612 == 0)) && (t613.toList == ([] : List UInt8) && (!t614 && (t615 == 0))))) := by simpa using c11))
    clear c11
    exact absurd (Option.some.inj H) (by rw [HR.out]; decide)
  ·rw [if_neg c9] at H
   have c9b0 : (t608 == t609) = false := by simpa using c9
   (try (have c9b1 : decide (t608 = t609) = false := by simpa using c9))
   (try (have c9b2 : (t608 == t609) = false := by simpa using c9))
   (try (have c9b3 : ¬ (t608 = t609) := by simpa using c9))
   clear c9
   exact absurd (Option.some.inj H) (by rw [HR.out]; decide)
 ·replace c6 := Bool.eq_false_iff.mpr c6
  subst c6
  have H1 : (some false) = some r := by rw [if_neg (show ¬ (false = true) by decide)] at H; exact H
  clear H
  have H := H1
  clear H1
  exact absurd (Option.some.inj H) (by rw [HR.out]; decide)
end
end Go.Proofs.YtmakkdlkgfgaoaaDoor.F
