-- Laid by program (wip/tools/genv.sh, pack.py, merge.py of this repo) out of the translation; Lean checks it.
import Derived.Test.YtmakkdlkgfgaoaaDoorF0
import Derived.Test.YtmakkdlkgfgaoaaDoorC0
import Derived.Test.YtmakkdlkgfgaoaaDoorF100
import Derived.Test.YtmakkdlkgfgaoaaDoorF103
import Derived.Test.YtmakkdlkgfgaoaaDoorF104
import Derived.Test.YtmakkdlkgfgaoaaDoorF105
import Derived.Test.YtmakkdlkgfgaoaaDoorF112
import Derived.Test.YtmakkdlkgfgaoaaDoorG1
namespace Go.Proofs.YtmakkdlkgfgaoaaDoor.F
open Go.RowKit Go.Proofs.YtmakkdlkgfgaoaaDoorW.PrintWords Go.Proofs.YtmakkdlkgfgaoaaDoorW.PrintLast Go.Proofs.YtmakkdlkgfgaoaaDoorW.PrintMore
attribute [local go_sem] max2_int min2_int max_two min_two max_three min_three max_four min_four
attribute [local go_sem high] bx_cell bx_frozen
set_option linter.unusedVariables false
set_option linter.unusedSimpArgs false

section
attribute [local go_sem high] eqA25
/-! ### whittlelaw2_ValueFaults: function 13 -/
mutual
def whittlelaw2_ValueFaults.j0 : Nat → Int → Bool → Int → Int → Int → ByteArray → Bool → Int → Int → Int → Int → ByteArray → Bool → Int → Int → Int → Int → ByteArray → Bool → Int → Int → Int → Int → ByteArray → Bool → Int → Option (Bool)
 | 0, _, _, _, _, _, _, _, _, _, _, _, _, _, _, _, _, _, _, _, _, _, _, _, _, _, _ => none
 | k + 1, x0, x27, x1326000, x1326001, x1326002, x1326003, x1326004, x1326005, x1327000, x1327001, x1327002, x1327003, x1327004, x1327005, x1335000, x1335001, x1335002, x1335003, x1335004, x1335005, x1342000, x1342001, x1342002, x1342003, x1342004, x1342005 => if x27 = true then (some false) else (if x0 ≥ 11 then (if x0 ≤ 16 then (whittlelaw2_ValueFaults.j1 k x0 true x1326000 x1326001 x1326002 x1326003 x1326004 x1326005 x1327000 x1327001 x1327002 x1327003 x1327004 x1327005 x1335000 x1335001 x1335002 x1335003 x1335004 x1335005 x1342000 x1342001 x1342002 x1342003 x1342004 x1342005) else (if x0 ≥ 21 then (whittlelaw2_ValueFaults.j1 k x0 (decide (x0 ≤ 26)) x1326000 x1326001 x1326002 x1326003 x1326004 x1326005 x1327000 x1327001 x1327002 x1327003 x1327004 x1327005 x1335000 x1335001 x1335002 x1335003 x1335004 x1335005 x1342000 x1342001 x1342002 x1342003 x1342004 x1342005) else (whittlelaw2_ValueFaults.j1 k x0 false x1326000 x1326001 x1326002 x1326003 x1326004 x1326005 x1327000 x1327001 x1327002 x1327003 x1327004 x1327005 x1335000 x1335001 x1335002 x1335003 x1335004 x1335005 x1342000 x1342001 x1342002 x1342003 x1342004 x1342005))) else (if x0 ≥ 21 then (whittlelaw2_ValueFaults.j1 k x0 (decide (x0 ≤ 26)) x1326000 x1326001 x1326002 x1326003 x1326004 x1326005 x1327000 x1327001 x1327002 x1327003 x1327004 x1327005 x1335000 x1335001 x1335002 x1335003 x1335004 x1335005 x1342000 x1342001 x1342002 x1342003 x1342004 x1342005) else (whittlelaw2_ValueFaults.j1 k x0 false x1326000 x1326001 x1326002 x1326003 x1326004 x1326005 x1327000 x1327001 x1327002 x1327003 x1327004 x1327005 x1335000 x1335001 x1335002 x1335003 x1335004 x1335005 x1342000 x1342001 x1342002 x1342003 x1342004 x1342005)))
def whittlelaw2_ValueFaults.j1 : Nat → Int → Bool → Int → Int → Int → ByteArray → Bool → Int → Int → Int → Int → ByteArray → Bool → Int → Int → Int → Int → ByteArray → Bool → Int → Int → Int → Int → ByteArray → Bool → Int → Option (Bool)
 | 0, _, _, _, _, _, _, _, _, _, _, _, _, _, _, _, _, _, _, _, _, _, _, _, _, _, _ => none
 | k + 1, x0, x9, x1326000, x1326001, x1326002, x1326003, x1326004, x1326005, x1327000, x1327001, x1327002, x1327003, x1327004, x1327005, x1335000, x1335001, x1335002, x1335003, x1335004, x1335005, x1342000, x1342001, x1342002, x1342003, x1342004, x1342005 => if x9 = true then ((value_Fault.f 2).bind fun bt1356 => ((value_Right.f k x1326000 x1326001 x1326002 x1326003 x1326004 x1326005).bind fun t1363 => (if t1363 = true then (if x1326000 = 4 then (some (x1335000 == x1326000 && ((x1335001 == x1326001 && (x1335002 == x1326002)) && (x1335003.toList == x1326003.toList && (x1335004 == x1326004 && (x1335005 == x1326005)))))) else ((value_Right.f k x1327000 x1327001 x1327002 x1327003 x1327004 x1327005).bind fun t1364 => (if t1364 = true then (if x1327000 = 4 then (some (x1335000 == x1327000 && ((x1335001 == x1327001 && (x1335002 == x1327002)) && (x1335003.toList == x1327003.toList && (x1335004 == x1327004 && (x1335005 == x1327005)))))) else (some true)) else (some (x1335000 == bt1356.1 && ((x1335001 == bt1356.2.1 && (x1335002 == bt1356.2.2.1)) && (x1335003.toList == bt1356.2.2.2.1.toList && (x1335004 == bt1356.2.2.2.2.1 && (x1335005 == bt1356.2.2.2.2.2))))))))) else (some (x1335000 == bt1356.1 && ((x1335001 == bt1356.2.1 && (x1335002 == bt1356.2.2.1)) && (x1335003.toList == bt1356.2.2.2.1.toList && (x1335004 == bt1356.2.2.2.2.1 && (x1335005 == bt1356.2.2.2.2.2))))))))) else ((value_Fault.f 2).bind fun bt1344 => ((value_Bin.f k x0 x1326000 x1326001 x1326002 x1326003 x1326004 x1326005 x1327000 x1327001 x1327002 x1327003 x1327004 x1327005).bind fun bt1350 => (if (bt1350.1 == bt1344.1 && ((bt1350.2.1 == bt1344.2.1 && (bt1350.2.2.1 == bt1344.2.2.1)) && (bt1350.2.2.2.1.toList == bt1344.2.2.2.1.toList && (bt1350.2.2.2.2.1 == bt1344.2.2.2.2.1 && (bt1350.2.2.2.2.2 == bt1344.2.2.2.2.2))))) = true then (if x0 = 1 then (some true) else (if x0 = 2 then (some true) else (if x0 = 3 then (some true) else (some (x1342000 == bt1344.1 && ((x1342001 == bt1344.2.1 && (x1342002 == bt1344.2.2.1)) && (x1342003.toList == bt1344.2.2.2.1.toList && (x1342004 == bt1344.2.2.2.2.1 && (x1342005 == bt1344.2.2.2.2.2))))))))) else (some false))))
end
def whittlelaw2_ValueFaults.f (k : Nat) (a0 : Int) (a1_0 : Int) (a1_1 : Int) (a1_2 : Int) (a1_3 : ByteArray) (a1_4 : Bool) (a1_5 : Int) (a2_0 : Int) (a2_1 : Int) (a2_2 : Int) (a2_3 : ByteArray) (a2_4 : Bool) (a2_5 : Int) : Option (Bool) := (whittlelaw2_able.f k).bind fun t1327 => (if t1327 = true then ((value_Bin.f k a0 a1_0 a1_1 a1_2 a1_3 a1_4 a1_5 a2_0 a2_1 a2_2 a2_3 a2_4 a2_5).bind fun bt1328 => ((value_Un.f k a0 a1_0 a1_1 a1_2 a1_3 a1_4 a1_5).bind fun bt1335 => ((value_Right.f k bt1328.1 bt1328.2.1 bt1328.2.2.1 bt1328.2.2.2.1 bt1328.2.2.2.2.1 bt1328.2.2.2.2.2).bind fun t1342 => (if t1342 = true then ((value_Right.f k bt1335.1 bt1335.2.1 bt1335.2.2.1 bt1335.2.2.2.1 bt1335.2.2.2.2.1 bt1335.2.2.2.2.2).bind fun t1343 => (whittlelaw2_ValueFaults.j0 k a0 (!t1343) a1_0 a1_1 a1_2 a1_3 a1_4 a1_5 a2_0 a2_1 a2_2 a2_3 a2_4 a2_5 bt1328.1 bt1328.2.1 bt1328.2.2.1 bt1328.2.2.2.1 bt1328.2.2.2.2.1 bt1328.2.2.2.2.2 bt1335.1 bt1335.2.1 bt1335.2.2.1 bt1335.2.2.2.1 bt1335.2.2.2.2.1 bt1335.2.2.2.2.2)) else (whittlelaw2_ValueFaults.j0 k a0 true a1_0 a1_1 a1_2 a1_3 a1_4 a1_5 a2_0 a2_1 a2_2 a2_3 a2_4 a2_5 bt1328.1 bt1328.2.1 bt1328.2.2.1 bt1328.2.2.2.1 bt1328.2.2.2.2.1 bt1328.2.2.2.2.2 bt1335.1 bt1335.2.1 bt1335.2.2.1 bt1335.2.2.2.1 bt1335.2.2.2.2.1 bt1335.2.2.2.2.2))))) else (some false))
theorem whittlelaw2_ValueFaults.mono_l : ∀ k, (∀ y0 y1 y2 y3 y4 y5 y6 y7 y8 y9 y10 y11 y12 y13 y14 y15 y16 y17 y18 y19 y20 y21 y22 y23 y24 y25, LeO (whittlelaw2_ValueFaults.j0 k y0 y1 y2 y3 y4 y5 y6 y7 y8 y9 y10 y11 y12 y13 y14 y15 y16 y17 y18 y19 y20 y21 y22 y23 y24 y25) (whittlelaw2_ValueFaults.j0 (k + 1) y0 y1 y2 y3 y4 y5 y6 y7 y8 y9 y10 y11 y12 y13 y14 y15 y16 y17 y18 y19 y20 y21 y22 y23 y24 y25)) ∧ (∀ y0 y1 y2 y3 y4 y5 y6 y7 y8 y9 y10 y11 y12 y13 y14 y15 y16 y17 y18 y19 y20 y21 y22 y23 y24 y25, LeO (whittlelaw2_ValueFaults.j1 k y0 y1 y2 y3 y4 y5 y6 y7 y8 y9 y10 y11 y12 y13 y14 y15 y16 y17 y18 y19 y20 y21 y22 y23 y24 y25) (whittlelaw2_ValueFaults.j1 (k + 1) y0 y1 y2 y3 y4 y5 y6 y7 y8 y9 y10 y11 y12 y13 y14 y15 y16 y17 y18 y19 y20 y21 y22 y23 y24 y25))
 | 0 => ⟨fun _ _ _ _ _ _ _ _ _ _ _ _ _ _ _ _ _ _ _ _ _ _ _ _ _ _ r h => by simp [whittlelaw2_ValueFaults.j0] at h, fun _ _ _ _ _ _ _ _ _ _ _ _ _ _ _ _ _ _ _ _ _ _ _ _ _ _ r h => by simp [whittlelaw2_ValueFaults.j1] at h⟩
 | k + 1 => by
  obtain ⟨ih0, ih1⟩ := whittlelaw2_ValueFaults.mono_l k
  refine ⟨?_, ?_⟩
  ·intro y0 y1 y2 y3 y4 y5 y6 y7 y8 y9 y10 y11 y12 y13 y14 y15 y16 y17 y18 y19 y20 y21 y22 y23 y24 y25
   unfold whittlelaw2_ValueFaults.j0
   repeat' first
   | (with_reducible exact ih0 _ _ _ _ _ _ _ _ _ _ _ _ _ _ _ _ _ _ _ _ _ _ _ _ _ _)
   | (with_reducible exact ih1 _ _ _ _ _ _ _ _ _ _ _ _ _ _ _ _ _ _ _ _ _ _ _ _ _ _)
   | (with_reducible exact value_Bin.mono _ _ _ _ _ _ _ _ _ _ _ _ _ _)
   | (with_reducible exact value_Right.mono _ _ _ _ _ _ _)
   | (with_reducible exact value_Un.mono _ _ _ _ _ _ _ _)
   | (with_reducible exact whittlelaw2_able.mono _)
   | (with_reducible exact LeO.refl _)
   | (with_reducible exact LeO.none _)
   | (with_reducible refine LeO.ite ?_ ?_)
   | (with_reducible refine LeO.bind ?_ (fun _ => ?_))
   | exact ih0 _ _ _ _ _ _ _ _ _ _ _ _ _ _ _ _ _ _ _ _ _ _ _ _ _ _
   | exact ih1 _ _ _ _ _ _ _ _ _ _ _ _ _ _ _ _ _ _ _ _ _ _ _ _ _ _
   | exact value_Bin.mono _ _ _ _ _ _ _ _ _ _ _ _ _ _
   | exact value_Right.mono _ _ _ _ _ _ _
   | exact value_Un.mono _ _ _ _ _ _ _ _
   | exact whittlelaw2_able.mono _
   | exact LeO.none _
   | refine LeO.ite ?_ ?_
   | refine LeO.bind ?_ (fun _ => ?_)
  ·intro y0 y1 y2 y3 y4 y5 y6 y7 y8 y9 y10 y11 y12 y13 y14 y15 y16 y17 y18 y19 y20 y21 y22 y23 y24 y25
   unfold whittlelaw2_ValueFaults.j1
   repeat' first
   | (with_reducible exact ih0 _ _ _ _ _ _ _ _ _ _ _ _ _ _ _ _ _ _ _ _ _ _ _ _ _ _)
   | (with_reducible exact ih1 _ _ _ _ _ _ _ _ _ _ _ _ _ _ _ _ _ _ _ _ _ _ _ _ _ _)
   | (with_reducible exact value_Bin.mono _ _ _ _ _ _ _ _ _ _ _ _ _ _)
   | (with_reducible exact value_Right.mono _ _ _ _ _ _ _)
   | (with_reducible exact value_Un.mono _ _ _ _ _ _ _ _)
   | (with_reducible exact whittlelaw2_able.mono _)
   | (with_reducible exact LeO.refl _)
   | (with_reducible exact LeO.none _)
   | (with_reducible refine LeO.ite ?_ ?_)
   | (with_reducible refine LeO.bind ?_ (fun _ => ?_))
   | exact ih0 _ _ _ _ _ _ _ _ _ _ _ _ _ _ _ _ _ _ _ _ _ _ _ _ _ _
   | exact ih1 _ _ _ _ _ _ _ _ _ _ _ _ _ _ _ _ _ _ _ _ _ _ _ _ _ _
   | exact value_Bin.mono _ _ _ _ _ _ _ _ _ _ _ _ _ _
   | exact value_Right.mono _ _ _ _ _ _ _
   | exact value_Un.mono _ _ _ _ _ _ _ _
   | exact whittlelaw2_able.mono _
   | exact LeO.none _
   | refine LeO.ite ?_ ?_
   | refine LeO.bind ?_ (fun _ => ?_)
theorem whittlelaw2_ValueFaults.mono : ∀ a0 a1 a2 a3 a4 a5 a6 a7 a8 a9 a10 a11 a12 k, LeO (whittlelaw2_ValueFaults.f k a0 a1 a2 a3 a4 a5 a6 a7 a8 a9 a10 a11 a12) (whittlelaw2_ValueFaults.f (k + 1) a0 a1 a2 a3 a4 a5 a6 a7 a8 a9 a10 a11 a12) := by
 intro a0 a1 a2 a3 a4 a5 a6 a7 a8 a9 a10 a11 a12 k
 obtain ⟨ih0, ih1⟩ := whittlelaw2_ValueFaults.mono_l k
 unfold whittlelaw2_ValueFaults.f
 repeat' first
   | (with_reducible exact ih0 _ _ _ _ _ _ _ _ _ _ _ _ _ _ _ _ _ _ _ _ _ _ _ _ _ _)
   | (with_reducible exact ih1 _ _ _ _ _ _ _ _ _ _ _ _ _ _ _ _ _ _ _ _ _ _ _ _ _ _)
   | (with_reducible exact value_Bin.mono _ _ _ _ _ _ _ _ _ _ _ _ _ _)
   | (with_reducible exact value_Right.mono _ _ _ _ _ _ _)
   | (with_reducible exact value_Un.mono _ _ _ _ _ _ _ _)
   | (with_reducible exact whittlelaw2_able.mono _)
   | (with_reducible exact LeO.refl _)
   | (with_reducible exact LeO.none _)
   | (with_reducible refine LeO.ite ?_ ?_)
   | (with_reducible refine LeO.bind ?_ (fun _ => ?_))
   | exact ih0 _ _ _ _ _ _ _ _ _ _ _ _ _ _ _ _ _ _ _ _ _ _ _ _ _ _
   | exact ih1 _ _ _ _ _ _ _ _ _ _ _ _ _ _ _ _ _ _ _ _ _ _ _ _ _ _
   | exact value_Bin.mono _ _ _ _ _ _ _ _ _ _ _ _ _ _
   | exact value_Right.mono _ _ _ _ _ _ _
   | exact value_Un.mono _ _ _ _ _ _ _ _
   | exact whittlelaw2_able.mono _
   | exact LeO.none _
   | refine LeO.ite ?_ ?_
   | refine LeO.bind ?_ (fun _ => ?_)
def whittlelaw2_ValueFaults.T10 : Bool × List (List Nat × List Nat) := (true, [([], []), ([], []), ([], []), ([0, 1, 2], [0, 1, 2]), ([], []), ([3, 4], [3, 4]), ([5, 3], [5]), ([6], [6]), ([7, 6], [6, 7]), ([8, 6, 6], [6, 8]), ([9], [9]), ([10, 9], [9, 10]), ([9, 11, 6], [6, 9, 11]), ([12, 9, 6], [6, 12]), ([13], [13]), ([14, 13], [13, 14]), ([13, 15, 6], [6, 13, 15]), ([16, 13, 6], [6, 16]), ([17], [17]), ([17], [17]), ([18, 19, 17], [17, 18, 19]), ([17, 20, 6], [6, 17, 20]), ([6, 21], [6, 21]), ([22, 17, 0, 1, 2, 3, 4, 5, 6, 7, 8, 9, 10, 11, 12, 13, 14, 15, 16, 17, 18, 19, 20, 21, 22], [22])])
def whittlelaw2_ValueFaults.B10 : List Nat := [0, 0, 0, 7, 0, 31, 63, 127, 255, 511, 1023, 2047, 4095, 8191, 16383, 32767, 65535, 131071, 262143, 262143, 1048575, 2097151, 4194303, 8388607]
theorem whittlelaw2_ValueFaults.tab10 : rtab .any (opsOf Tryd.f13 10) = whittlelaw2_ValueFaults.T10 := by kernel_rfl
theorem whittlelaw2_ValueFaults.bits10 : waitsOk whittlelaw2_ValueFaults.T10.2 whittlelaw2_ValueFaults.B10 = true := by kernel_rfl
set_option maxHeartbeats 8000000 in
set_option maxRecDepth 100000 in
theorem whittlelaw2_ValueFaults.calls (k : Nat) (a0 : Int) (a1_0 : Int) (a1_1 : Int) (a1_2 : Int) (a1_3 : ByteArray) (a1_4 : Bool) (a1_5 : Int) (a2_0 : Int) (a2_1 : Int) (a2_2 : Int) (a2_3 : ByteArray) (a2_4 : Bool) (a2_5 : Int) (r : Bool) (w : World) (HT0 : TabAt w) (hr0 : r = true) (h : whittlelaw2_ValueFaults.f k a0 a1_0 a1_1 a1_2 a1_3 a1_4 a1_5 a2_0 a2_1 a2_2 a2_3 a2_4 a2_5 = some r) :
  Calls Tryd.prog 13 #[.int .i64 a0, .agg #[.int .i64 a1_0, .int .i64 a1_1, .int .i64 a1_2, .string a1_3, .bool a1_4, .int .i64 a1_5], .agg #[.int .i64 a2_0, .int .i64 a2_1, .int .i64 a2_2, .string a2_3, .bool a2_4, .int .i64 a2_5]] w fun e w' => e = .returned (.bool r) ∧ Below w.heap.size w w' := by
 have hu25 := Tryd.underlying25
 have HT := Aside0.mk HT0
 clear HT0
 have HR := Aside0.mk hr0
 clear hr0
 have BX := Bx.start w
 have H : ((whittlelaw2_able.f k).bind fun t1327 => (if t1327 = true then ((value_Bin.f k a0 a1_0 a1_1 a1_2 a1_3 a1_4 a1_5 a2_0 a2_1 a2_2 a2_3 a2_4 a2_5).bind fun bt1328 => ((value_Un.f k a0 a1_0 a1_1 a1_2 a1_3 a1_4 a1_5).bind fun bt1335 => ((value_Right.f k bt1328.1 bt1328.2.1 bt1328.2.2.1 bt1328.2.2.2.1 bt1328.2.2.2.2.1 bt1328.2.2.2.2.2).bind fun t1342 => (if t1342 = true then ((value_Right.f k bt1335.1 bt1335.2.1 bt1335.2.2.1 bt1335.2.2.2.1 bt1335.2.2.2.2.1 bt1335.2.2.2.2.2).bind fun t1343 => (whittlelaw2_ValueFaults.j0 k a0 (!t1343) a1_0 a1_1 a1_2 a1_3 a1_4 a1_5 a2_0 a2_1 a2_2 a2_3 a2_4 a2_5 bt1328.1 bt1328.2.1 bt1328.2.2.1 bt1328.2.2.2.1 bt1328.2.2.2.2.1 bt1328.2.2.2.2.2 bt1335.1 bt1335.2.1 bt1335.2.2.1 bt1335.2.2.2.1 bt1335.2.2.2.2.1 bt1335.2.2.2.2.2)) else (whittlelaw2_ValueFaults.j0 k a0 true a1_0 a1_1 a1_2 a1_3 a1_4 a1_5 a2_0 a2_1 a2_2 a2_3 a2_4 a2_5 bt1328.1 bt1328.2.1 bt1328.2.2.1 bt1328.2.2.2.1 bt1328.2.2.2.2.1 bt1328.2.2.2.2.2 bt1335.1 bt1335.2.1 bt1335.2.2.1 bt1335.2.2.2.1 bt1335.2.2.2.2.1 bt1335.2.2.2.2.2))))) else (some false))) = some r := h
 clear h
 replace H := Option.bind_eq_some_iff.mp H
 obtain ⟨t1327, A40, H⟩ := H
 replace H : (if t1327 = true then ((value_Bin.f k a0 a1_0 a1_1 a1_2 a1_3 a1_4 a1_5 a2_0 a2_1 a2_2 a2_3 a2_4 a2_5).bind fun bt1328 => ((value_Un.f k a0 a1_0 a1_1 a1_2 a1_3 a1_4 a1_5).bind fun bt1335 => ((value_Right.f k bt1328.1 bt1328.2.1 bt1328.2.2.1 bt1328.2.2.2.1 bt1328.2.2.2.2.1 bt1328.2.2.2.2.2).bind fun t1342 => (if t1342 = true then ((value_Right.f k bt1335.1 bt1335.2.1 bt1335.2.2.1 bt1335.2.2.2.1 bt1335.2.2.2.2.1 bt1335.2.2.2.2.2).bind fun t1343 => (whittlelaw2_ValueFaults.j0 k a0 (!t1343) a1_0 a1_1 a1_2 a1_3 a1_4 a1_5 a2_0 a2_1 a2_2 a2_3 a2_4 a2_5 bt1328.1 bt1328.2.1 bt1328.2.2.1 bt1328.2.2.2.1 bt1328.2.2.2.2.1 bt1328.2.2.2.2.2 bt1335.1 bt1335.2.1 bt1335.2.2.1 bt1335.2.2.2.1 bt1335.2.2.2.2.1 bt1335.2.2.2.2.2)) else (whittlelaw2_ValueFaults.j0 k a0 true a1_0 a1_1 a1_2 a1_3 a1_4 a1_5 a2_0 a2_1 a2_2 a2_3 a2_4 a2_5 bt1328.1 bt1328.2.1 bt1328.2.2.1 bt1328.2.2.2.1 bt1328.2.2.2.2.1 bt1328.2.2.2.2.2 bt1335.1 bt1335.2.1 bt1335.2.2.1 bt1335.2.2.2.1 bt1335.2.2.2.2.1 bt1335.2.2.2.2.2))))) else (some false)) = some r := H
 have A4 := Aside0.mk A40
 clear A40
 by_cases c5 : t1327 = true
 ·subst c5
  have H1 : ((value_Bin.f k a0 a1_0 a1_1 a1_2 a1_3 a1_4 a1_5 a2_0 a2_1 a2_2 a2_3 a2_4 a2_5).bind fun bt1328 => ((value_Un.f k a0 a1_0 a1_1 a1_2 a1_3 a1_4 a1_5).bind fun bt1335 => ((value_Right.f k bt1328.1 bt1328.2.1 bt1328.2.2.1 bt1328.2.2.2.1 bt1328.2.2.2.2.1 bt1328.2.2.2.2.2).bind fun t1342 => (if t1342 = true then ((value_Right.f k bt1335.1 bt1335.2.1 bt1335.2.2.1 bt1335.2.2.2.1 bt1335.2.2.2.2.1 bt1335.2.2.2.2.2).bind fun t1343 => (whittlelaw2_ValueFaults.j0 k a0 (!t1343) a1_0 a1_1 a1_2 a1_3 a1_4 a1_5 a2_0 a2_1 a2_2 a2_3 a2_4 a2_5 bt1328.1 bt1328.2.1 bt1328.2.2.1 bt1328.2.2.2.1 bt1328.2.2.2.2.1 bt1328.2.2.2.2.2 bt1335.1 bt1335.2.1 bt1335.2.2.1 bt1335.2.2.2.1 bt1335.2.2.2.2.1 bt1335.2.2.2.2.2)) else (whittlelaw2_ValueFaults.j0 k a0 true a1_0 a1_1 a1_2 a1_3 a1_4 a1_5 a2_0 a2_1 a2_2 a2_3 a2_4 a2_5 bt1328.1 bt1328.2.1 bt1328.2.2.1 bt1328.2.2.2.1 bt1328.2.2.2.2.1 bt1328.2.2.2.2.2 bt1335.1 bt1335.2.1 bt1335.2.2.1 bt1335.2.2.2.1 bt1335.2.2.2.2.1 bt1335.2.2.2.2.2))))) = some r := by rw [if_pos rfl] at H; exact H
  clear H
  have H := H1
  clear H1
  replace H := Option.bind_eq_some_iff.mp H
  obtain ⟨⟨t1328, t1329, t1330, t1331, t1332, t1333⟩, A60, H⟩ := H
  have A6 := Aside0.mk A60
  clear A60
  replace H := Option.bind_eq_some_iff.mp H
  obtain ⟨⟨t1335, t1336, t1337, t1338, t1339, t1340⟩, A70, H⟩ := H
  replace H : ((value_Right.f k t1328 t1329 t1330 t1331 t1332 t1333).bind fun t1342 => (if t1342 = true then ((value_Right.f k t1335 t1336 t1337 t1338 t1339 t1340).bind fun t1343 => (whittlelaw2_ValueFaults.j0 k a0 (!t1343) a1_0 a1_1 a1_2 a1_3 a1_4 a1_5 a2_0 a2_1 a2_2 a2_3 a2_4 a2_5 t1328 t1329 t1330 t1331 t1332 t1333 t1335 t1336 t1337 t1338 t1339 t1340)) else (whittlelaw2_ValueFaults.j0 k a0 true a1_0 a1_1 a1_2 a1_3 a1_4 a1_5 a2_0 a2_1 a2_2 a2_3 a2_4 a2_5 t1328 t1329 t1330 t1331 t1332 t1333 t1335 t1336 t1337 t1338 t1339 t1340))) = some r := H
  have A7 := Aside0.mk A70
  clear A70
  have HC8 := Aside0.mk H
  clear H
  go_enter Tryd.func13, Tryd.ntmps13
  go_upto_region 5 with (first | ((with_reducible refine gate_dst (N := 4) rfl ?_); refine bxe 4 #[.int .i64 a1_0, .int .i64 a1_1, .int .i64 a1_2, .string a1_3, .bool a1_4, .int .i64 a1_5] 25 rfl rfl gr ?_; clear BX; intro gb1325 w9 GE1325 BX) | ((with_reducible refine gate_dst (N := 5) rfl ?_); refine bxe 5 #[.int .i64 a2_0, .int .i64 a2_1, .int .i64 a2_2, .string a2_3, .bool a2_4, .int .i64 a2_5] 25 rfl rfl gr ?_; clear BX; intro gb1326 w10 GE1326 BX) | ((with_reducible refine gate_callee (f := 15) rfl ?_); refine goesL_ (some 11) rfl rfl Tryd.func15 kr rfl #[] rfl ga ?_; (with_reducible refine (whittlelaw2_able.calls k  true _ ?side1 A4.out).mono ?_); (case side1 => exact HT.out.on bx_bl); rintro e w11 ⟨rfl, hb⟩; refine ⟨_, rfl, ?_⟩; replace BX := bx_call hb; clear hb) | ((with_reducible refine gate_callee (f := 31) rfl ?_); refine goesL_ (some 16) rfl rfl Tryd.func31 kr rfl #[.int .i64 a0, .agg #[.int .i64 a1_0, .int .i64 a1_1, .int .i64 a1_2, .string a1_3, .bool a1_4, .int .i64 a1_5], .agg #[.int .i64 a2_0, .int .i64 a2_1, .int .i64 a2_2, .string a2_3, .bool a2_4, .int .i64 a2_5]] rfl ga ?_; (with_reducible refine (value_Bin.calls k a0 a1_0 a1_1 a1_2 a1_3 a1_4 a1_5 a2_0 a2_1 a2_2 a2_3 a2_4 a2_5 t1328 t1329 t1330 t1331 t1332 t1333 _ ?side1 A6.out).mono ?_); (case side1 => exact HT.out.on bx_bl); rintro e w15 ⟨rfl, hb⟩; refine ⟨_, rfl, ?_⟩; replace BX := bx_call hb; clear hb) | ((with_reducible refine gate_dst (N := 7) rfl ?_); refine bxe 7 #[.int .i64 0, .int .i64 0, .int .i64 0, .string (⟨#[]⟩ : ByteArray), .bool false, .int .i64 0] 25 rfl rfl gr ?_; clear BX; intro gb1334 w16 GE1334 BX) | ((with_reducible refine gate_callee (f := 43) rfl ?_); refine goesL_ (some 19) rfl rfl Tryd.func43 kr rfl #[.int .i64 a0, .agg #[.int .i64 a1_0, .int .i64 a1_1, .int .i64 a1_2, .string a1_3, .bool a1_4, .int .i64 a1_5]] rfl ga ?_; (with_reducible refine (value_Un.calls k a0 a1_0 a1_1 a1_2 a1_3 a1_4 a1_5 t1335 t1336 t1337 t1338 t1339 t1340 _ A7.out).mono ?_); rintro e w21 ⟨rfl, hb⟩; refine ⟨_, rfl, ?_⟩; replace BX := bx_call hb; clear hb) | ((with_reducible refine gate_dst (N := 8) rfl ?_); refine bxe 8 #[.int .i64 0, .int .i64 0, .int .i64 0, .string (⟨#[]⟩ : ByteArray), .bool false, .int .i64 0] 25 rfl rfl gr ?_; clear BX; intro gb1341 w22 GE1341 BX))
  (try simp only [Act.put, List.setIfInBounds_toArray, List.set_cons_zero, List.set_cons_succ])
  go_cut [27] (fun v27 wc => ∃ (kq : Nat) (x27_7 : Bool), v27 = .bool x27_7 ∧ Aside0 (whittlelaw2_ValueFaults.j0 kq a0 x27_7 a1_0 a1_1 a1_2 a1_3 a1_4 a1_5 a2_0 a2_1 a2_2 a2_3 a2_4 a2_5 t1328 t1329 t1330 t1331 t1332 t1333 t1335 t1336 t1337 t1338 t1339 t1340 = some r) ∧ Aside0 (kq ≤ k) ∧ Bx w wc [(gb1341, 25, #[.int .i64 t1335, .int .i64 t1336, .int .i64 t1337, .string t1338, .bool t1339, .int .i64 t1340]), (gb1334, 25, #[.int .i64 t1328, .int .i64 t1329, .int .i64 t1330, .string t1331, .bool t1332, .int .i64 t1333]), (gb1326, 25, #[.int .i64 a2_0, .int .i64 a2_1, .int .i64 a2_2, .string a2_3, .bool a2_4, .int .i64 a2_5]), (gb1325, 25, #[.int .i64 a1_0, .int .i64 a1_1, .int .i64 a1_2, .string a1_3, .bool a1_4, .int .i64 a1_5])])
  case first =>
   have H := HC8.out
   clear HC8
   replace H := Option.bind_eq_some_iff.mp H
   obtain ⟨t1342, A270, H⟩ := H
   replace H : (if t1342 = true then ((value_Right.f k t1335 t1336 t1337 t1338 t1339 t1340).bind fun t1343 => (whittlelaw2_ValueFaults.j0 k a0 (!t1343) a1_0 a1_1 a1_2 a1_3 a1_4 a1_5 a2_0 a2_1 a2_2 a2_3 a2_4 a2_5 t1328 t1329 t1330 t1331 t1332 t1333 t1335 t1336 t1337 t1338 t1339 t1340)) else (whittlelaw2_ValueFaults.j0 k a0 true a1_0 a1_1 a1_2 a1_3 a1_4 a1_5 a2_0 a2_1 a2_2 a2_3 a2_4 a2_5 t1328 t1329 t1330 t1331 t1332 t1333 t1335 t1336 t1337 t1338 t1339 t1340)) = some r := H
   have A27 := Aside0.mk A270
   clear A270
   by_cases c28 : t1342 = true
   ·subst c28
    have H1 : ((value_Right.f k t1335 t1336 t1337 t1338 t1339 t1340).bind fun t1343 => (whittlelaw2_ValueFaults.j0 k a0 (!t1343) a1_0 a1_1 a1_2 a1_3 a1_4 a1_5 a2_0 a2_1 a2_2 a2_3 a2_4 a2_5 t1328 t1329 t1330 t1331 t1332 t1333 t1335 t1336 t1337 t1338 t1339 t1340)) = some r := by rw [if_pos rfl] at H; exact H
    clear H
    have H := H1
    clear H1
    replace H := Option.bind_eq_some_iff.mp H
    obtain ⟨t1343, A290, H⟩ := H
    replace H : (whittlelaw2_ValueFaults.j0 k a0 (!t1343) a1_0 a1_1 a1_2 a1_3 a1_4 a1_5 a2_0 a2_1 a2_2 a2_3 a2_4 a2_5 t1328 t1329 t1330 t1331 t1332 t1333 t1335 t1336 t1337 t1338 t1339 t1340) = some r := H
    have A29 := Aside0.mk A290
    clear A290
    have H' := Aside0.mk H
    clear H
    go_wp2_with (first | ((with_reducible refine gate_callee (f := 16) rfl ?_); refine goesL_ (some 21) rfl rfl Tryd.func16 kr rfl #[.agg #[.int .i64 t1328, .int .i64 t1329, .int .i64 t1330, .string t1331, .bool t1332, .int .i64 t1333]] rfl ga ?_; (with_reducible refine (value_Right.calls k t1328 t1329 t1330 t1331 t1332 t1333 true _ A27.out).mono ?_); rintro e w34 ⟨rfl, hb⟩; refine ⟨_, rfl, ?_⟩; replace BX := bx_call hb; clear hb) | (go_at_call 16; (with_reducible refine (value_Right.calls k t1335 t1336 t1337 t1338 t1339 t1340 t1343 _ A29.out).mono ?_); rintro e w38 ⟨rfl, hb⟩; replace BX := bx_call hb; clear hb))
    go_meet
    case rel => exact ⟨_, (!t1343), er, H', ⟨by first | omega | exact Nat.le_refl _⟩, bxs⟩
   ·replace c28 := Bool.eq_false_iff.mpr c28
    subst c28
    have H1 : (whittlelaw2_ValueFaults.j0 k a0 true a1_0 a1_1 a1_2 a1_3 a1_4 a1_5 a2_0 a2_1 a2_2 a2_3 a2_4 a2_5 t1328 t1329 t1330 t1331 t1332 t1333 t1335 t1336 t1337 t1338 t1339 t1340) = some r := by rw [if_neg (show ¬ (false = true) by decide)] at H; exact H
    clear H
    have H := H1
    clear H1
    exact (no_meet (g := fun k_ => whittlelaw2_ValueFaults.j0 k_ a0 true a1_0 a1_1 a1_2 a1_3 a1_4 a1_5 a2_0 a2_1 a2_2 a2_3 a2_4 a2_5 t1328 t1329 t1330 t1331 t1332 t1333 t1335 t1336 t1337 t1338 t1339 t1340) HR.out H (by simp only [whittlelaw2_ValueFaults.j0]) (fun k_ => by simp only [whittlelaw2_ValueFaults.j0]; first | exact if_pos rfl | rfl | simp)).elim
  case rest =>
   clear HC8
   try clear c1
   try clear c2
   try clear p2
   try clear c3
   try clear c4
   try clear c5
   try clear c12
   try clear c13
   try clear c15
   try clear c16
   try clear c17
   try clear c18
   try clear c23
   try clear c24
   try clear c25
   try clear c28
   try clear c30
   try clear c31
   try clear c32
   try clear c35
   try clear c36
   obtain ⟨kq, x27_7, rfl, HA, HJ7, BX⟩ := hcut
   cases kq with
   | zero => exact absurd HA.out (by simp [whittlelaw2_ValueFaults.j0])
   | succ kj7 =>
    have H := HA.out
    clear HA
    simp only [whittlelaw2_ValueFaults.j0] at H
    by_cases c39 : x27_7 = true
    ·subst c39
     have H1 : (some false) = some r := by rw [if_pos rfl] at H; exact H
     clear H
     have H := H1
     clear H1
     exact absurd (Option.some.inj H) (by rw [HR.out]; decide)
    ·replace c39 := Bool.eq_false_iff.mpr c39
     subst c39
     have H1 : (if a0 ≥ 11 then (if a0 ≤ 16 then (whittlelaw2_ValueFaults.j1 kj7 a0 true a1_0 a1_1 a1_2 a1_3 a1_4 a1_5 a2_0 a2_1 a2_2 a2_3 a2_4 a2_5 t1328 t1329 t1330 t1331 t1332 t1333 t1335 t1336 t1337 t1338 t1339 t1340) else (if a0 ≥ 21 then (whittlelaw2_ValueFaults.j1 kj7 a0 (decide (a0 ≤ 26)) a1_0 a1_1 a1_2 a1_3 a1_4 a1_5 a2_0 a2_1 a2_2 a2_3 a2_4 a2_5 t1328 t1329 t1330 t1331 t1332 t1333 t1335 t1336 t1337 t1338 t1339 t1340) else (whittlelaw2_ValueFaults.j1 kj7 a0 false a1_0 a1_1 a1_2 a1_3 a1_4 a1_5 a2_0 a2_1 a2_2 a2_3 a2_4 a2_5 t1328 t1329 t1330 t1331 t1332 t1333 t1335 t1336 t1337 t1338 t1339 t1340))) else (if a0 ≥ 21 then (whittlelaw2_ValueFaults.j1 kj7 a0 (decide (a0 ≤ 26)) a1_0 a1_1 a1_2 a1_3 a1_4 a1_5 a2_0 a2_1 a2_2 a2_3 a2_4 a2_5 t1328 t1329 t1330 t1331 t1332 t1333 t1335 t1336 t1337 t1338 t1339 t1340) else (whittlelaw2_ValueFaults.j1 kj7 a0 false a1_0 a1_1 a1_2 a1_3 a1_4 a1_5 a2_0 a2_1 a2_2 a2_3 a2_4 a2_5 t1328 t1329 t1330 t1331 t1332 t1333 t1335 t1336 t1337 t1338 t1339 t1340))) = some r := by rw [if_neg (show ¬ (false = true) by decide)] at H; exact H
     clear H
     have H := H1
     clear H1
     have HC40 := Aside0.mk H
     clear H
     go_upto_region 7 with (fail)
     go_cut [9] (fun v9 wc => ∃ (kq : Nat) (x9_39 : Bool), v9 = .bool x9_39 ∧ Aside0 (whittlelaw2_ValueFaults.j1 kq a0 x9_39 a1_0 a1_1 a1_2 a1_3 a1_4 a1_5 a2_0 a2_1 a2_2 a2_3 a2_4 a2_5 t1328 t1329 t1330 t1331 t1332 t1333 t1335 t1336 t1337 t1338 t1339 t1340 = some r) ∧ Aside0 (kq ≤ kj7) ∧ Bx w wc [(gb1341, 25, #[.int .i64 t1335, .int .i64 t1336, .int .i64 t1337, .string t1338, .bool t1339, .int .i64 t1340]), (gb1334, 25, #[.int .i64 t1328, .int .i64 t1329, .int .i64 t1330, .string t1331, .bool t1332, .int .i64 t1333]), (gb1326, 25, #[.int .i64 a2_0, .int .i64 a2_1, .int .i64 a2_2, .string a2_3, .bool a2_4, .int .i64 a2_5]), (gb1325, 25, #[.int .i64 a1_0, .int .i64 a1_1, .int .i64 a1_2, .string a1_3, .bool a1_4, .int .i64 a1_5])])
     case first =>
      have H := HC40.out
      clear HC40
      by_cases c41 : a0 ≥ 11
      ·rw [if_pos c41] at H
       have c41b0 : decide (11 ≤ a0) = true := decide_eq_true c41
       clear c41
       (first | rw [c41b0] | (simp only [i64_w, i32_w]; rw [c41b0]) | skip)
       by_cases c42 : a0 ≤ 16
       ·rw [if_pos c42] at H
        have c42b0 : decide (a0 ≤ 16) = true := decide_eq_true c42
        clear c42
        have H' := Aside0.mk H
        clear H
        go_wp2
        go_meet
        case rel => exact ⟨_, (true), er, H', ⟨by have := HJ7.out; first | omega | exact Nat.le_refl _⟩, bxs⟩
       ·rw [if_neg c42] at H
        have c42b0 : decide (a0 ≤ 16) = false := decide_eq_false c42
        clear c42
        by_cases c43 : a0 ≥ 21
        ·rw [if_pos c43] at H
         have c43b0 : decide (21 ≤ a0) = true := decide_eq_true c43
         clear c43
         have H' := Aside0.mk H
         clear H
         go_wp2
         go_meet
         case rel => exact ⟨_, (decide (a0 ≤ 26)), er, H', ⟨by have := HJ7.out; first | omega | exact Nat.le_refl _⟩, bxs⟩
        ·rw [if_neg c43] at H
         have c43b0 : decide (21 ≤ a0) = false := decide_eq_false c43
         clear c43
         have H' := Aside0.mk H
         clear H
         go_wp2
         go_meet
         case rel => exact ⟨_, (false), er, H', ⟨by have := HJ7.out; first | omega | exact Nat.le_refl _⟩, bxs⟩
      ·rw [if_neg c41] at H
       have c41b0 : decide (11 ≤ a0) = false := decide_eq_false c41
       clear c41
       (first | rw [c41b0] | (simp only [i64_w, i32_w]; rw [c41b0]) | skip)
       by_cases c44 : a0 ≥ 21
       ·rw [if_pos c44] at H
        have c44b0 : decide (21 ≤ a0) = true := decide_eq_true c44
        clear c44
        have H' := Aside0.mk H
        clear H
        go_wp2
        go_meet
        case rel => exact ⟨_, (decide (a0 ≤ 26)), er, H', ⟨by have := HJ7.out; first | omega | exact Nat.le_refl _⟩, bxs⟩
       ·rw [if_neg c44] at H
        have c44b0 : decide (21 ≤ a0) = false := decide_eq_false c44
        clear c44
        have H' := Aside0.mk H
        clear H
        go_wp2
        go_meet
        case rel => exact ⟨_, (false), er, H', ⟨by have := HJ7.out; first | omega | exact Nat.le_refl _⟩, bxs⟩
     case rest =>
      clear HC40
      try clear c1
      try clear c2
      try clear p2
      try clear c3
      try clear c4
      try clear c5
      try clear c12
      try clear c13
      try clear c15
      try clear c16
      try clear c17
      try clear c18
      try clear c23
      try clear c24
      try clear c25
      try clear c28
      try clear c30
      try clear c31
      try clear c32
      try clear c35
      try clear c36
      try clear c39
      try clear c41
      try clear c41b0
      try clear c42
      try clear c42b0
      try clear c43
      try clear c43b0
      try clear c44
      try clear c44b0
      try clear p2
      obtain ⟨kq, x9_39, rfl, HA, HJ39, BX⟩ := hcut
      cases kq with
      | zero => exact absurd HA.out (by simp [whittlelaw2_ValueFaults.j1])
      | succ kj39 =>
       have H := HA.out
       clear HA
       simp only [whittlelaw2_ValueFaults.j1] at H
       by_cases c45 : x9_39 = true
       ·subst c45
        have H1 : ((value_Fault.f 2).bind fun bt1356 => ((value_Right.f kj39 a1_0 a1_1 a1_2 a1_3 a1_4 a1_5).bind fun t1363 => (if t1363 = true then (if a1_0 = 4 then (some (t1328 == a1_0 && ((t1329 == a1_1 && (t1330 == a1_2)) && (t1331.toList == a1_3.toList && (t1332 == a1_4 && (t1333 == a1_5)))))) else ((value_Right.f kj39 a2_0 a2_1 a2_2 a2_3 a2_4 a2_5).bind fun t1364 => (if t1364 = true then (if a2_0 = 4 then (some (t1328 == a2_0 && ((t1329 == a2_1 && (t1330 == a2_2)) && (t1331.toList == a2_3.toList && (t1332 == a2_4 && (t1333 == a2_5)))))) else (some true)) else (some (t1328 == bt1356.1 && ((t1329 == bt1356.2.1 && (t1330 == bt1356.2.2.1)) && (t1331.toList == bt1356.2.2.2.1.toList && (t1332 == bt1356.2.2.2.2.1 && (t1333 == bt1356.2.2.2.2.2))))))))) else (some (t1328 == bt1356.1 && ((t1329 == bt1356.2.1 && (t1330 == bt1356.2.2.1)) && (t1331.toList == bt1356.2.2.2.1.toList && (t1332 == bt1356.2.2.2.2.1 && (t1333 == bt1356.2.2.2.2.2))))))))) = some r := by rw [if_pos rfl] at H; exact H
        clear H
        have H := H1
        clear H1
        replace H := Option.bind_eq_some_iff.mp H
        obtain ⟨⟨t1356, t1357, t1358, t1359, t1360, t1361⟩, A460, H⟩ := H
        have A46 := Aside0.mk A460
        clear A460
        replace H := Option.bind_eq_some_iff.mp H
        obtain ⟨t1363, A470, H⟩ := H
        replace H : (if t1363 = true then (if a1_0 = 4 then (some (t1328 == a1_0 && ((t1329 == a1_1 && (t1330 == a1_2)) && (t1331.toList == a1_3.toList && (t1332 == a1_4 && (t1333 == a1_5)))))) else ((value_Right.f kj39 a2_0 a2_1 a2_2 a2_3 a2_4 a2_5).bind fun t1364 => (if t1364 = true then (if a2_0 = 4 then (some (t1328 == a2_0 && ((t1329 == a2_1 && (t1330 == a2_2)) && (t1331.toList == a2_3.toList && (t1332 == a2_4 && (t1333 == a2_5)))))) else (some true)) else (some (t1328 == t1356 && ((t1329 == t1357 && (t1330 == t1358)) && (t1331.toList == t1359.toList && (t1332 == t1360 && (t1333 == t1361))))))))) else (some (t1328 == t1356 && ((t1329 == t1357 && (t1330 == t1358)) && (t1331.toList == t1359.toList && (t1332 == t1360 && (t1333 == t1361))))))) = some r := H
        have A47 := Aside0.mk A470
        clear A470
        by_cases c48 : t1363 = true
        ·subst c48
         have H1 : (if a1_0 = 4 then (some (t1328 == a1_0 && ((t1329 == a1_1 && (t1330 == a1_2)) && (t1331.toList == a1_3.toList && (t1332 == a1_4 && (t1333 == a1_5)))))) else ((value_Right.f kj39 a2_0 a2_1 a2_2 a2_3 a2_4 a2_5).bind fun t1364 => (if t1364 = true then (if a2_0 = 4 then (some (t1328 == a2_0 && ((t1329 == a2_1 && (t1330 == a2_2)) && (t1331.toList == a2_3.toList && (t1332 == a2_4 && (t1333 == a2_5)))))) else (some true)) else (some (t1328 == t1356 && ((t1329 == t1357 && (t1330 == t1358)) && (t1331.toList == t1359.toList && (t1332 == t1360 && (t1333 == t1361))))))))) = some r := by rw [if_pos rfl] at H; exact H
         clear H
         have H := H1
         clear H1
         by_cases c49 : a1_0 = 4
         ·rw [if_pos c49] at H
          have c49b0 : (a1_0 == 4) = true := beq_iff_eq.mpr c49
          have c49b1 : (a1_0 != 4) = false := bne_eq_false_iff_eq.mpr c49
          clear c49
          clear HR
          obtain rfl := Option.some.inj H
          go_wp2_with (first | ((with_reducible refine gate_callee (f := 25) rfl ?_); refine goesL_ (some 68) rfl rfl Tryd.func25 kr rfl #[.int .i64 2] rfl ga ?_; (with_reducible refine (value_Fault.calls 2 t1356 t1357 t1358 t1359 t1360 t1361 _ A46.out).mono ?_); rintro e w50 ⟨rfl, hb⟩; refine ⟨_, rfl, ?_⟩; replace BX := bx_call hb; clear hb) | ((with_reducible refine gate_dst (N := 10) rfl ?_); refine bxe 10 #[.int .i64 0, .int .i64 0, .int .i64 0, .string (⟨#[]⟩ : ByteArray), .bool false, .int .i64 0] 25 rfl rfl gr ?_; clear BX; intro gb1362 w51 GE1362 BX) | ((with_reducible refine gate_callee (f := 16) rfl ?_); refine goesL_ (some 70) rfl rfl Tryd.func16 kr rfl #[.agg #[.int .i64 a1_0, .int .i64 a1_1, .int .i64 a1_2, .string a1_3, .bool a1_4, .int .i64 a1_5]] rfl ga ?_; (with_reducible refine (value_Right.calls kj39 a1_0 a1_1 a1_2 a1_3 a1_4 a1_5 true _ A47.out).mono ?_); rintro e w61 ⟨rfl, hb⟩; refine ⟨_, rfl, ?_⟩; replace BX := bx_call hb; clear hb))
          go_ret
          exact ⟨er2, bx_bl⟩
         ·rw [if_neg c49] at H
          have c49b0 : (a1_0 == 4) = false := beq_eq_false_iff_ne.mpr c49
          have c49b1 : (a1_0 != 4) = true := bne_iff_ne.mpr c49
          replace H := Option.bind_eq_some_iff.mp H
          obtain ⟨t1364, A660, H⟩ := H
          replace H : (if t1364 = true then (if a2_0 = 4 then (some (t1328 == a2_0 && ((t1329 == a2_1 && (t1330 == a2_2)) && (t1331.toList == a2_3.toList && (t1332 == a2_4 && (t1333 == a2_5)))))) else (some true)) else (some (t1328 == t1356 && ((t1329 == t1357 && (t1330 == t1358)) && (t1331.toList == t1359.toList && (t1332 == t1360 && (t1333 == t1361))))))) = some r := H
          have A66 := Aside0.mk A660
          clear A660
          by_cases c67 : t1364 = true
          ·subst c67
           have H1 : (if a2_0 = 4 then (some (t1328 == a2_0 && ((t1329 == a2_1 && (t1330 == a2_2)) && (t1331.toList == a2_3.toList && (t1332 == a2_4 && (t1333 == a2_5)))))) else (some true)) = some r := by rw [if_pos rfl] at H; exact H
           clear H
           have H := H1
           clear H1
           by_cases c68 : a2_0 = 4
           ·rw [if_pos c68] at H
            have c68b0 : (a2_0 == 4) = true := beq_iff_eq.mpr c68
            have c68b1 : (a2_0 != 4) = false := bne_eq_false_iff_eq.mpr c68
            clear c68
            clear HR
            obtain rfl := Option.some.inj H
            go_wp2_with (first | ((with_reducible refine gate_callee (f := 25) rfl ?_); refine goesL_ (some 68) rfl rfl Tryd.func25 kr rfl #[.int .i64 2] rfl ga ?_; (with_reducible refine (value_Fault.calls 2 t1356 t1357 t1358 t1359 t1360 t1361 _ A46.out).mono ?_); rintro e w69 ⟨rfl, hb⟩; refine ⟨_, rfl, ?_⟩; replace BX := bx_call hb; clear hb) | ((with_reducible refine gate_dst (N := 10) rfl ?_); refine bxe 10 #[.int .i64 0, .int .i64 0, .int .i64 0, .string (⟨#[]⟩ : ByteArray), .bool false, .int .i64 0] 25 rfl rfl gr ?_; clear BX; intro gb1362 w70 GE1362 BX) | ((with_reducible refine gate_callee (f := 16) rfl ?_); refine goesL_ (some 70) rfl rfl Tryd.func16 kr rfl #[.agg #[.int .i64 a1_0, .int .i64 a1_1, .int .i64 a1_2, .string a1_3, .bool a1_4, .int .i64 a1_5]] rfl ga ?_; (with_reducible refine (value_Right.calls kj39 a1_0 a1_1 a1_2 a1_3 a1_4 a1_5 true _ A47.out).mono ?_); rintro e w80 ⟨rfl, hb⟩; refine ⟨_, rfl, ?_⟩; replace BX := bx_call hb; clear hb) | ((with_reducible refine gate_callee (f := 16) rfl ?_); refine goesL_ (some 82) rfl rfl Tryd.func16 kr rfl #[.agg #[.int .i64 a2_0, .int .i64 a2_1, .int .i64 a2_2, .string a2_3, .bool a2_4, .int .i64 a2_5]] rfl ga ?_; (with_reducible refine (value_Right.calls kj39 a2_0 a2_1 a2_2 a2_3 a2_4 a2_5 true _ A66.out).mono ?_); rintro e w85 ⟨rfl, hb⟩; refine ⟨_, rfl, ?_⟩; replace BX := bx_call hb; clear hb))
            go_ret
            exact ⟨er2, bx_bl⟩
           ·rw [if_neg c68] at H
            have c68b0 : (a2_0 == 4) = false := beq_eq_false_iff_ne.mpr c68
            have c68b1 : (a2_0 != 4) = true := bne_iff_ne.mpr c68
            clear HR
            obtain rfl := Option.some.inj H
            go_wp2_with (first | ((with_reducible refine gate_callee (f := 25) rfl ?_); refine goesL_ (some 68) rfl rfl Tryd.func25 kr rfl #[.int .i64 2] rfl ga ?_; (with_reducible refine (value_Fault.calls 2 t1356 t1357 t1358 t1359 t1360 t1361 _ A46.out).mono ?_); rintro e w89 ⟨rfl, hb⟩; refine ⟨_, rfl, ?_⟩; replace BX := bx_call hb; clear hb) | ((with_reducible refine gate_dst (N := 10) rfl ?_); refine bxe 10 #[.int .i64 0, .int .i64 0, .int .i64 0, .string (⟨#[]⟩ : ByteArray), .bool false, .int .i64 0] 25 rfl rfl gr ?_; clear BX; intro gb1362 w90 GE1362 BX) | ((with_reducible refine gate_callee (f := 16) rfl ?_); refine goesL_ (some 70) rfl rfl Tryd.func16 kr rfl #[.agg #[.int .i64 a1_0, .int .i64 a1_1, .int .i64 a1_2, .string a1_3, .bool a1_4, .int .i64 a1_5]] rfl ga ?_; (with_reducible refine (value_Right.calls kj39 a1_0 a1_1 a1_2 a1_3 a1_4 a1_5 true _ A47.out).mono ?_); rintro e w100 ⟨rfl, hb⟩; refine ⟨_, rfl, ?_⟩; replace BX := bx_call hb; clear hb) | ((with_reducible refine gate_callee (f := 16) rfl ?_); refine goesL_ (some 82) rfl rfl Tryd.func16 kr rfl #[.agg #[.int .i64 a2_0, .int .i64 a2_1, .int .i64 a2_2, .string a2_3, .bool a2_4, .int .i64 a2_5]] rfl ga ?_; (with_reducible refine (value_Right.calls kj39 a2_0 a2_1 a2_2 a2_3 a2_4 a2_5 true _ A66.out).mono ?_); rintro e w105 ⟨rfl, hb⟩; refine ⟨_, rfl, ?_⟩; replace BX := bx_call hb; clear hb))
            go_ret
            exact ⟨er2, bx_bl⟩
          ·replace c67 := Bool.eq_false_iff.mpr c67
           subst c67
           have H1 : (some (t1328 == t1356 && ((t1329 == t1357 && (t1330 == t1358)) && (t1331.toList == t1359.toList && (t1332 == t1360 && (t1333 == t1361)))))) = some r := by rw [if_neg (show ¬ (false = true) by decide)] at H; exact H
           clear H
           have H := H1
           clear H1
           clear HR
           obtain rfl := Option.some.inj H
           go_wp2_with (first | ((with_reducible refine gate_callee (f := 25) rfl ?_); refine goesL_ (some 68) rfl rfl Tryd.func25 kr rfl #[.int .i64 2] rfl ga ?_; (with_reducible refine (value_Fault.calls 2 t1356 t1357 t1358 t1359 t1360 t1361 _ A46.out).mono ?_); rintro e w107 ⟨rfl, hb⟩; refine ⟨_, rfl, ?_⟩; replace BX := bx_call hb; clear hb) | ((with_reducible refine gate_dst (N := 10) rfl ?_); refine bxe 10 #[.int .i64 0, .int .i64 0, .int .i64 0, .string (⟨#[]⟩ : ByteArray), .bool false, .int .i64 0] 25 rfl rfl gr ?_; clear BX; intro gb1362 w108 GE1362 BX) | ((with_reducible refine gate_callee (f := 16) rfl ?_); refine goesL_ (some 70) rfl rfl Tryd.func16 kr rfl #[.agg #[.int .i64 a1_0, .int .i64 a1_1, .int .i64 a1_2, .string a1_3, .bool a1_4, .int .i64 a1_5]] rfl ga ?_; (with_reducible refine (value_Right.calls kj39 a1_0 a1_1 a1_2 a1_3 a1_4 a1_5 true _ A47.out).mono ?_); rintro e w118 ⟨rfl, hb⟩; refine ⟨_, rfl, ?_⟩; replace BX := bx_call hb; clear hb) | ((with_reducible refine gate_callee (f := 16) rfl ?_); refine goesL_ (some 82) rfl rfl Tryd.func16 kr rfl #[.agg #[.int .i64 a2_0, .int .i64 a2_1, .int .i64 a2_2, .string a2_3, .bool a2_4, .int .i64 a2_5]] rfl ga ?_; (with_reducible refine (value_Right.calls kj39 a2_0 a2_1 a2_2 a2_3 a2_4 a2_5 false _ A66.out).mono ?_); rintro e w123 ⟨rfl, hb⟩; refine ⟨_, rfl, ?_⟩; replace BX := bx_call hb; clear hb))
           go_ret
           exact ⟨er2, bx_bl⟩
        ·replace c48 := Bool.eq_false_iff.mpr c48
         subst c48
         have H1 : (some (t1328 == t1356 && ((t1329 == t1357 && (t1330 == t1358)) && (t1331.toList == t1359.toList && (t1332 == t1360 && (t1333 == t1361)))))) = some r := by rw [if_neg (show ¬ (false = true) by decide)] at H; exact H
         clear H
         have H := H1
         clear H1
         clear HR
         obtain rfl := Option.some.inj H
         go_wp2_with (first | ((with_reducible refine gate_callee (f := 25) rfl ?_); refine goesL_ (some 68) rfl rfl Tryd.func25 kr rfl #[.int .i64 2] rfl ga ?_; (with_reducible refine (value_Fault.calls 2 t1356 t1357 t1358 t1359 t1360 t1361 _ A46.out).mono ?_); rintro e w127 ⟨rfl, hb⟩; refine ⟨_, rfl, ?_⟩; replace BX := bx_call hb; clear hb) | ((with_reducible refine gate_dst (N := 10) rfl ?_); refine bxe 10 #[.int .i64 0, .int .i64 0, .int .i64 0, .string (⟨#[]⟩ : ByteArray), .bool false, .int .i64 0] 25 rfl rfl gr ?_; clear BX; intro gb1362 w128 GE1362 BX) | ((with_reducible refine gate_callee (f := 16) rfl ?_); refine goesL_ (some 70) rfl rfl Tryd.func16 kr rfl #[.agg #[.int .i64 a1_0, .int .i64 a1_1, .int .i64 a1_2, .string a1_3, .bool a1_4, .int .i64 a1_5]] rfl ga ?_; (with_reducible refine (value_Right.calls kj39 a1_0 a1_1 a1_2 a1_3 a1_4 a1_5 false _ A47.out).mono ?_); rintro e w138 ⟨rfl, hb⟩; refine ⟨_, rfl, ?_⟩; replace BX := bx_call hb; clear hb))
         go_ret
         exact ⟨er2, bx_bl⟩
       ·replace c45 := Bool.eq_false_iff.mpr c45
        subst c45
        have H1 : ((value_Fault.f 2).bind fun bt1344 => ((value_Bin.f kj39 a0 a1_0 a1_1 a1_2 a1_3 a1_4 a1_5 a2_0 a2_1 a2_2 a2_3 a2_4 a2_5).bind fun bt1350 => (if (bt1350.1 == bt1344.1 && ((bt1350.2.1 == bt1344.2.1 && (bt1350.2.2.1 == bt1344.2.2.1)) && (bt1350.2.2.2.1.toList == bt1344.2.2.2.1.toList && (bt1350.2.2.2.2.1 == bt1344.2.2.2.2.1 && (bt1350.2.2.2.2.2 == bt1344.2.2.2.2.2))))) = true then (if a0 = 1 then (some true) else (if a0 = 2 then (some true) else (if a0 = 3 then (some true) else (some (t1335 == bt1344.1 && ((t1336 == bt1344.2.1 && (t1337 == bt1344.2.2.1)) && (t1338.toList == bt1344.2.2.2.1.toList && (t1339 == bt1344.2.2.2.2.1 && (t1340 == bt1344.2.2.2.2.2))))))))) else (some false)))) = some r := by rw [if_neg (show ¬ (false = true) by decide)] at H; exact H
        clear H
        have H := H1
        clear H1
        replace H := Option.bind_eq_some_iff.mp H
        obtain ⟨⟨t1344, t1345, t1346, t1347, t1348, t1349⟩, A1430, H⟩ := H
        have A143 := Aside0.mk A1430
        clear A1430
        replace H := Option.bind_eq_some_iff.mp H
        obtain ⟨⟨t1350, t1351, t1352, t1353, t1354, t1355⟩, A1440, H⟩ := H
        replace H : (if (t1350 == t1344 && ((t1351 == t1345 && (t1352 == t1346)) && (t1353.toList == t1347.toList && (t1354 == t1348 && (t1355 == t1349))))) = true then (if a0 = 1 then (some true) else (if a0 = 2 then (some true) else (if a0 = 3 then (some true) else (some (t1335 == t1344 && ((t1336 == t1345 && (t1337 == t1346)) && (t1338.toList == t1347.toList && (t1339 == t1348 && (t1340 == t1349))))))))) else (some false)) = some r := H
        have A144 := Aside0.mk A1440
        clear A1440
        by_cases c145 : (t1350 == t1344 && ((t1351 == t1345 && (t1352 == t1346)) && (t1353.toList == t1347.toList && (t1354 == t1348 && (t1355 == t1349))))) = true
        ·rw [if_pos c145] at H
         have c145b0 : (t1350 == t1344 && ((t1351 == t1345 && (t1352 == t1346)) && (t1353.toList == t1347.toList && (t1354 == t1348 && (t1355 == t1349))))) = true := c145
         (try (have c145b1 : decide (t1350 = t1344 && ((t1351 == t1345 && (t1352 == t1346)) && (t1353.toList == t1347.toList && (t1354 == t1348 && (t1355 == t1349))))) = true := by simpa using c145))
         (try (have c145b2 : (t1350 == t1344 && ((t1351 == t1345 && (t1352 == t1346)) && (t1353.toList == t1347.toList && (t1354 == t1348 && (t1355 == t1349))))) = true := by simpa using c145))
         clear c145
         by_cases c146 : a0 = 1
         ·rw [if_pos c146] at H
          have c146b0 : (a0 == 1) = true := beq_iff_eq.mpr c146
          have c146b1 : (a0 != 1) = false := bne_eq_false_iff_eq.mpr c146
          clear c146
          clear HR
          obtain rfl := Option.some.inj H
          try go_wp2_with (first | ((with_reducible refine gate_callee (f := 25) rfl ?_); refine goesL_ (some 44) rfl rfl Tryd.func25 kr rfl #[.int .i64 2] rfl ga ?_; (with_reducible refine (value_Fault.calls 2 t1344 t1345 t1346 t1347 t1348 t1349 _ A143.out).mono ?_); rintro e w147 ⟨rfl, hb⟩; refine ⟨_, rfl, ?_⟩; replace BX := bx_call hb; clear hb))
          replace BX : Bx w ((((((w147.setCell ⟨gb1334, 0, none⟩ (.int .i64 t1344)).setCell ⟨gb1334, 1, none⟩ (.int .i64 t1345)).setCell ⟨gb1334, 2, none⟩ (.int .i64 t1346)).setCell ⟨gb1334, 3, none⟩ (.string t1347)).setCell ⟨gb1334, 4, none⟩ (.bool t1348)).setCell ⟨gb1334, 5, none⟩ (.int .i64 t1349)) _ := bxi
          generalize ((((((w147.setCell ⟨gb1334, 0, none⟩ (.int .i64 t1344)).setCell ⟨gb1334, 1, none⟩ (.int .i64 t1345)).setCell ⟨gb1334, 2, none⟩ (.int .i64 t1346)).setCell ⟨gb1334, 3, none⟩ (.string t1347)).setCell ⟨gb1334, 4, none⟩ (.bool t1348)).setCell ⟨gb1334, 5, none⟩ (.int .i64 t1349)) = w152 at BX ⊢
          refine startm [false, true, true, true] (n := 24) (ds := []) #[false, false, false, false, false, false, false, false, false, false, false, false, false, false, false, false, false, false, false, false, false, false, false, false] kr rfl rfl (fun BX1 => ?_); refine with_tabW whittlelaw2_ValueFaults.tab10 whittlelaw2_ValueFaults.bits10 (fun HT_ HW_ => ?_)
          clear BX
          have BX := BX1
          clear BX1
          generalize w152.drew = w153 at BX ⊢
          refine pure_ (i := 0) (N := some 45) (v := ?_) (a' := ?_) #[true, false, false, false, false, false, false, false, false, false, false, false, false, false, false, false, false, false, false, false, false, false, false, false] rfl rfl (any_of HT_.out kr) (fun _ _ _ h => h) (Or.inl ⟨by rfl, ?_⟩) ?_ ?_
          rotate_left
          ·intro w'
           go_simp
           with_reducible rfl
          rotate_left
          ·simp only [Act.put, List.setIfInBounds_toArray, List.set_cons_zero, List.set_cons_succ, i64_w, i32_w]
           rfl
          refine take_ (i := 1) (N := some 46) (v := ?_) (a' := ?_) #[true, true, false, false, false, false, false, false, false, false, false, false, false, false, false, false, false, false, false, false, false, false, false, false] rfl rfl (take_ofW HT_.out HW_.out kr) (fun _ _ _ h => h) (Or.inl ⟨by rfl, ?_⟩) bxs ?_ ?_
          rotate_left
          ·intro w' hS
           go_simp
           with_reducible rfl
          rotate_left
          ·simp only [Act.put, List.setIfInBounds_toArray, List.set_cons_zero, List.set_cons_succ, i64_w, i32_w]
           rfl
          refine take_ (i := 2) (N := some 47) (v := ?_) (a' := ?_) #[true, true, true, false, false, false, false, false, false, false, false, false, false, false, false, false, false, false, false, false, false, false, false, false] rfl rfl (take_ofW HT_.out HW_.out kr) (fun _ _ _ h => h) (Or.inl ⟨by rfl, ?_⟩) bxs ?_ ?_
          rotate_left
          ·intro w' hS
           go_simp
           with_reducible rfl
          rotate_left
          ·simp only [Act.put, List.setIfInBounds_toArray, List.set_cons_zero, List.set_cons_succ, i64_w, i32_w]
           rfl
          refine take_ (i := 4) (N := some 49) (v := ?_) (a' := ?_) #[true, true, true, false, true, false, false, false, false, false, false, false, false, false, false, false, false, false, false, false, false, false, false, false] rfl rfl (take_ofW HT_.out HW_.out kr) (fun _ _ _ h => h) (Or.inl ⟨by rfl, ?_⟩) bxs ?_ ?_
          rotate_left
          ·intro w' hS
           go_simp
           with_reducible rfl
          rotate_left
          ·simp only [Act.put, List.setIfInBounds_toArray, List.set_cons_zero, List.set_cons_succ, i64_w, i32_w]
           rfl
          refine one_ (i := 3) (N := some 48) #[true, true, true, true, true, false, false, false, false, false, false, false, false, false, false, false, false, false, false, false, false, false, false, false] rfl rfl (one_of HT_.out kr) (by decide) (fun K hK => ?_)
          refine goes_ Tryd.func31 kr rfl #[.int .i64 a0, .agg #[.int .i64 a1_0, .int .i64 a1_1, .int .i64 a1_2, .string a1_3, .bool a1_4, .int .i64 a1_5], .agg #[.int .i64 a2_0, .int .i64 a2_1, .int .i64 a2_2, .string a2_3, .bool a2_4, .int .i64 a2_5]] (by rfl) rfl rfl ga ?_
          with_reducible refine (value_Bin.calls kj39 a0 a1_0 a1_1 a1_2 a1_3 a1_4 a1_5 a2_0 a2_1 a2_2 a2_3 a2_4 a2_5 t1350 t1351 t1352 t1353 t1354 t1355 _ ?side1 A144.out).mono ?_
          (case side1 => exact HT.out.on bx_bl)
          rintro e w154 ⟨rfl, hb⟩
          refine ⟨_, rfl, ?_⟩
          replace BX := bx_call hb
          clear hb
          refine hK.out _ _ bxs (fun hHeld => ?_)
          clear hK K hHeld
          refine norm_ (a' := ?_) ?_ ?_
          rotate_left
          ·show Act.put _ (some 48) _ = _
           simp only [Act.put, List.setIfInBounds_toArray, List.set_cons_zero, List.set_cons_succ, i64_w, i32_w]
           rfl
          refine pure_ (i := 5) (N := some 50) (v := ?_) (a' := ?_) #[true, true, true, true, true, true, false, false, false, false, false, false, false, false, false, false, false, false, false, false, false, false, false, false] rfl rfl (any_of HT_.out kr) (fun _ _ _ h => h) (Or.inl ⟨by rfl, ?_⟩) ?_ ?_
          rotate_left
          ·intro w'
           go_simp
           with_reducible rfl
          rotate_left
          ·simp only [Act.put, List.setIfInBounds_toArray, List.set_cons_zero, List.set_cons_succ, i64_w, i32_w]
           rfl
          refine pure_ (i := 6) (N := some 51) (v := ?_) (a' := ?_) #[true, true, true, true, true, true, true, false, false, false, false, false, false, false, false, false, false, false, false, false, false, false, false, false] rfl rfl (any_of HT_.out kr) (fun _ _ _ h => h) (Or.inl ⟨by rfl, ?_⟩) ?_ ?_
          rotate_left
          ·intro w'
           go_simp
           with_reducible rfl
          rotate_left
          ·simp only [Act.put, List.setIfInBounds_toArray, List.set_cons_zero, List.set_cons_succ, i64_w, i32_w]
           rfl
          refine pure_ (i := 7) (N := some 52) (v := ?_) (a' := ?_) #[true, true, true, true, true, true, true, true, false, false, false, false, false, false, false, false, false, false, false, false, false, false, false, false] rfl rfl (any_of HT_.out kr) (fun _ _ _ h => h) (Or.inl ⟨by rfl, ?_⟩) ?_ ?_
          rotate_left
          ·intro w'
           go_simp
           with_reducible rfl
          rotate_left
          ·simp only [Act.put, List.setIfInBounds_toArray, List.set_cons_zero, List.set_cons_succ, i64_w, i32_w]
           rfl
          refine pure_ (i := 8) (N := some 53) (v := ?_) (a' := ?_) #[true, true, true, true, true, true, true, true, true, false, false, false, false, false, false, false, false, false, false, false, false, false, false, false] rfl rfl (any_of HT_.out kr) (fun _ _ _ h => h) (Or.inl ⟨by rfl, ?_⟩) ?_ ?_
          rotate_left
          ·intro w'
           go_simp
           with_reducible rfl
          rotate_left
          ·simp only [Act.put, List.setIfInBounds_toArray, List.set_cons_zero, List.set_cons_succ, i64_w, i32_w]
           rfl
          refine pure_ (i := 9) (N := some 54) (v := ?_) (a' := ?_) #[true, true, true, true, true, true, true, true, true, true, false, false, false, false, false, false, false, false, false, false, false, false, false, false] rfl rfl (any_of HT_.out kr) (fun _ _ _ h => h) (Or.inl ⟨by rfl, ?_⟩) ?_ ?_
          rotate_left
          ·intro w'
           go_simp
           with_reducible rfl
          rotate_left
          ·simp only [Act.put, List.setIfInBounds_toArray, List.set_cons_zero, List.set_cons_succ, i64_w, i32_w]
           rfl
          refine pure_ (i := 10) (N := some 55) (v := undef) (a' := ?_) #[true, true, true, true, true, true, true, true, true, true, true, false, false, false, false, false, false, false, false, false, false, false, false, false] rfl rfl (any_of HT_.out kr) (fun _ _ _ h => h) (Or.inr ⟨by rfl, rfl⟩) ?_ ?_
          rotate_left
          ·simp only [Act.put, List.setIfInBounds_toArray, List.set_cons_zero, List.set_cons_succ, i64_w, i32_w]
           rfl
          refine pure_ (i := 11) (N := some 56) (v := undef) (a' := ?_) #[true, true, true, true, true, true, true, true, true, true, true, true, false, false, false, false, false, false, false, false, false, false, false, false] rfl rfl (any_of HT_.out kr) (fun _ _ _ h => h) (Or.inr ⟨by rfl, rfl⟩) ?_ ?_
          rotate_left
          ·simp only [Act.put, List.setIfInBounds_toArray, List.set_cons_zero, List.set_cons_succ, i64_w, i32_w]
           rfl
          refine pure_ (i := 12) (N := some 57) (v := ?_) (a' := ?_) #[true, true, true, true, true, true, true, true, true, true, true, true, true, false, false, false, false, false, false, false, false, false, false, false] rfl rfl (any_of HT_.out kr) (fun _ _ _ h => h) (Or.inl ⟨by rfl, ?_⟩) ?_ ?_
          rotate_left
          ·intro w'
           go_simp
           with_reducible rfl
          rotate_left
          ·simp only [Act.put, List.setIfInBounds_toArray, List.set_cons_zero, List.set_cons_succ, i64_w, i32_w]
           rfl
          refine pure_ (i := 13) (N := some 58) (v := ?_) (a' := ?_) #[true, true, true, true, true, true, true, true, true, true, true, true, true, true, false, false, false, false, false, false, false, false, false, false] rfl rfl (any_of HT_.out kr) (fun _ _ _ h => h) (Or.inl ⟨by rfl, ?_⟩) ?_ ?_
          rotate_left
          ·intro w'
           go_simp
           with_reducible rfl
          rotate_left
          ·simp only [Act.put, List.setIfInBounds_toArray, List.set_cons_zero, List.set_cons_succ, i64_w, i32_w]
           rfl
          refine pure_ (i := 14) (N := some 59) (v := undef) (a' := ?_) #[true, true, true, true, true, true, true, true, true, true, true, true, true, true, true, false, false, false, false, false, false, false, false, false] rfl rfl (any_of HT_.out kr) (fun _ _ _ h => h) (Or.inr ⟨by rfl, rfl⟩) ?_ ?_
          rotate_left
          ·simp only [Act.put, List.setIfInBounds_toArray, List.set_cons_zero, List.set_cons_succ, i64_w, i32_w]
           rfl
          refine pure_ (i := 15) (N := some 60) (v := undef) (a' := ?_) #[true, true, true, true, true, true, true, true, true, true, true, true, true, true, true, true, false, false, false, false, false, false, false, false] rfl rfl (any_of HT_.out kr) (fun _ _ _ h => h) (Or.inr ⟨by rfl, rfl⟩) ?_ ?_
          rotate_left
          ·simp only [Act.put, List.setIfInBounds_toArray, List.set_cons_zero, List.set_cons_succ, i64_w, i32_w]
           rfl
          refine pure_ (i := 16) (N := some 61) (v := ?_) (a' := ?_) #[true, true, true, true, true, true, true, true, true, true, true, true, true, true, true, true, true, false, false, false, false, false, false, false] rfl rfl (any_of HT_.out kr) (fun _ _ _ h => h) (Or.inl ⟨by rfl, ?_⟩) ?_ ?_
          rotate_left
          ·intro w'
           go_simp
           with_reducible rfl
          rotate_left
          ·simp only [Act.put, List.setIfInBounds_toArray, List.set_cons_zero, List.set_cons_succ, i64_w, i32_w]
           rfl
          refine pure_ (i := 17) (N := some 62) (v := ?_) (a' := ?_) #[true, true, true, true, true, true, true, true, true, true, true, true, true, true, true, true, true, true, false, false, false, false, false, false] rfl rfl (any_of HT_.out kr) (fun _ _ _ h => h) (Or.inl ⟨by rfl, ?_⟩) ?_ ?_
          rotate_left
          ·intro w'
           go_simp
           with_reducible rfl
          rotate_left
          ·simp only [Act.put, List.setIfInBounds_toArray, List.set_cons_zero, List.set_cons_succ, i64_w, i32_w]
           rfl
          refine pure_ (i := 18) (N := some 63) (v := undef) (a' := ?_) #[true, true, true, true, true, true, true, true, true, true, true, true, true, true, true, true, true, true, true, false, false, false, false, false] rfl rfl (any_of HT_.out kr) (fun _ _ _ h => h) (Or.inr ⟨by rfl, rfl⟩) ?_ ?_
          rotate_left
          ·simp only [Act.put, List.setIfInBounds_toArray, List.set_cons_zero, List.set_cons_succ, i64_w, i32_w]
           rfl
          refine pure_ (i := 19) (N := some 64) (v := undef) (a' := ?_) #[true, true, true, true, true, true, true, true, true, true, true, true, true, true, true, true, true, true, true, true, false, false, false, false] rfl rfl (any_of HT_.out kr) (fun _ _ _ h => h) (Or.inr ⟨by rfl, rfl⟩) ?_ ?_
          rotate_left
          ·simp only [Act.put, List.setIfInBounds_toArray, List.set_cons_zero, List.set_cons_succ, i64_w, i32_w]
           rfl
          refine pure_ (i := 20) (N := some 65) (v := undef) (a' := ?_) #[true, true, true, true, true, true, true, true, true, true, true, true, true, true, true, true, true, true, true, true, true, false, false, false] rfl rfl (any_of HT_.out kr) (fun _ _ _ h => h) (Or.inr ⟨by rfl, rfl⟩) ?_ ?_
          rotate_left
          ·simp only [Act.put, List.setIfInBounds_toArray, List.set_cons_zero, List.set_cons_succ, i64_w, i32_w]
           rfl
          refine pure_ (i := 21) (N := some 66) (v := ?_) (a' := ?_) #[true, true, true, true, true, true, true, true, true, true, true, true, true, true, true, true, true, true, true, true, true, true, false, false] rfl rfl (any_of HT_.out kr) (fun _ _ _ h => h) (Or.inl ⟨by rfl, ?_⟩) ?_ ?_
          rotate_left
          ·intro w'
           go_simp
           with_reducible rfl
          rotate_left
          ·simp only [Act.put, List.setIfInBounds_toArray, List.set_cons_zero, List.set_cons_succ, i64_w, i32_w]
           rfl
          refine pure_ (i := 22) (N := some 67) (v := ?_) (a' := ?_) #[true, true, true, true, true, true, true, true, true, true, true, true, true, true, true, true, true, true, true, true, true, true, true, false] rfl rfl (any_of HT_.out kr) (fun _ _ _ h => h) (Or.inl ⟨by rfl, ?_⟩) ?_ ?_
          rotate_left
          ·intro w'
           go_simp
           with_reducible rfl
          rotate_left
          ·simp only [Act.put, List.setIfInBounds_toArray, List.set_cons_zero, List.set_cons_succ, i64_w, i32_w]
           rfl
          refine pure_ (i := 23) (N := some 6) (v := ?_) (a' := ?_) #[true, true, true, true, true, true, true, true, true, true, true, true, true, true, true, true, true, true, true, true, true, true, true, true] rfl rfl (any_of HT_.out kr) (fun _ _ _ h => h) (Or.inl ⟨by rfl, ?_⟩) ?_ ?_
          rotate_left
          ·intro w'
           go_simp
           with_reducible rfl
          rotate_left
          ·simp only [Act.put, List.setIfInBounds_toArray, List.set_cons_zero, List.set_cons_succ, i64_w, i32_w]
           rfl
          refine done_ (done_of HT_.out kr) ?_
          try go_wp2
          go_ret
          exact ⟨er2, bx_bl⟩
         ·rw [if_neg c146] at H
          have c146b0 : (a0 == 1) = false := beq_eq_false_iff_ne.mpr c146
          have c146b1 : (a0 != 1) = true := bne_iff_ne.mpr c146
          by_cases c155 : a0 = 2
          ·rw [if_pos c155] at H
           have c155b0 : (a0 == 2) = true := beq_iff_eq.mpr c155
           have c155b1 : (a0 != 2) = false := bne_eq_false_iff_eq.mpr c155
           clear c155
           clear HR
           obtain rfl := Option.some.inj H
           try go_wp2_with (first | ((with_reducible refine gate_callee (f := 25) rfl ?_); refine goesL_ (some 44) rfl rfl Tryd.func25 kr rfl #[.int .i64 2] rfl ga ?_; (with_reducible refine (value_Fault.calls 2 t1344 t1345 t1346 t1347 t1348 t1349 _ A143.out).mono ?_); rintro e w156 ⟨rfl, hb⟩; refine ⟨_, rfl, ?_⟩; replace BX := bx_call hb; clear hb))
           replace BX : Bx w ((((((w156.setCell ⟨gb1334, 0, none⟩ (.int .i64 t1344)).setCell ⟨gb1334, 1, none⟩ (.int .i64 t1345)).setCell ⟨gb1334, 2, none⟩ (.int .i64 t1346)).setCell ⟨gb1334, 3, none⟩ (.string t1347)).setCell ⟨gb1334, 4, none⟩ (.bool t1348)).setCell ⟨gb1334, 5, none⟩ (.int .i64 t1349)) _ := bxi
           generalize ((((((w156.setCell ⟨gb1334, 0, none⟩ (.int .i64 t1344)).setCell ⟨gb1334, 1, none⟩ (.int .i64 t1345)).setCell ⟨gb1334, 2, none⟩ (.int .i64 t1346)).setCell ⟨gb1334, 3, none⟩ (.string t1347)).setCell ⟨gb1334, 4, none⟩ (.bool t1348)).setCell ⟨gb1334, 5, none⟩ (.int .i64 t1349)) = w161 at BX ⊢
           refine startm [false, true, true, true] (n := 24) (ds := []) #[false, false, false, false, false, false, false, false, false, false, false, false, false, false, false, false, false, false, false, false, false, false, false, false] kr rfl rfl (fun BX1 => ?_); refine with_tabW whittlelaw2_ValueFaults.tab10 whittlelaw2_ValueFaults.bits10 (fun HT_ HW_ => ?_)
           clear BX
           have BX := BX1
           clear BX1
           generalize w161.drew = w162 at BX ⊢
           refine pure_ (i := 0) (N := some 45) (v := ?_) (a' := ?_) #[true, false, false, false, false, false, false, false, false, false, false, false, false, false, false, false, false, false, false, false, false, false, false, false] rfl rfl (any_of HT_.out kr) (fun _ _ _ h => h) (Or.inl ⟨by rfl, ?_⟩) ?_ ?_
           rotate_left
           ·intro w'
            go_simp
            with_reducible rfl
           rotate_left
           ·simp only [Act.put, List.setIfInBounds_toArray, List.set_cons_zero, List.set_cons_succ, i64_w, i32_w]
            rfl
           refine take_ (i := 1) (N := some 46) (v := ?_) (a' := ?_) #[true, true, false, false, false, false, false, false, false, false, false, false, false, false, false, false, false, false, false, false, false, false, false, false] rfl rfl (take_ofW HT_.out HW_.out kr) (fun _ _ _ h => h) (Or.inl ⟨by rfl, ?_⟩) bxs ?_ ?_
           rotate_left
           ·intro w' hS
            go_simp
            with_reducible rfl
           rotate_left
           ·simp only [Act.put, List.setIfInBounds_toArray, List.set_cons_zero, List.set_cons_succ, i64_w, i32_w]
            rfl
           refine take_ (i := 2) (N := some 47) (v := ?_) (a' := ?_) #[true, true, true, false, false, false, false, false, false, false, false, false, false, false, false, false, false, false, false, false, false, false, false, false] rfl rfl (take_ofW HT_.out HW_.out kr) (fun _ _ _ h => h) (Or.inl ⟨by rfl, ?_⟩) bxs ?_ ?_
           rotate_left
           ·intro w' hS
            go_simp
            with_reducible rfl
           rotate_left
           ·simp only [Act.put, List.setIfInBounds_toArray, List.set_cons_zero, List.set_cons_succ, i64_w, i32_w]
            rfl
           refine take_ (i := 4) (N := some 49) (v := ?_) (a' := ?_) #[true, true, true, false, true, false, false, false, false, false, false, false, false, false, false, false, false, false, false, false, false, false, false, false] rfl rfl (take_ofW HT_.out HW_.out kr) (fun _ _ _ h => h) (Or.inl ⟨by rfl, ?_⟩) bxs ?_ ?_
           rotate_left
           ·intro w' hS
            go_simp
            with_reducible rfl
           rotate_left
           ·simp only [Act.put, List.setIfInBounds_toArray, List.set_cons_zero, List.set_cons_succ, i64_w, i32_w]
            rfl
           refine one_ (i := 3) (N := some 48) #[true, true, true, true, true, false, false, false, false, false, false, false, false, false, false, false, false, false, false, false, false, false, false, false] rfl rfl (one_of HT_.out kr) (by decide) (fun K hK => ?_)
           refine goes_ Tryd.func31 kr rfl #[.int .i64 a0, .agg #[.int .i64 a1_0, .int .i64 a1_1, .int .i64 a1_2, .string a1_3, .bool a1_4, .int .i64 a1_5], .agg #[.int .i64 a2_0, .int .i64 a2_1, .int .i64 a2_2, .string a2_3, .bool a2_4, .int .i64 a2_5]] (by rfl) rfl rfl ga ?_
           with_reducible refine (value_Bin.calls kj39 a0 a1_0 a1_1 a1_2 a1_3 a1_4 a1_5 a2_0 a2_1 a2_2 a2_3 a2_4 a2_5 t1350 t1351 t1352 t1353 t1354 t1355 _ ?side1 A144.out).mono ?_
           (case side1 => exact HT.out.on bx_bl)
           rintro e w163 ⟨rfl, hb⟩
           refine ⟨_, rfl, ?_⟩
           replace BX := bx_call hb
           clear hb
           refine hK.out _ _ bxs (fun hHeld => ?_)
           clear hK K hHeld
           refine norm_ (a' := ?_) ?_ ?_
           rotate_left
           ·show Act.put _ (some 48) _ = _
            simp only [Act.put, List.setIfInBounds_toArray, List.set_cons_zero, List.set_cons_succ, i64_w, i32_w]
            rfl
           refine pure_ (i := 5) (N := some 50) (v := ?_) (a' := ?_) #[true, true, true, true, true, true, false, false, false, false, false, false, false, false, false, false, false, false, false, false, false, false, false, false] rfl rfl (any_of HT_.out kr) (fun _ _ _ h => h) (Or.inl ⟨by rfl, ?_⟩) ?_ ?_
           rotate_left
           ·intro w'
            go_simp
            with_reducible rfl
           rotate_left
           ·simp only [Act.put, List.setIfInBounds_toArray, List.set_cons_zero, List.set_cons_succ, i64_w, i32_w]
            rfl
           refine pure_ (i := 6) (N := some 51) (v := ?_) (a' := ?_) #[true, true, true, true, true, true, true, false, false, false, false, false, false, false, false, false, false, false, false, false, false, false, false, false] rfl rfl (any_of HT_.out kr) (fun _ _ _ h => h) (Or.inl ⟨by rfl, ?_⟩) ?_ ?_
           rotate_left
           ·intro w'
            go_simp
            with_reducible rfl
           rotate_left
           ·simp only [Act.put, List.setIfInBounds_toArray, List.set_cons_zero, List.set_cons_succ, i64_w, i32_w]
            rfl
           refine pure_ (i := 7) (N := some 52) (v := ?_) (a' := ?_) #[true, true, true, true, true, true, true, true, false, false, false, false, false, false, false, false, false, false, false, false, false, false, false, false] rfl rfl (any_of HT_.out kr) (fun _ _ _ h => h) (Or.inl ⟨by rfl, ?_⟩) ?_ ?_
           rotate_left
           ·intro w'
            go_simp
            with_reducible rfl
           rotate_left
           ·simp only [Act.put, List.setIfInBounds_toArray, List.set_cons_zero, List.set_cons_succ, i64_w, i32_w]
            rfl
           refine pure_ (i := 8) (N := some 53) (v := ?_) (a' := ?_) #[true, true, true, true, true, true, true, true, true, false, false, false, false, false, false, false, false, false, false, false, false, false, false, false] rfl rfl (any_of HT_.out kr) (fun _ _ _ h => h) (Or.inl ⟨by rfl, ?_⟩) ?_ ?_
           rotate_left
           ·intro w'
            go_simp
            with_reducible rfl
           rotate_left
           ·simp only [Act.put, List.setIfInBounds_toArray, List.set_cons_zero, List.set_cons_succ, i64_w, i32_w]
            rfl
           refine pure_ (i := 9) (N := some 54) (v := ?_) (a' := ?_) #[true, true, true, true, true, true, true, true, true, true, false, false, false, false, false, false, false, false, false, false, false, false, false, false] rfl rfl (any_of HT_.out kr) (fun _ _ _ h => h) (Or.inl ⟨by rfl, ?_⟩) ?_ ?_
           rotate_left
           ·intro w'
            go_simp
            with_reducible rfl
           rotate_left
           ·simp only [Act.put, List.setIfInBounds_toArray, List.set_cons_zero, List.set_cons_succ, i64_w, i32_w]
            rfl
           refine pure_ (i := 10) (N := some 55) (v := ?_) (a' := ?_) #[true, true, true, true, true, true, true, true, true, true, true, false, false, false, false, false, false, false, false, false, false, false, false, false] rfl rfl (any_of HT_.out kr) (fun _ _ _ h => h) (Or.inl ⟨by rfl, ?_⟩) ?_ ?_
           rotate_left
           ·intro w'
            go_simp
            with_reducible rfl
           rotate_left
           ·simp only [Act.put, List.setIfInBounds_toArray, List.set_cons_zero, List.set_cons_succ, i64_w, i32_w]
            rfl
           refine pure_ (i := 11) (N := some 56) (v := ?_) (a' := ?_) #[true, true, true, true, true, true, true, true, true, true, true, true, false, false, false, false, false, false, false, false, false, false, false, false] rfl rfl (any_of HT_.out kr) (fun _ _ _ h => h) (Or.inl ⟨by rfl, ?_⟩) ?_ ?_
           rotate_left
           ·intro w'
            go_simp
            with_reducible rfl
           rotate_left
           ·simp only [Act.put, List.setIfInBounds_toArray, List.set_cons_zero, List.set_cons_succ, i64_w, i32_w]
            rfl
           refine pure_ (i := 12) (N := some 57) (v := ?_) (a' := ?_) #[true, true, true, true, true, true, true, true, true, true, true, true, true, false, false, false, false, false, false, false, false, false, false, false] rfl rfl (any_of HT_.out kr) (fun _ _ _ h => h) (Or.inl ⟨by rfl, ?_⟩) ?_ ?_
           rotate_left
           ·intro w'
            go_simp
            with_reducible rfl
           rotate_left
           ·simp only [Act.put, List.setIfInBounds_toArray, List.set_cons_zero, List.set_cons_succ, i64_w, i32_w]
            rfl
           refine pure_ (i := 13) (N := some 58) (v := ?_) (a' := ?_) #[true, true, true, true, true, true, true, true, true, true, true, true, true, true, false, false, false, false, false, false, false, false, false, false] rfl rfl (any_of HT_.out kr) (fun _ _ _ h => h) (Or.inl ⟨by rfl, ?_⟩) ?_ ?_
           rotate_left
           ·intro w'
            go_simp
            with_reducible rfl
           rotate_left
           ·simp only [Act.put, List.setIfInBounds_toArray, List.set_cons_zero, List.set_cons_succ, i64_w, i32_w]
            rfl
           refine pure_ (i := 14) (N := some 59) (v := undef) (a' := ?_) #[true, true, true, true, true, true, true, true, true, true, true, true, true, true, true, false, false, false, false, false, false, false, false, false] rfl rfl (any_of HT_.out kr) (fun _ _ _ h => h) (Or.inr ⟨by rfl, rfl⟩) ?_ ?_
           rotate_left
           ·simp only [Act.put, List.setIfInBounds_toArray, List.set_cons_zero, List.set_cons_succ, i64_w, i32_w]
            rfl
           refine pure_ (i := 15) (N := some 60) (v := undef) (a' := ?_) #[true, true, true, true, true, true, true, true, true, true, true, true, true, true, true, true, false, false, false, false, false, false, false, false] rfl rfl (any_of HT_.out kr) (fun _ _ _ h => h) (Or.inr ⟨by rfl, rfl⟩) ?_ ?_
           rotate_left
           ·simp only [Act.put, List.setIfInBounds_toArray, List.set_cons_zero, List.set_cons_succ, i64_w, i32_w]
            rfl
           refine pure_ (i := 16) (N := some 61) (v := ?_) (a' := ?_) #[true, true, true, true, true, true, true, true, true, true, true, true, true, true, true, true, true, false, false, false, false, false, false, false] rfl rfl (any_of HT_.out kr) (fun _ _ _ h => h) (Or.inl ⟨by rfl, ?_⟩) ?_ ?_
           rotate_left
           ·intro w'
            go_simp
            with_reducible rfl
           rotate_left
           ·simp only [Act.put, List.setIfInBounds_toArray, List.set_cons_zero, List.set_cons_succ, i64_w, i32_w]
            rfl
           refine pure_ (i := 17) (N := some 62) (v := ?_) (a' := ?_) #[true, true, true, true, true, true, true, true, true, true, true, true, true, true, true, true, true, true, false, false, false, false, false, false] rfl rfl (any_of HT_.out kr) (fun _ _ _ h => h) (Or.inl ⟨by rfl, ?_⟩) ?_ ?_
           rotate_left
           ·intro w'
            go_simp
            with_reducible rfl
           rotate_left
           ·simp only [Act.put, List.setIfInBounds_toArray, List.set_cons_zero, List.set_cons_succ, i64_w, i32_w]
            rfl
           refine pure_ (i := 18) (N := some 63) (v := undef) (a' := ?_) #[true, true, true, true, true, true, true, true, true, true, true, true, true, true, true, true, true, true, true, false, false, false, false, false] rfl rfl (any_of HT_.out kr) (fun _ _ _ h => h) (Or.inr ⟨by rfl, rfl⟩) ?_ ?_
           rotate_left
           ·simp only [Act.put, List.setIfInBounds_toArray, List.set_cons_zero, List.set_cons_succ, i64_w, i32_w]
            rfl
           refine pure_ (i := 19) (N := some 64) (v := undef) (a' := ?_) #[true, true, true, true, true, true, true, true, true, true, true, true, true, true, true, true, true, true, true, true, false, false, false, false] rfl rfl (any_of HT_.out kr) (fun _ _ _ h => h) (Or.inr ⟨by rfl, rfl⟩) ?_ ?_
           rotate_left
           ·simp only [Act.put, List.setIfInBounds_toArray, List.set_cons_zero, List.set_cons_succ, i64_w, i32_w]
            rfl
           refine pure_ (i := 20) (N := some 65) (v := undef) (a' := ?_) #[true, true, true, true, true, true, true, true, true, true, true, true, true, true, true, true, true, true, true, true, true, false, false, false] rfl rfl (any_of HT_.out kr) (fun _ _ _ h => h) (Or.inr ⟨by rfl, rfl⟩) ?_ ?_
           rotate_left
           ·simp only [Act.put, List.setIfInBounds_toArray, List.set_cons_zero, List.set_cons_succ, i64_w, i32_w]
            rfl
           refine pure_ (i := 21) (N := some 66) (v := ?_) (a' := ?_) #[true, true, true, true, true, true, true, true, true, true, true, true, true, true, true, true, true, true, true, true, true, true, false, false] rfl rfl (any_of HT_.out kr) (fun _ _ _ h => h) (Or.inl ⟨by rfl, ?_⟩) ?_ ?_
           rotate_left
           ·intro w'
            go_simp
            with_reducible rfl
           rotate_left
           ·simp only [Act.put, List.setIfInBounds_toArray, List.set_cons_zero, List.set_cons_succ, i64_w, i32_w]
            rfl
           refine pure_ (i := 22) (N := some 67) (v := ?_) (a' := ?_) #[true, true, true, true, true, true, true, true, true, true, true, true, true, true, true, true, true, true, true, true, true, true, true, false] rfl rfl (any_of HT_.out kr) (fun _ _ _ h => h) (Or.inl ⟨by rfl, ?_⟩) ?_ ?_
           rotate_left
           ·intro w'
            go_simp
            with_reducible rfl
           rotate_left
           ·simp only [Act.put, List.setIfInBounds_toArray, List.set_cons_zero, List.set_cons_succ, i64_w, i32_w]
            rfl
           refine pure_ (i := 23) (N := some 6) (v := ?_) (a' := ?_) #[true, true, true, true, true, true, true, true, true, true, true, true, true, true, true, true, true, true, true, true, true, true, true, true] rfl rfl (any_of HT_.out kr) (fun _ _ _ h => h) (Or.inl ⟨by rfl, ?_⟩) ?_ ?_
           rotate_left
           ·intro w'
            go_simp
            with_reducible rfl
           rotate_left
           ·simp only [Act.put, List.setIfInBounds_toArray, List.set_cons_zero, List.set_cons_succ, i64_w, i32_w]
            rfl
           refine done_ (done_of HT_.out kr) ?_
           try go_wp2
           go_ret
           exact ⟨er2, bx_bl⟩
          ·rw [if_neg c155] at H
           have c155b0 : (a0 == 2) = false := beq_eq_false_iff_ne.mpr c155
           have c155b1 : (a0 != 2) = true := bne_iff_ne.mpr c155
           by_cases c164 : a0 = 3
           ·rw [if_pos c164] at H
            have c164b0 : (a0 == 3) = true := beq_iff_eq.mpr c164
            have c164b1 : (a0 != 3) = false := bne_eq_false_iff_eq.mpr c164
            clear c164
            clear HR
            obtain rfl := Option.some.inj H
            try go_wp2_with (first | ((with_reducible refine gate_callee (f := 25) rfl ?_); refine goesL_ (some 44) rfl rfl Tryd.func25 kr rfl #[.int .i64 2] rfl ga ?_; (with_reducible refine (value_Fault.calls 2 t1344 t1345 t1346 t1347 t1348 t1349 _ A143.out).mono ?_); rintro e w165 ⟨rfl, hb⟩; refine ⟨_, rfl, ?_⟩; replace BX := bx_call hb; clear hb))
            replace BX : Bx w ((((((w165.setCell ⟨gb1334, 0, none⟩ (.int .i64 t1344)).setCell ⟨gb1334, 1, none⟩ (.int .i64 t1345)).setCell ⟨gb1334, 2, none⟩ (.int .i64 t1346)).setCell ⟨gb1334, 3, none⟩ (.string t1347)).setCell ⟨gb1334, 4, none⟩ (.bool t1348)).setCell ⟨gb1334, 5, none⟩ (.int .i64 t1349)) _ := bxi
            generalize ((((((w165.setCell ⟨gb1334, 0, none⟩ (.int .i64 t1344)).setCell ⟨gb1334, 1, none⟩ (.int .i64 t1345)).setCell ⟨gb1334, 2, none⟩ (.int .i64 t1346)).setCell ⟨gb1334, 3, none⟩ (.string t1347)).setCell ⟨gb1334, 4, none⟩ (.bool t1348)).setCell ⟨gb1334, 5, none⟩ (.int .i64 t1349)) = w170 at BX ⊢
            refine startm [false, true, true, true] (n := 24) (ds := []) #[false, false, false, false, false, false, false, false, false, false, false, false, false, false, false, false, false, false, false, false, false, false, false, false] kr rfl rfl (fun BX1 => ?_); refine with_tabW whittlelaw2_ValueFaults.tab10 whittlelaw2_ValueFaults.bits10 (fun HT_ HW_ => ?_)
            clear BX
            have BX := BX1
            clear BX1
            generalize w170.drew = w171 at BX ⊢
            refine pure_ (i := 0) (N := some 45) (v := ?_) (a' := ?_) #[true, false, false, false, false, false, false, false, false, false, false, false, false, false, false, false, false, false, false, false, false, false, false, false] rfl rfl (any_of HT_.out kr) (fun _ _ _ h => h) (Or.inl ⟨by rfl, ?_⟩) ?_ ?_
            rotate_left
            ·intro w'
             go_simp
             with_reducible rfl
            rotate_left
            ·simp only [Act.put, List.setIfInBounds_toArray, List.set_cons_zero, List.set_cons_succ, i64_w, i32_w]
             rfl
            refine take_ (i := 1) (N := some 46) (v := ?_) (a' := ?_) #[true, true, false, false, false, false, false, false, false, false, false, false, false, false, false, false, false, false, false, false, false, false, false, false] rfl rfl (take_ofW HT_.out HW_.out kr) (fun _ _ _ h => h) (Or.inl ⟨by rfl, ?_⟩) bxs ?_ ?_
            rotate_left
            ·intro w' hS
             go_simp
             with_reducible rfl
            rotate_left
            ·simp only [Act.put, List.setIfInBounds_toArray, List.set_cons_zero, List.set_cons_succ, i64_w, i32_w]
             rfl
            refine take_ (i := 2) (N := some 47) (v := ?_) (a' := ?_) #[true, true, true, false, false, false, false, false, false, false, false, false, false, false, false, false, false, false, false, false, false, false, false, false] rfl rfl (take_ofW HT_.out HW_.out kr) (fun _ _ _ h => h) (Or.inl ⟨by rfl, ?_⟩) bxs ?_ ?_
            rotate_left
            ·intro w' hS
             go_simp
             with_reducible rfl
            rotate_left
            ·simp only [Act.put, List.setIfInBounds_toArray, List.set_cons_zero, List.set_cons_succ, i64_w, i32_w]
             rfl
            refine take_ (i := 4) (N := some 49) (v := ?_) (a' := ?_) #[true, true, true, false, true, false, false, false, false, false, false, false, false, false, false, false, false, false, false, false, false, false, false, false] rfl rfl (take_ofW HT_.out HW_.out kr) (fun _ _ _ h => h) (Or.inl ⟨by rfl, ?_⟩) bxs ?_ ?_
            rotate_left
            ·intro w' hS
             go_simp
             with_reducible rfl
            rotate_left
            ·simp only [Act.put, List.setIfInBounds_toArray, List.set_cons_zero, List.set_cons_succ, i64_w, i32_w]
             rfl
            refine one_ (i := 3) (N := some 48) #[true, true, true, true, true, false, false, false, false, false, false, false, false, false, false, false, false, false, false, false, false, false, false, false] rfl rfl (one_of HT_.out kr) (by decide) (fun K hK => ?_)
            refine goes_ Tryd.func31 kr rfl #[.int .i64 a0, .agg #[.int .i64 a1_0, .int .i64 a1_1, .int .i64 a1_2, .string a1_3, .bool a1_4, .int .i64 a1_5], .agg #[.int .i64 a2_0, .int .i64 a2_1, .int .i64 a2_2, .string a2_3, .bool a2_4, .int .i64 a2_5]] (by rfl) rfl rfl ga ?_
            with_reducible refine (value_Bin.calls kj39 a0 a1_0 a1_1 a1_2 a1_3 a1_4 a1_5 a2_0 a2_1 a2_2 a2_3 a2_4 a2_5 t1350 t1351 t1352 t1353 t1354 t1355 _ ?side1 A144.out).mono ?_
            (case side1 => exact HT.out.on bx_bl)
            rintro e w172 ⟨rfl, hb⟩
            refine ⟨_, rfl, ?_⟩
            replace BX := bx_call hb
            clear hb
            refine hK.out _ _ bxs (fun hHeld => ?_)
            clear hK K hHeld
            refine norm_ (a' := ?_) ?_ ?_
            rotate_left
            ·show Act.put _ (some 48) _ = _
             simp only [Act.put, List.setIfInBounds_toArray, List.set_cons_zero, List.set_cons_succ, i64_w, i32_w]
             rfl
            refine pure_ (i := 5) (N := some 50) (v := ?_) (a' := ?_) #[true, true, true, true, true, true, false, false, false, false, false, false, false, false, false, false, false, false, false, false, false, false, false, false] rfl rfl (any_of HT_.out kr) (fun _ _ _ h => h) (Or.inl ⟨by rfl, ?_⟩) ?_ ?_
            rotate_left
            ·intro w'
             go_simp
             with_reducible rfl
            rotate_left
            ·simp only [Act.put, List.setIfInBounds_toArray, List.set_cons_zero, List.set_cons_succ, i64_w, i32_w]
             rfl
            refine pure_ (i := 6) (N := some 51) (v := ?_) (a' := ?_) #[true, true, true, true, true, true, true, false, false, false, false, false, false, false, false, false, false, false, false, false, false, false, false, false] rfl rfl (any_of HT_.out kr) (fun _ _ _ h => h) (Or.inl ⟨by rfl, ?_⟩) ?_ ?_
            rotate_left
            ·intro w'
             go_simp
             with_reducible rfl
            rotate_left
            ·simp only [Act.put, List.setIfInBounds_toArray, List.set_cons_zero, List.set_cons_succ, i64_w, i32_w]
             rfl
            refine pure_ (i := 7) (N := some 52) (v := ?_) (a' := ?_) #[true, true, true, true, true, true, true, true, false, false, false, false, false, false, false, false, false, false, false, false, false, false, false, false] rfl rfl (any_of HT_.out kr) (fun _ _ _ h => h) (Or.inl ⟨by rfl, ?_⟩) ?_ ?_
            rotate_left
            ·intro w'
             go_simp
             with_reducible rfl
            rotate_left
            ·simp only [Act.put, List.setIfInBounds_toArray, List.set_cons_zero, List.set_cons_succ, i64_w, i32_w]
             rfl
            refine pure_ (i := 8) (N := some 53) (v := ?_) (a' := ?_) #[true, true, true, true, true, true, true, true, true, false, false, false, false, false, false, false, false, false, false, false, false, false, false, false] rfl rfl (any_of HT_.out kr) (fun _ _ _ h => h) (Or.inl ⟨by rfl, ?_⟩) ?_ ?_
            rotate_left
            ·intro w'
             go_simp
             with_reducible rfl
            rotate_left
            ·simp only [Act.put, List.setIfInBounds_toArray, List.set_cons_zero, List.set_cons_succ, i64_w, i32_w]
             rfl
            refine pure_ (i := 9) (N := some 54) (v := ?_) (a' := ?_) #[true, true, true, true, true, true, true, true, true, true, false, false, false, false, false, false, false, false, false, false, false, false, false, false] rfl rfl (any_of HT_.out kr) (fun _ _ _ h => h) (Or.inl ⟨by rfl, ?_⟩) ?_ ?_
            rotate_left
            ·intro w'
             go_simp
             with_reducible rfl
            rotate_left
            ·simp only [Act.put, List.setIfInBounds_toArray, List.set_cons_zero, List.set_cons_succ, i64_w, i32_w]
             rfl
            refine pure_ (i := 10) (N := some 55) (v := ?_) (a' := ?_) #[true, true, true, true, true, true, true, true, true, true, true, false, false, false, false, false, false, false, false, false, false, false, false, false] rfl rfl (any_of HT_.out kr) (fun _ _ _ h => h) (Or.inl ⟨by rfl, ?_⟩) ?_ ?_
            rotate_left
            ·intro w'
             go_simp
             with_reducible rfl
            rotate_left
            ·simp only [Act.put, List.setIfInBounds_toArray, List.set_cons_zero, List.set_cons_succ, i64_w, i32_w]
             rfl
            refine pure_ (i := 11) (N := some 56) (v := ?_) (a' := ?_) #[true, true, true, true, true, true, true, true, true, true, true, true, false, false, false, false, false, false, false, false, false, false, false, false] rfl rfl (any_of HT_.out kr) (fun _ _ _ h => h) (Or.inl ⟨by rfl, ?_⟩) ?_ ?_
            rotate_left
            ·intro w'
             go_simp
             with_reducible rfl
            rotate_left
            ·simp only [Act.put, List.setIfInBounds_toArray, List.set_cons_zero, List.set_cons_succ, i64_w, i32_w]
             rfl
            refine pure_ (i := 12) (N := some 57) (v := ?_) (a' := ?_) #[true, true, true, true, true, true, true, true, true, true, true, true, true, false, false, false, false, false, false, false, false, false, false, false] rfl rfl (any_of HT_.out kr) (fun _ _ _ h => h) (Or.inl ⟨by rfl, ?_⟩) ?_ ?_
            rotate_left
            ·intro w'
             go_simp
             with_reducible rfl
            rotate_left
            ·simp only [Act.put, List.setIfInBounds_toArray, List.set_cons_zero, List.set_cons_succ, i64_w, i32_w]
             rfl
            refine pure_ (i := 13) (N := some 58) (v := ?_) (a' := ?_) #[true, true, true, true, true, true, true, true, true, true, true, true, true, true, false, false, false, false, false, false, false, false, false, false] rfl rfl (any_of HT_.out kr) (fun _ _ _ h => h) (Or.inl ⟨by rfl, ?_⟩) ?_ ?_
            rotate_left
            ·intro w'
             go_simp
             with_reducible rfl
            rotate_left
            ·simp only [Act.put, List.setIfInBounds_toArray, List.set_cons_zero, List.set_cons_succ, i64_w, i32_w]
             rfl
            refine pure_ (i := 14) (N := some 59) (v := ?_) (a' := ?_) #[true, true, true, true, true, true, true, true, true, true, true, true, true, true, true, false, false, false, false, false, false, false, false, false] rfl rfl (any_of HT_.out kr) (fun _ _ _ h => h) (Or.inl ⟨by rfl, ?_⟩) ?_ ?_
            rotate_left
            ·intro w'
             go_simp
             with_reducible rfl
            rotate_left
            ·simp only [Act.put, List.setIfInBounds_toArray, List.set_cons_zero, List.set_cons_succ, i64_w, i32_w]
             rfl
            refine pure_ (i := 15) (N := some 60) (v := ?_) (a' := ?_) #[true, true, true, true, true, true, true, true, true, true, true, true, true, true, true, true, false, false, false, false, false, false, false, false] rfl rfl (any_of HT_.out kr) (fun _ _ _ h => h) (Or.inl ⟨by rfl, ?_⟩) ?_ ?_
            rotate_left
            ·intro w'
             go_simp
             with_reducible rfl
            rotate_left
            ·simp only [Act.put, List.setIfInBounds_toArray, List.set_cons_zero, List.set_cons_succ, i64_w, i32_w]
             rfl
            refine pure_ (i := 16) (N := some 61) (v := ?_) (a' := ?_) #[true, true, true, true, true, true, true, true, true, true, true, true, true, true, true, true, true, false, false, false, false, false, false, false] rfl rfl (any_of HT_.out kr) (fun _ _ _ h => h) (Or.inl ⟨by rfl, ?_⟩) ?_ ?_
            rotate_left
            ·intro w'
             go_simp
             with_reducible rfl
            rotate_left
            ·simp only [Act.put, List.setIfInBounds_toArray, List.set_cons_zero, List.set_cons_succ, i64_w, i32_w]
             rfl
            refine pure_ (i := 17) (N := some 62) (v := ?_) (a' := ?_) #[true, true, true, true, true, true, true, true, true, true, true, true, true, true, true, true, true, true, false, false, false, false, false, false] rfl rfl (any_of HT_.out kr) (fun _ _ _ h => h) (Or.inl ⟨by rfl, ?_⟩) ?_ ?_
            rotate_left
            ·intro w'
             go_simp
             with_reducible rfl
            rotate_left
            ·simp only [Act.put, List.setIfInBounds_toArray, List.set_cons_zero, List.set_cons_succ, i64_w, i32_w]
             rfl
            refine pure_ (i := 18) (N := some 63) (v := undef) (a' := ?_) #[true, true, true, true, true, true, true, true, true, true, true, true, true, true, true, true, true, true, true, false, false, false, false, false] rfl rfl (any_of HT_.out kr) (fun _ _ _ h => h) (Or.inr ⟨by rfl, rfl⟩) ?_ ?_
            rotate_left
            ·simp only [Act.put, List.setIfInBounds_toArray, List.set_cons_zero, List.set_cons_succ, i64_w, i32_w]
             rfl
            refine pure_ (i := 19) (N := some 64) (v := undef) (a' := ?_) #[true, true, true, true, true, true, true, true, true, true, true, true, true, true, true, true, true, true, true, true, false, false, false, false] rfl rfl (any_of HT_.out kr) (fun _ _ _ h => h) (Or.inr ⟨by rfl, rfl⟩) ?_ ?_
            rotate_left
            ·simp only [Act.put, List.setIfInBounds_toArray, List.set_cons_zero, List.set_cons_succ, i64_w, i32_w]
             rfl
            refine pure_ (i := 20) (N := some 65) (v := undef) (a' := ?_) #[true, true, true, true, true, true, true, true, true, true, true, true, true, true, true, true, true, true, true, true, true, false, false, false] rfl rfl (any_of HT_.out kr) (fun _ _ _ h => h) (Or.inr ⟨by rfl, rfl⟩) ?_ ?_
            rotate_left
            ·simp only [Act.put, List.setIfInBounds_toArray, List.set_cons_zero, List.set_cons_succ, i64_w, i32_w]
             rfl
            refine pure_ (i := 21) (N := some 66) (v := ?_) (a' := ?_) #[true, true, true, true, true, true, true, true, true, true, true, true, true, true, true, true, true, true, true, true, true, true, false, false] rfl rfl (any_of HT_.out kr) (fun _ _ _ h => h) (Or.inl ⟨by rfl, ?_⟩) ?_ ?_
            rotate_left
            ·intro w'
             go_simp
             with_reducible rfl
            rotate_left
            ·simp only [Act.put, List.setIfInBounds_toArray, List.set_cons_zero, List.set_cons_succ, i64_w, i32_w]
             rfl
            refine pure_ (i := 22) (N := some 67) (v := ?_) (a' := ?_) #[true, true, true, true, true, true, true, true, true, true, true, true, true, true, true, true, true, true, true, true, true, true, true, false] rfl rfl (any_of HT_.out kr) (fun _ _ _ h => h) (Or.inl ⟨by rfl, ?_⟩) ?_ ?_
            rotate_left
            ·intro w'
             go_simp
             with_reducible rfl
            rotate_left
            ·simp only [Act.put, List.setIfInBounds_toArray, List.set_cons_zero, List.set_cons_succ, i64_w, i32_w]
             rfl
            refine pure_ (i := 23) (N := some 6) (v := ?_) (a' := ?_) #[true, true, true, true, true, true, true, true, true, true, true, true, true, true, true, true, true, true, true, true, true, true, true, true] rfl rfl (any_of HT_.out kr) (fun _ _ _ h => h) (Or.inl ⟨by rfl, ?_⟩) ?_ ?_
            rotate_left
            ·intro w'
             go_simp
             with_reducible rfl
            rotate_left
            ·simp only [Act.put, List.setIfInBounds_toArray, List.set_cons_zero, List.set_cons_succ, i64_w, i32_w]
             rfl
            refine done_ (done_of HT_.out kr) ?_
            try go_wp2
            go_ret
            exact ⟨er2, bx_bl⟩
           ·rw [if_neg c164] at H
            have c164b0 : (a0 == 3) = false := beq_eq_false_iff_ne.mpr c164
            have c164b1 : (a0 != 3) = true := bne_iff_ne.mpr c164
            clear HR
            obtain rfl := Option.some.inj H
            try go_wp2_with (first | ((with_reducible refine gate_callee (f := 25) rfl ?_); refine goesL_ (some 44) rfl rfl Tryd.func25 kr rfl #[.int .i64 2] rfl ga ?_; (with_reducible refine (value_Fault.calls 2 t1344 t1345 t1346 t1347 t1348 t1349 _ A143.out).mono ?_); rintro e w173 ⟨rfl, hb⟩; refine ⟨_, rfl, ?_⟩; replace BX := bx_call hb; clear hb))
            replace BX : Bx w ((((((w173.setCell ⟨gb1334, 0, none⟩ (.int .i64 t1344)).setCell ⟨gb1334, 1, none⟩ (.int .i64 t1345)).setCell ⟨gb1334, 2, none⟩ (.int .i64 t1346)).setCell ⟨gb1334, 3, none⟩ (.string t1347)).setCell ⟨gb1334, 4, none⟩ (.bool t1348)).setCell ⟨gb1334, 5, none⟩ (.int .i64 t1349)) _ := bxi
            generalize ((((((w173.setCell ⟨gb1334, 0, none⟩ (.int .i64 t1344)).setCell ⟨gb1334, 1, none⟩ (.int .i64 t1345)).setCell ⟨gb1334, 2, none⟩ (.int .i64 t1346)).setCell ⟨gb1334, 3, none⟩ (.string t1347)).setCell ⟨gb1334, 4, none⟩ (.bool t1348)).setCell ⟨gb1334, 5, none⟩ (.int .i64 t1349)) = w178 at BX ⊢
            refine startm [true, true, true, true] (n := 24) (ds := []) #[false, false, false, false, false, false, false, false, false, false, false, false, false, false, false, false, false, false, false, false, false, false, false, false] kr rfl rfl (fun BX1 => ?_); refine with_tabW whittlelaw2_ValueFaults.tab10 whittlelaw2_ValueFaults.bits10 (fun HT_ HW_ => ?_)
            clear BX
            have BX := BX1
            clear BX1
            generalize w178.drew = w179 at BX ⊢
            refine pure_ (i := 0) (N := some 45) (v := ?_) (a' := ?_) #[true, false, false, false, false, false, false, false, false, false, false, false, false, false, false, false, false, false, false, false, false, false, false, false] rfl rfl (any_of HT_.out kr) (fun _ _ _ h => h) (Or.inl ⟨by rfl, ?_⟩) ?_ ?_
            rotate_left
            ·intro w'
             go_simp
             with_reducible rfl
            rotate_left
            ·simp only [Act.put, List.setIfInBounds_toArray, List.set_cons_zero, List.set_cons_succ, i64_w, i32_w]
             rfl
            refine take_ (i := 1) (N := some 46) (v := ?_) (a' := ?_) #[true, true, false, false, false, false, false, false, false, false, false, false, false, false, false, false, false, false, false, false, false, false, false, false] rfl rfl (take_ofW HT_.out HW_.out kr) (fun _ _ _ h => h) (Or.inl ⟨by rfl, ?_⟩) bxs ?_ ?_
            rotate_left
            ·intro w' hS
             go_simp
             with_reducible rfl
            rotate_left
            ·simp only [Act.put, List.setIfInBounds_toArray, List.set_cons_zero, List.set_cons_succ, i64_w, i32_w]
             rfl
            refine take_ (i := 2) (N := some 47) (v := ?_) (a' := ?_) #[true, true, true, false, false, false, false, false, false, false, false, false, false, false, false, false, false, false, false, false, false, false, false, false] rfl rfl (take_ofW HT_.out HW_.out kr) (fun _ _ _ h => h) (Or.inl ⟨by rfl, ?_⟩) bxs ?_ ?_
            rotate_left
            ·intro w' hS
             go_simp
             with_reducible rfl
            rotate_left
            ·simp only [Act.put, List.setIfInBounds_toArray, List.set_cons_zero, List.set_cons_succ, i64_w, i32_w]
             rfl
            refine take_ (i := 4) (N := some 49) (v := ?_) (a' := ?_) #[true, true, true, false, true, false, false, false, false, false, false, false, false, false, false, false, false, false, false, false, false, false, false, false] rfl rfl (take_ofW HT_.out HW_.out kr) (fun _ _ _ h => h) (Or.inl ⟨by rfl, ?_⟩) bxs ?_ ?_
            rotate_left
            ·intro w' hS
             go_simp
             with_reducible rfl
            rotate_left
            ·simp only [Act.put, List.setIfInBounds_toArray, List.set_cons_zero, List.set_cons_succ, i64_w, i32_w]
             rfl
            refine one_ (i := 3) (N := some 48) #[true, true, true, true, true, false, false, false, false, false, false, false, false, false, false, false, false, false, false, false, false, false, false, false] rfl rfl (one_of HT_.out kr) (by decide) (fun K hK => ?_)
            refine goes_ Tryd.func31 kr rfl #[.int .i64 a0, .agg #[.int .i64 a1_0, .int .i64 a1_1, .int .i64 a1_2, .string a1_3, .bool a1_4, .int .i64 a1_5], .agg #[.int .i64 a2_0, .int .i64 a2_1, .int .i64 a2_2, .string a2_3, .bool a2_4, .int .i64 a2_5]] (by rfl) rfl rfl ga ?_
            with_reducible refine (value_Bin.calls kj39 a0 a1_0 a1_1 a1_2 a1_3 a1_4 a1_5 a2_0 a2_1 a2_2 a2_3 a2_4 a2_5 t1350 t1351 t1352 t1353 t1354 t1355 _ ?side1 A144.out).mono ?_
            (case side1 => exact HT.out.on bx_bl)
            rintro e w180 ⟨rfl, hb⟩
            refine ⟨_, rfl, ?_⟩
            replace BX := bx_call hb
            clear hb
            refine hK.out _ _ bxs (fun hHeld => ?_)
            clear hK K hHeld
            refine norm_ (a' := ?_) ?_ ?_
            rotate_left
            ·show Act.put _ (some 48) _ = _
             simp only [Act.put, List.setIfInBounds_toArray, List.set_cons_zero, List.set_cons_succ, i64_w, i32_w]
             rfl
            refine pure_ (i := 5) (N := some 50) (v := ?_) (a' := ?_) #[true, true, true, true, true, true, false, false, false, false, false, false, false, false, false, false, false, false, false, false, false, false, false, false] rfl rfl (any_of HT_.out kr) (fun _ _ _ h => h) (Or.inl ⟨by rfl, ?_⟩) ?_ ?_
            rotate_left
            ·intro w'
             go_simp
             with_reducible rfl
            rotate_left
            ·simp only [Act.put, List.setIfInBounds_toArray, List.set_cons_zero, List.set_cons_succ, i64_w, i32_w]
             rfl
            refine pure_ (i := 6) (N := some 51) (v := ?_) (a' := ?_) #[true, true, true, true, true, true, true, false, false, false, false, false, false, false, false, false, false, false, false, false, false, false, false, false] rfl rfl (any_of HT_.out kr) (fun _ _ _ h => h) (Or.inl ⟨by rfl, ?_⟩) ?_ ?_
            rotate_left
            ·intro w'
             go_simp
             with_reducible rfl
            rotate_left
            ·simp only [Act.put, List.setIfInBounds_toArray, List.set_cons_zero, List.set_cons_succ, i64_w, i32_w]
             rfl
            refine pure_ (i := 7) (N := some 52) (v := ?_) (a' := ?_) #[true, true, true, true, true, true, true, true, false, false, false, false, false, false, false, false, false, false, false, false, false, false, false, false] rfl rfl (any_of HT_.out kr) (fun _ _ _ h => h) (Or.inl ⟨by rfl, ?_⟩) ?_ ?_
            rotate_left
            ·intro w'
             go_simp
             with_reducible rfl
            rotate_left
            ·simp only [Act.put, List.setIfInBounds_toArray, List.set_cons_zero, List.set_cons_succ, i64_w, i32_w]
             rfl
            refine pure_ (i := 8) (N := some 53) (v := ?_) (a' := ?_) #[true, true, true, true, true, true, true, true, true, false, false, false, false, false, false, false, false, false, false, false, false, false, false, false] rfl rfl (any_of HT_.out kr) (fun _ _ _ h => h) (Or.inl ⟨by rfl, ?_⟩) ?_ ?_
            rotate_left
            ·intro w'
             go_simp
             with_reducible rfl
            rotate_left
            ·simp only [Act.put, List.setIfInBounds_toArray, List.set_cons_zero, List.set_cons_succ, i64_w, i32_w]
             rfl
            refine pure_ (i := 9) (N := some 54) (v := ?_) (a' := ?_) #[true, true, true, true, true, true, true, true, true, true, false, false, false, false, false, false, false, false, false, false, false, false, false, false] rfl rfl (any_of HT_.out kr) (fun _ _ _ h => h) (Or.inl ⟨by rfl, ?_⟩) ?_ ?_
            rotate_left
            ·intro w'
             go_simp
             with_reducible rfl
            rotate_left
            ·simp only [Act.put, List.setIfInBounds_toArray, List.set_cons_zero, List.set_cons_succ, i64_w, i32_w]
             rfl
            refine pure_ (i := 10) (N := some 55) (v := ?_) (a' := ?_) #[true, true, true, true, true, true, true, true, true, true, true, false, false, false, false, false, false, false, false, false, false, false, false, false] rfl rfl (any_of HT_.out kr) (fun _ _ _ h => h) (Or.inl ⟨by rfl, ?_⟩) ?_ ?_
            rotate_left
            ·intro w'
             go_simp
             with_reducible rfl
            rotate_left
            ·simp only [Act.put, List.setIfInBounds_toArray, List.set_cons_zero, List.set_cons_succ, i64_w, i32_w]
             rfl
            refine pure_ (i := 11) (N := some 56) (v := ?_) (a' := ?_) #[true, true, true, true, true, true, true, true, true, true, true, true, false, false, false, false, false, false, false, false, false, false, false, false] rfl rfl (any_of HT_.out kr) (fun _ _ _ h => h) (Or.inl ⟨by rfl, ?_⟩) ?_ ?_
            rotate_left
            ·intro w'
             go_simp
             with_reducible rfl
            rotate_left
            ·simp only [Act.put, List.setIfInBounds_toArray, List.set_cons_zero, List.set_cons_succ, i64_w, i32_w]
             rfl
            refine pure_ (i := 12) (N := some 57) (v := ?_) (a' := ?_) #[true, true, true, true, true, true, true, true, true, true, true, true, true, false, false, false, false, false, false, false, false, false, false, false] rfl rfl (any_of HT_.out kr) (fun _ _ _ h => h) (Or.inl ⟨by rfl, ?_⟩) ?_ ?_
            rotate_left
            ·intro w'
             go_simp
             with_reducible rfl
            rotate_left
            ·simp only [Act.put, List.setIfInBounds_toArray, List.set_cons_zero, List.set_cons_succ, i64_w, i32_w]
             rfl
            refine pure_ (i := 13) (N := some 58) (v := ?_) (a' := ?_) #[true, true, true, true, true, true, true, true, true, true, true, true, true, true, false, false, false, false, false, false, false, false, false, false] rfl rfl (any_of HT_.out kr) (fun _ _ _ h => h) (Or.inl ⟨by rfl, ?_⟩) ?_ ?_
            rotate_left
            ·intro w'
             go_simp
             with_reducible rfl
            rotate_left
            ·simp only [Act.put, List.setIfInBounds_toArray, List.set_cons_zero, List.set_cons_succ, i64_w, i32_w]
             rfl
            refine pure_ (i := 14) (N := some 59) (v := ?_) (a' := ?_) #[true, true, true, true, true, true, true, true, true, true, true, true, true, true, true, false, false, false, false, false, false, false, false, false] rfl rfl (any_of HT_.out kr) (fun _ _ _ h => h) (Or.inl ⟨by rfl, ?_⟩) ?_ ?_
            rotate_left
            ·intro w'
             go_simp
             with_reducible rfl
            rotate_left
            ·simp only [Act.put, List.setIfInBounds_toArray, List.set_cons_zero, List.set_cons_succ, i64_w, i32_w]
             rfl
            refine pure_ (i := 15) (N := some 60) (v := ?_) (a' := ?_) #[true, true, true, true, true, true, true, true, true, true, true, true, true, true, true, true, false, false, false, false, false, false, false, false] rfl rfl (any_of HT_.out kr) (fun _ _ _ h => h) (Or.inl ⟨by rfl, ?_⟩) ?_ ?_
            rotate_left
            ·intro w'
             go_simp
             with_reducible rfl
            rotate_left
            ·simp only [Act.put, List.setIfInBounds_toArray, List.set_cons_zero, List.set_cons_succ, i64_w, i32_w]
             rfl
            refine pure_ (i := 16) (N := some 61) (v := ?_) (a' := ?_) #[true, true, true, true, true, true, true, true, true, true, true, true, true, true, true, true, true, false, false, false, false, false, false, false] rfl rfl (any_of HT_.out kr) (fun _ _ _ h => h) (Or.inl ⟨by rfl, ?_⟩) ?_ ?_
            rotate_left
            ·intro w'
             go_simp
             with_reducible rfl
            rotate_left
            ·simp only [Act.put, List.setIfInBounds_toArray, List.set_cons_zero, List.set_cons_succ, i64_w, i32_w]
             rfl
            refine pure_ (i := 17) (N := some 62) (v := ?_) (a' := ?_) #[true, true, true, true, true, true, true, true, true, true, true, true, true, true, true, true, true, true, false, false, false, false, false, false] rfl rfl (any_of HT_.out kr) (fun _ _ _ h => h) (Or.inl ⟨by rfl, ?_⟩) ?_ ?_
            rotate_left
            ·intro w'
             go_simp
             with_reducible rfl
            rotate_left
            ·simp only [Act.put, List.setIfInBounds_toArray, List.set_cons_zero, List.set_cons_succ, i64_w, i32_w]
             rfl
            refine take_ (i := 18) (N := some 63) (v := ?_) (a' := ?_) #[true, true, true, true, true, true, true, true, true, true, true, true, true, true, true, true, true, true, true, false, false, false, false, false] rfl rfl (take_ofW HT_.out HW_.out kr) (fun _ _ _ h => h) (Or.inl ⟨by rfl, ?_⟩) bxs ?_ ?_
            rotate_left
            ·intro w' hS
             go_simp
             with_reducible rfl
            rotate_left
            ·simp only [Act.put, List.setIfInBounds_toArray, List.set_cons_zero, List.set_cons_succ, i64_w, i32_w]
             rfl
            refine take_ (i := 19) (N := some 64) (v := ?_) (a' := ?_) #[true, true, true, true, true, true, true, true, true, true, true, true, true, true, true, true, true, true, true, true, false, false, false, false] rfl rfl (take_ofW HT_.out HW_.out kr) (fun _ _ _ h => h) (Or.inl ⟨by rfl, ?_⟩) bxs ?_ ?_
            rotate_left
            ·intro w' hS
             go_simp
             with_reducible rfl
            rotate_left
            ·simp only [Act.put, List.setIfInBounds_toArray, List.set_cons_zero, List.set_cons_succ, i64_w, i32_w]
             rfl
            refine pure_ (i := 20) (N := some 65) (v := ?_) (a' := ?_) #[true, true, true, true, true, true, true, true, true, true, true, true, true, true, true, true, true, true, true, true, true, false, false, false] rfl rfl (any_of HT_.out kr) (fun _ _ _ h => h) (Or.inl ⟨by rfl, ?_⟩) ?_ ?_
            rotate_left
            ·intro w'
             go_simp
             with_reducible rfl
            rotate_left
            ·simp only [Act.put, List.setIfInBounds_toArray, List.set_cons_zero, List.set_cons_succ, i64_w, i32_w]
             rfl
            refine pure_ (i := 21) (N := some 66) (v := ?_) (a' := ?_) #[true, true, true, true, true, true, true, true, true, true, true, true, true, true, true, true, true, true, true, true, true, true, false, false] rfl rfl (any_of HT_.out kr) (fun _ _ _ h => h) (Or.inl ⟨by rfl, ?_⟩) ?_ ?_
            rotate_left
            ·intro w'
             go_simp
             with_reducible rfl
            rotate_left
            ·simp only [Act.put, List.setIfInBounds_toArray, List.set_cons_zero, List.set_cons_succ, i64_w, i32_w]
             rfl
            refine pure_ (i := 22) (N := some 67) (v := ?_) (a' := ?_) #[true, true, true, true, true, true, true, true, true, true, true, true, true, true, true, true, true, true, true, true, true, true, true, false] rfl rfl (any_of HT_.out kr) (fun _ _ _ h => h) (Or.inl ⟨by rfl, ?_⟩) ?_ ?_
            rotate_left
            ·intro w'
             go_simp
             with_reducible rfl
            rotate_left
            ·simp only [Act.put, List.setIfInBounds_toArray, List.set_cons_zero, List.set_cons_succ, i64_w, i32_w]
             rfl
            refine pure_ (i := 23) (N := some 6) (v := ?_) (a' := ?_) #[true, true, true, true, true, true, true, true, true, true, true, true, true, true, true, true, true, true, true, true, true, true, true, true] rfl rfl (any_of HT_.out kr) (fun _ _ _ h => h) (Or.inl ⟨by rfl, ?_⟩) ?_ ?_
            rotate_left
            ·intro w'
             go_simp
             with_reducible rfl
            rotate_left
            ·simp only [Act.put, List.setIfInBounds_toArray, List.set_cons_zero, List.set_cons_succ, i64_w, i32_w]
             rfl
            refine done_ (done_of HT_.out kr) ?_
            try go_wp2
            go_ret
            exact ⟨er2, bx_bl⟩
        ·rw [if_neg c145] at H
         have c145b0 : (t1350 == t1344 && ((t1351 == t1345 && (t1352 == t1346)) && (t1353.toList == t1347.toList && (t1354 == t1348 && (t1355 == t1349))))) = false := by simpa using c145
         (try (have c145b1 : decide (t1350 = t1344 && ((t1351 == t1345 && (t1352 == t1346)) && (t1353.toList == t1347.toList && (t1354 == t1348 && (t1355 == t1349))))) = false := by simpa using c145))
         (try (have c145b2 : (t1350 == t1344 && ((t1351 == t1345 && (t1352 == t1346)) && (t1353.toList == t1347.toList && (t1354 == t1348 && (t1355 == t1349))))) = false := by simpa using c145))
         (try (have c145b3 : ¬ (t1350 = t1344 && ((t1351 == t1345 && (t1352 == t1346)) && (t1353.toList == t1347.toList && (t1354 == t1348 && (t1355 == t1349))))) := by simpa using c145))
         clear c145
         exact absurd (Option.some.inj H) (by rw [HR.out]; decide)
 ·replace c5 := Bool.eq_false_iff.mpr c5
  subst c5
  have H1 : (some false) = some r := by rw [if_neg (show ¬ (false = true) by decide)] at H; exact H
  clear H
  have H := H1
  clear H1
  exact absurd (Option.some.inj H) (by rw [HR.out]; decide)
end
end Go.Proofs.YtmakkdlkgfgaoaaDoor.F
