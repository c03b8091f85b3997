-- Laid by program (wip/tools/genv.sh of this repo) out of the translation; Lean checks it.
import Derived.Test.YtmakkdlkgfgaoaaDoorF100
import Derived.Test.YtmakkdlkgfgaoaaDoorF101
import Derived.Test.YtmakkdlkgfgaoaaDoorF103
import Derived.Test.YtmakkdlkgfgaoaaDoorF104
import Derived.Test.YtmakkdlkgfgaoaaDoorF105
import Derived.Test.YtmakkdlkgfgaoaaDoorF112
import Derived.Test.YtmakkdlkgfgaoaaDoorF0
import Derived.Test.YtmakkdlkgfgaoaaDoorC0
namespace Go.Proofs.YtmakkdlkgfgaoaaDoor.F
open Go.RowKit Go.Proofs.YtmakkdlkgfgaoaaDoorW.PrintWords Go.Proofs.YtmakkdlkgfgaoaaDoorW.PrintLast Go.Proofs.YtmakkdlkgfgaoaaDoorW.PrintMore
attribute [local go_sem] max2_int min2_int max_two min_two max_three min_three max_four min_four   -- for this text's walks alone
set_option linter.unusedVariables false
set_option linter.unusedSimpArgs false
theorem boxes_swap {b : Nat} {w : World} {x y : BoxE} {L : List BoxE} (h : Boxes b w (x :: y :: L)) : Boxes b w (y :: x :: L) := by
  obtain ⟨h1, h2, ⟨h3, h4⟩, h5, h6, h7, h8⟩ := h
  exact ⟨h5, h6, ⟨fun e => h3 e.symm, h7⟩, h1, h2, h4, h8⟩
theorem cell_far {W : World} {p a : Addr} (h : a.block ≠ p.block) (u : Value) : (W.setCell p u).cell? a = W.cell? a := by
  have := Below.heap_setCell W p u a.block h
  simp [World.cell?, this]

attribute [local go_sem high] eqA25
/-! ### whittlelaw2_ValueNumbers: function 14 -/
def whittlelaw2_ValueNumbers.l0 : Nat → List (S25) → List (S23) → List Bool → Int → Int → Int → Int → Int → Int → ByteArray → Bool → Int → Option (Bool)
 | 0, _, _, _, _, _, _, _, _, _, _, _, _ => none
 | k + 1, x13, x14, x15, x16, x1366000, x1366001, x1381000, x1381001, x1381002, x1381003, x1381004, x1381005 => if x16 < 3 then (if 0 ≤ x16 then (if x16 < (x15.length : Int) then (if rdOf false x15 x16 = true then (if x16 < (x13.length : Int) then (if x16 < (x14.length : Int) then ((value_Number.f k ((rd_T23 x14 x16).f0) ((rd_T23 x14 x16).f1)).bind fun bt1424 => (if (!(((rd_T25 x13 x16).f0) == bt1424.1) || ((!(((rd_T25 x13 x16).f1.f0) == bt1424.2.1) || (!(((rd_T25 x13 x16).f1.f1) == bt1424.2.2.1))) || (!((((rd_T25 x13 x16).f2).toList) == bt1424.2.2.2.1.toList) || (!(((rd_T25 x13 x16).f3) == bt1424.2.2.2.2.1) || (!(((rd_T25 x13 x16).f4) == bt1424.2.2.2.2.2)))))) = true then (some false) else (whittlelaw2_ValueNumbers.l0 k x13 x14 x15 (wrap64 (x16 + 1)) x1366000 x1366001 x1381000 x1381001 x1381002 x1381003 x1381004 x1381005))) else (none)) else (none)) else (if x16 < (x13.length : Int) then ((value_Fault.f 4).bind fun bt1433 => (if (!(((rd_T25 x13 x16).f0) == bt1433.1) || ((!(((rd_T25 x13 x16).f1.f0) == bt1433.2.1) || (!(((rd_T25 x13 x16).f1.f1) == bt1433.2.2.1))) || (!((((rd_T25 x13 x16).f2).toList) == bt1433.2.2.2.1.toList) || (!(((rd_T25 x13 x16).f3) == bt1433.2.2.2.2.1) || (!(((rd_T25 x13 x16).f4) == bt1433.2.2.2.2.2)))))) = true then (some false) else (whittlelaw2_ValueNumbers.l0 k x13 x14 x15 (wrap64 (x16 + 1)) x1366000 x1366001 x1381000 x1381001 x1381002 x1381003 x1381004 x1381005))) else (none))) else (none)) else (none)) else ((value_AsNumber.f k x1381000 x1381001 x1381002 x1381003 x1381004 x1381005).bind fun bt1439 => ((value_Un.f k 1 x1381000 x1381001 x1381002 x1381003 x1381004 x1381005).bind fun bt1449 => ((num_Neg.f k x1366000 x1366001).bind fun bt1455 => ((value_Number.f k bt1455.1 bt1455.2).bind fun bt1457 => (if (bt1449.1 == bt1457.1 && ((bt1449.2.1 == bt1457.2.1 && (bt1449.2.2.1 == bt1457.2.2.1)) && (bt1449.2.2.2.1.toList == bt1457.2.2.2.1.toList && (bt1449.2.2.2.2.1 == bt1457.2.2.2.2.1 && (bt1449.2.2.2.2.2 == bt1457.2.2.2.2.2))))) = true then (if (bt1439.2.2.1 == 0 && ((bt1439.2.2.2.1 == 0 && (bt1439.2.2.2.2.1 == 0)) && (bt1439.2.2.2.2.2.1.toList == ([] : List UInt8) && (!bt1439.2.2.2.2.2.2.1 && (bt1439.2.2.2.2.2.2.2 == 0))))) = true then ((value_Number.f k bt1439.1 bt1439.2.1).bind fun bt1463 => (some (bt1463.1 == x1381000 && ((bt1463.2.1 == x1381001 && (bt1463.2.2.1 == x1381002)) && (bt1463.2.2.2.1.toList == x1381003.toList && (bt1463.2.2.2.2.1 == x1381004 && (bt1463.2.2.2.2.2 == x1381005))))))) else (some false)) else (some false))))))
def whittlelaw2_ValueNumbers.f (k : Nat) (a0_0 : Int) (a0_1 : Int) (a1_0 : Int) (a1_1 : Int) : Option (Bool) := (whittlelaw2_able.f k).bind fun t1367 => (if t1367 = true then ((value_Number.f k a0_0 a0_1).bind fun bt1368 => ((value_Number.f k a1_0 a1_1).bind fun bt1374 => ((num_Add.f k a0_0 a0_1 a1_0 a1_1).bind fun bt1382 => ((num_Sub.f k a0_0 a0_1 a1_0 a1_1).bind fun bt1386 => ((num_Mul.f k a0_0 a0_1 a1_0 a1_1).bind fun bt1390 => ((value_Bin.f k 11 bt1368.1 bt1368.2.1 bt1368.2.2.1 bt1368.2.2.2.1 bt1368.2.2.2.2.1 bt1368.2.2.2.2.2 bt1374.1 bt1374.2.1 bt1374.2.2.1 bt1374.2.2.2.1 bt1374.2.2.2.2.1 bt1374.2.2.2.2.2).bind fun bt1394 => ((value_Bin.f k 12 bt1368.1 bt1368.2.1 bt1368.2.2.1 bt1368.2.2.2.1 bt1368.2.2.2.2.1 bt1368.2.2.2.2.2 bt1374.1 bt1374.2.1 bt1374.2.2.1 bt1374.2.2.2.1 bt1374.2.2.2.2.1 bt1374.2.2.2.2.2).bind fun bt1400 => ((value_Bin.f k 13 bt1368.1 bt1368.2.1 bt1368.2.2.1 bt1368.2.2.2.1 bt1368.2.2.2.2.1 bt1368.2.2.2.2.2 bt1374.1 bt1374.2.1 bt1374.2.2.1 bt1374.2.2.2.1 bt1374.2.2.2.2.1 bt1374.2.2.2.2.2).bind fun bt1406 => (whittlelaw2_ValueNumbers.l0 k (([(⟨bt1394.1, (⟨bt1394.2.1, bt1394.2.2.1⟩ : S23), bt1394.2.2.2.1, bt1394.2.2.2.2.1, bt1394.2.2.2.2.2⟩ : S25), (⟨bt1400.1, (⟨bt1400.2.1, bt1400.2.2.1⟩ : S23), bt1400.2.2.2.1, bt1400.2.2.2.2.1, bt1400.2.2.2.2.2⟩ : S25), (⟨bt1406.1, (⟨bt1406.2.1, bt1406.2.2.1⟩ : S23), bt1406.2.2.2.1, bt1406.2.2.2.2.1, bt1406.2.2.2.2.2⟩ : S25)] : List (S25))) (([(⟨bt1382.1, bt1382.2.1⟩ : S23), (⟨bt1386.1, bt1386.2.1⟩ : S23), (⟨bt1390.1, bt1390.2.1⟩ : S23)] : List (S23))) (([bt1382.2.2, bt1386.2.2, bt1390.2.2] : List Bool)) 0 a0_0 a0_1 bt1368.1 bt1368.2.1 bt1368.2.2.1 bt1368.2.2.2.1 bt1368.2.2.2.2.1 bt1368.2.2.2.2.2))))))))) else (some false))
theorem whittlelaw2_ValueNumbers.mono_l : ∀ k, (∀ y0 y1 y2 y3 y4 y5 y6 y7 y8 y9 y10 y11, LeO (whittlelaw2_ValueNumbers.l0 k y0 y1 y2 y3 y4 y5 y6 y7 y8 y9 y10 y11) (whittlelaw2_ValueNumbers.l0 (k + 1) y0 y1 y2 y3 y4 y5 y6 y7 y8 y9 y10 y11))
 | 0 => fun _ _ _ _ _ _ _ _ _ _ _ _ r h => by simp [whittlelaw2_ValueNumbers.l0] at h
 | k + 1 => by
  have ih0 := whittlelaw2_ValueNumbers.mono_l k
  ·intro y0 y1 y2 y3 y4 y5 y6 y7 y8 y9 y10 y11
   unfold whittlelaw2_ValueNumbers.l0
   repeat' first
   | (with_reducible exact ih0 _ _ _ _ _ _ _ _ _ _ _ _)
   | (with_reducible exact num_Add.mono _ _ _ _ _)
   | (with_reducible exact num_Mul.mono _ _ _ _ _)
   | (with_reducible exact num_Neg.mono _ _ _)
   | (with_reducible exact num_Sub.mono _ _ _ _ _)
   | (with_reducible exact value_AsNumber.mono _ _ _ _ _ _ _)
   | (with_reducible exact value_Bin.mono _ _ _ _ _ _ _ _ _ _ _ _ _ _)
   | (with_reducible exact value_Number.mono _ _ _)
   | (with_reducible exact value_Un.mono _ _ _ _ _ _ _ _)
   | (with_reducible exact whittlelaw2_able.mono _)
   | (with_reducible exact LeO.refl _)
   | (with_reducible exact LeO.none _)
   | (with_reducible refine LeO.ite ?_ ?_)
   | (with_reducible refine LeO.bind ?_ (fun _ => ?_))
   | exact ih0 _ _ _ _ _ _ _ _ _ _ _ _
   | exact num_Add.mono _ _ _ _ _
   | exact num_Mul.mono _ _ _ _ _
   | exact num_Neg.mono _ _ _
   | exact num_Sub.mono _ _ _ _ _
   | exact value_AsNumber.mono _ _ _ _ _ _ _
   | exact value_Bin.mono _ _ _ _ _ _ _ _ _ _ _ _ _ _
   | exact value_Number.mono _ _ _
   | exact value_Un.mono _ _ _ _ _ _ _ _
   | exact whittlelaw2_able.mono _
   | exact LeO.none _
   | refine LeO.ite ?_ ?_
   | refine LeO.bind ?_ (fun _ => ?_)
theorem whittlelaw2_ValueNumbers.mono : ∀ a0 a1 a2 a3 k, LeO (whittlelaw2_ValueNumbers.f k a0 a1 a2 a3) (whittlelaw2_ValueNumbers.f (k + 1) a0 a1 a2 a3) := by
 intro a0 a1 a2 a3 k
 have ih0 := whittlelaw2_ValueNumbers.mono_l k
 unfold whittlelaw2_ValueNumbers.f
 repeat' first
   | (with_reducible exact ih0 _ _ _ _ _ _ _ _ _ _ _ _)
   | (with_reducible exact num_Add.mono _ _ _ _ _)
   | (with_reducible exact num_Mul.mono _ _ _ _ _)
   | (with_reducible exact num_Neg.mono _ _ _)
   | (with_reducible exact num_Sub.mono _ _ _ _ _)
   | (with_reducible exact value_AsNumber.mono _ _ _ _ _ _ _)
   | (with_reducible exact value_Bin.mono _ _ _ _ _ _ _ _ _ _ _ _ _ _)
   | (with_reducible exact value_Number.mono _ _ _)
   | (with_reducible exact value_Un.mono _ _ _ _ _ _ _ _)
   | (with_reducible exact whittlelaw2_able.mono _)
   | (with_reducible exact LeO.refl _)
   | (with_reducible exact LeO.none _)
   | (with_reducible refine LeO.ite ?_ ?_)
   | (with_reducible refine LeO.bind ?_ (fun _ => ?_))
   | exact ih0 _ _ _ _ _ _ _ _ _ _ _ _
   | exact num_Add.mono _ _ _ _ _
   | exact num_Mul.mono _ _ _ _ _
   | exact num_Neg.mono _ _ _
   | exact num_Sub.mono _ _ _ _ _
   | exact value_AsNumber.mono _ _ _ _ _ _ _
   | exact value_Bin.mono _ _ _ _ _ _ _ _ _ _ _ _ _ _
   | exact value_Number.mono _ _ _
   | exact value_Un.mono _ _ _ _ _ _ _ _
   | exact whittlelaw2_able.mono _
   | exact LeO.none _
   | refine LeO.ite ?_ ?_
   | refine LeO.bind ?_ (fun _ => ?_)
def whittlelaw2_ValueNumbers.T3 : Bool × List (List Nat × List Nat) := (true, [([], []), ([0], [0]), ([], []), ([2, 1], [2]), ([], []), ([], []), ([4, 1, 3, 0, 1, 4, 5], [1, 4]), ([5, 3, 6, 0, 1, 2, 3, 4, 5, 6], [3, 5])])
def whittlelaw2_ValueNumbers.B3 : List Nat := [0, 1, 0, 7, 0, 0, 63, 127]
theorem whittlelaw2_ValueNumbers.tab3 : rtab .any (opsOf Tryd.f14 3) = whittlelaw2_ValueNumbers.T3 := by kernel_rfl
theorem whittlelaw2_ValueNumbers.bits3 : waitsOk whittlelaw2_ValueNumbers.T3.2 whittlelaw2_ValueNumbers.B3 = true := by kernel_rfl
def whittlelaw2_ValueNumbers.T7 : Bool × List (List Nat × List Nat) := (true, [([], []), ([], []), ([0, 1], [0, 1]), ([], []), ([], []), ([3, 4, 2], [3, 4]), ([], []), ([], []), ([6, 7, 5], [6, 7]), ([2, 5, 8], [2, 5, 8]), ([9, 8, 0, 1, 2, 3, 4, 5, 6, 7, 8, 9], [9])])
def whittlelaw2_ValueNumbers.B7 : List Nat := [0, 0, 3, 0, 0, 31, 0, 0, 255, 511, 1023]
theorem whittlelaw2_ValueNumbers.tab7 : rtab .any (opsOf Tryd.f14 7) = whittlelaw2_ValueNumbers.T7 := by kernel_rfl
theorem whittlelaw2_ValueNumbers.bits7 : waitsOk whittlelaw2_ValueNumbers.T7.2 whittlelaw2_ValueNumbers.B7 = true := by kernel_rfl
def whittlelaw2_ValueNumbers.T13 : Bool × List (List Nat × List Nat) := (true, [([], []), ([], []), ([0, 1], [0, 1]), ([2], [2]), ([3], [3]), ([4], [4]), ([4], [4]), ([5, 6, 4], [4, 5, 6]), ([7, 4], [4, 7]), ([4], [4]), ([4], [4]), ([9, 10, 4], [4, 9, 10]), ([11, 4], [4, 11]), ([12, 4, 4], [4, 12]), ([8, 13, 4], [4, 8, 13]), ([4, 14], [4, 14]), ([15, 13], [15]), ([16], [16]), ([16], [16]), ([17, 18, 16], [16, 17, 18]), ([19, 16], [16, 19]), ([20, 16], [16, 20]), ([21, 16, 16], [16, 21]), ([22], [22]), ([22], [22]), ([23, 24, 22], [22, 23, 24]), ([25, 22], [22, 25]), ([22, 22], [22]), ([26, 27, 22], [22, 26, 27]), ([22, 28, 16], [16, 22, 28]), ([16, 29], [16, 29])])
def whittlelaw2_ValueNumbers.B13 : List Nat := [0, 0, 3, 7, 15, 31, 31, 127, 255, 31, 31, 1567, 3615, 7711, 16383, 32767, 65535, 131071, 131071, 524287, 1048575, 2097151, 4194303, 8388607, 8388607, 33554431, 67108863, 8388607, 268435455, 536870911, 1073741823]
theorem whittlelaw2_ValueNumbers.tab13 : rtab .any (opsOf Tryd.f14 13) = whittlelaw2_ValueNumbers.T13 := by kernel_rfl
theorem whittlelaw2_ValueNumbers.bits13 : waitsOk whittlelaw2_ValueNumbers.T13.2 whittlelaw2_ValueNumbers.B13 = true := by kernel_rfl
def whittlelaw2_ValueNumbers.T16 : Bool × List (List Nat × List Nat) := (true, [([], []), ([0], [0]), ([], []), ([2, 1], [2]), ([3, 3], [3]), ([1, 4], [1, 4]), ([5, 4], [5]), ([6], [6]), ([6], [6]), ([7, 8, 6], [6, 7, 8]), ([6, 9], [6, 9]), ([10, 6], [10]), ([11], [11]), ([12, 11, 11], [11, 12]), ([11], [11]), ([13, 14, 11], [11, 13, 14]), ([11, 15], [11, 15]), ([16, 13, 0, 1, 2, 3, 4, 5, 6, 7, 8, 9, 10, 11, 12, 13, 14, 15, 16], [16])])
def whittlelaw2_ValueNumbers.B16 : List Nat := [0, 1, 0, 7, 15, 31, 63, 127, 127, 511, 1023, 2047, 4095, 8191, 4095, 32767, 65535, 131071]
theorem whittlelaw2_ValueNumbers.tab16 : rtab .any (opsOf Tryd.f14 16) = whittlelaw2_ValueNumbers.T16 := by kernel_rfl
theorem whittlelaw2_ValueNumbers.bits16 : waitsOk whittlelaw2_ValueNumbers.T16.2 whittlelaw2_ValueNumbers.B16 = true := by kernel_rfl
set_option maxHeartbeats 8000000 in
set_option maxRecDepth 100000 in
theorem whittlelaw2_ValueNumbers.calls (k : Nat) (a0_0 : Int) (a0_1 : Int) (a1_0 : Int) (a1_1 : Int) (r : Bool) (w : World) (HT0 : TabAt w) (hr0 : r = true) (h : whittlelaw2_ValueNumbers.f k a0_0 a0_1 a1_0 a1_1 = some r) :
  Calls Tryd.prog 14 #[.agg #[.int .i64 a0_0, .int .i64 a0_1], .agg #[.int .i64 a1_0, .int .i64 a1_1]] w fun e w' => e = .returned (.bool r) ∧ Below w.heap.size w w' := by
 have hu23 := Tryd.underlying23
 have hu25 := Tryd.underlying25
 have HT := Aside0.mk HT0
 clear HT0
 have HR := Aside0.mk hr0
 clear hr0
 have HB := Aside0.mk (Below.refl w.heap.size w)
 have H : ((whittlelaw2_able.f k).bind fun t1367 => (if t1367 = true then ((value_Number.f k a0_0 a0_1).bind fun bt1368 => ((value_Number.f k a1_0 a1_1).bind fun bt1374 => ((num_Add.f k a0_0 a0_1 a1_0 a1_1).bind fun bt1382 => ((num_Sub.f k a0_0 a0_1 a1_0 a1_1).bind fun bt1386 => ((num_Mul.f k a0_0 a0_1 a1_0 a1_1).bind fun bt1390 => ((value_Bin.f k 11 bt1368.1 bt1368.2.1 bt1368.2.2.1 bt1368.2.2.2.1 bt1368.2.2.2.2.1 bt1368.2.2.2.2.2 bt1374.1 bt1374.2.1 bt1374.2.2.1 bt1374.2.2.2.1 bt1374.2.2.2.2.1 bt1374.2.2.2.2.2).bind fun bt1394 => ((value_Bin.f k 12 bt1368.1 bt1368.2.1 bt1368.2.2.1 bt1368.2.2.2.1 bt1368.2.2.2.2.1 bt1368.2.2.2.2.2 bt1374.1 bt1374.2.1 bt1374.2.2.1 bt1374.2.2.2.1 bt1374.2.2.2.2.1 bt1374.2.2.2.2.2).bind fun bt1400 => ((value_Bin.f k 13 bt1368.1 bt1368.2.1 bt1368.2.2.1 bt1368.2.2.2.1 bt1368.2.2.2.2.1 bt1368.2.2.2.2.2 bt1374.1 bt1374.2.1 bt1374.2.2.1 bt1374.2.2.2.1 bt1374.2.2.2.2.1 bt1374.2.2.2.2.2).bind fun bt1406 => (whittlelaw2_ValueNumbers.l0 k (([(⟨bt1394.1, (⟨bt1394.2.1, bt1394.2.2.1⟩ : S23), bt1394.2.2.2.1, bt1394.2.2.2.2.1, bt1394.2.2.2.2.2⟩ : S25), (⟨bt1400.1, (⟨bt1400.2.1, bt1400.2.2.1⟩ : S23), bt1400.2.2.2.1, bt1400.2.2.2.2.1, bt1400.2.2.2.2.2⟩ : S25), (⟨bt1406.1, (⟨bt1406.2.1, bt1406.2.2.1⟩ : S23), bt1406.2.2.2.1, bt1406.2.2.2.2.1, bt1406.2.2.2.2.2⟩ : S25)] : List (S25))) (([(⟨bt1382.1, bt1382.2.1⟩ : S23), (⟨bt1386.1, bt1386.2.1⟩ : S23), (⟨bt1390.1, bt1390.2.1⟩ : S23)] : List (S23))) (([bt1382.2.2, bt1386.2.2, bt1390.2.2] : List Bool)) 0 a0_0 a0_1 bt1368.1 bt1368.2.1 bt1368.2.2.1 bt1368.2.2.2.1 bt1368.2.2.2.2.1 bt1368.2.2.2.2.2))))))))) else (some false))) = some r := h
 clear h
 replace H := Option.bind_eq_some_iff.mp H
 obtain ⟨t1367, A30, H⟩ := H
 replace H : (if t1367 = true then ((value_Number.f k a0_0 a0_1).bind fun bt1368 => ((value_Number.f k a1_0 a1_1).bind fun bt1374 => ((num_Add.f k a0_0 a0_1 a1_0 a1_1).bind fun bt1382 => ((num_Sub.f k a0_0 a0_1 a1_0 a1_1).bind fun bt1386 => ((num_Mul.f k a0_0 a0_1 a1_0 a1_1).bind fun bt1390 => ((value_Bin.f k 11 bt1368.1 bt1368.2.1 bt1368.2.2.1 bt1368.2.2.2.1 bt1368.2.2.2.2.1 bt1368.2.2.2.2.2 bt1374.1 bt1374.2.1 bt1374.2.2.1 bt1374.2.2.2.1 bt1374.2.2.2.2.1 bt1374.2.2.2.2.2).bind fun bt1394 => ((value_Bin.f k 12 bt1368.1 bt1368.2.1 bt1368.2.2.1 bt1368.2.2.2.1 bt1368.2.2.2.2.1 bt1368.2.2.2.2.2 bt1374.1 bt1374.2.1 bt1374.2.2.1 bt1374.2.2.2.1 bt1374.2.2.2.2.1 bt1374.2.2.2.2.2).bind fun bt1400 => ((value_Bin.f k 13 bt1368.1 bt1368.2.1 bt1368.2.2.1 bt1368.2.2.2.1 bt1368.2.2.2.2.1 bt1368.2.2.2.2.2 bt1374.1 bt1374.2.1 bt1374.2.2.1 bt1374.2.2.2.1 bt1374.2.2.2.2.1 bt1374.2.2.2.2.2).bind fun bt1406 => (whittlelaw2_ValueNumbers.l0 k (([(⟨bt1394.1, (⟨bt1394.2.1, bt1394.2.2.1⟩ : S23), bt1394.2.2.2.1, bt1394.2.2.2.2.1, bt1394.2.2.2.2.2⟩ : S25), (⟨bt1400.1, (⟨bt1400.2.1, bt1400.2.2.1⟩ : S23), bt1400.2.2.2.1, bt1400.2.2.2.2.1, bt1400.2.2.2.2.2⟩ : S25), (⟨bt1406.1, (⟨bt1406.2.1, bt1406.2.2.1⟩ : S23), bt1406.2.2.2.1, bt1406.2.2.2.2.1, bt1406.2.2.2.2.2⟩ : S25)] : List (S25))) (([(⟨bt1382.1, bt1382.2.1⟩ : S23), (⟨bt1386.1, bt1386.2.1⟩ : S23), (⟨bt1390.1, bt1390.2.1⟩ : S23)] : List (S23))) (([bt1382.2.2, bt1386.2.2, bt1390.2.2] : List Bool)) 0 a0_0 a0_1 bt1368.1 bt1368.2.1 bt1368.2.2.1 bt1368.2.2.2.1 bt1368.2.2.2.2.1 bt1368.2.2.2.2.2))))))))) else (some false)) = some r := H
 have A3 := Aside0.mk A30
 clear A30
 by_cases c4 : t1367 = true
 ·subst c4
  have H1 : ((value_Number.f k a0_0 a0_1).bind fun bt1368 => ((value_Number.f k a1_0 a1_1).bind fun bt1374 => ((num_Add.f k a0_0 a0_1 a1_0 a1_1).bind fun bt1382 => ((num_Sub.f k a0_0 a0_1 a1_0 a1_1).bind fun bt1386 => ((num_Mul.f k a0_0 a0_1 a1_0 a1_1).bind fun bt1390 => ((value_Bin.f k 11 bt1368.1 bt1368.2.1 bt1368.2.2.1 bt1368.2.2.2.1 bt1368.2.2.2.2.1 bt1368.2.2.2.2.2 bt1374.1 bt1374.2.1 bt1374.2.2.1 bt1374.2.2.2.1 bt1374.2.2.2.2.1 bt1374.2.2.2.2.2).bind fun bt1394 => ((value_Bin.f k 12 bt1368.1 bt1368.2.1 bt1368.2.2.1 bt1368.2.2.2.1 bt1368.2.2.2.2.1 bt1368.2.2.2.2.2 bt1374.1 bt1374.2.1 bt1374.2.2.1 bt1374.2.2.2.1 bt1374.2.2.2.2.1 bt1374.2.2.2.2.2).bind fun bt1400 => ((value_Bin.f k 13 bt1368.1 bt1368.2.1 bt1368.2.2.1 bt1368.2.2.2.1 bt1368.2.2.2.2.1 bt1368.2.2.2.2.2 bt1374.1 bt1374.2.1 bt1374.2.2.1 bt1374.2.2.2.1 bt1374.2.2.2.2.1 bt1374.2.2.2.2.2).bind fun bt1406 => (whittlelaw2_ValueNumbers.l0 k (([(⟨bt1394.1, (⟨bt1394.2.1, bt1394.2.2.1⟩ : S23), bt1394.2.2.2.1, bt1394.2.2.2.2.1, bt1394.2.2.2.2.2⟩ : S25), (⟨bt1400.1, (⟨bt1400.2.1, bt1400.2.2.1⟩ : S23), bt1400.2.2.2.1, bt1400.2.2.2.2.1, bt1400.2.2.2.2.2⟩ : S25), (⟨bt1406.1, (⟨bt1406.2.1, bt1406.2.2.1⟩ : S23), bt1406.2.2.2.1, bt1406.2.2.2.2.1, bt1406.2.2.2.2.2⟩ : S25)] : List (S25))) (([(⟨bt1382.1, bt1382.2.1⟩ : S23), (⟨bt1386.1, bt1386.2.1⟩ : S23), (⟨bt1390.1, bt1390.2.1⟩ : S23)] : List (S23))) (([bt1382.2.2, bt1386.2.2, bt1390.2.2] : List Bool)) 0 a0_0 a0_1 bt1368.1 bt1368.2.1 bt1368.2.2.1 bt1368.2.2.2.1 bt1368.2.2.2.2.1 bt1368.2.2.2.2.2))))))))) = some r := by rw [if_pos rfl] at H; exact H
  clear H
  have H := H1
  clear H1
  replace H := Option.bind_eq_some_iff.mp H
  obtain ⟨⟨t1368, t1369, t1370, t1371, t1372, t1373⟩, A50, H⟩ := H
  have A5 := Aside0.mk A50
  clear A50
  replace H := Option.bind_eq_some_iff.mp H
  obtain ⟨⟨t1374, t1375, t1376, t1377, t1378, t1379⟩, A60, H⟩ := H
  have A6 := Aside0.mk A60
  clear A60
  replace H := Option.bind_eq_some_iff.mp H
  obtain ⟨⟨t1382, t1383, t1384⟩, A70, H⟩ := H
  have A7 := Aside0.mk A70
  clear A70
  replace H := Option.bind_eq_some_iff.mp H
  obtain ⟨⟨t1386, t1387, t1388⟩, A80, H⟩ := H
  have A8 := Aside0.mk A80
  clear A80
  replace H := Option.bind_eq_some_iff.mp H
  obtain ⟨⟨t1390, t1391, t1392⟩, A90, H⟩ := H
  have A9 := Aside0.mk A90
  clear A90
  replace H := Option.bind_eq_some_iff.mp H
  obtain ⟨⟨t1394, t1395, t1396, t1397, t1398, t1399⟩, A100, H⟩ := H
  have A10 := Aside0.mk A100
  clear A100
  replace H := Option.bind_eq_some_iff.mp H
  obtain ⟨⟨t1400, t1401, t1402, t1403, t1404, t1405⟩, A110, H⟩ := H
  have A11 := Aside0.mk A110
  clear A110
  replace H := Option.bind_eq_some_iff.mp H
  obtain ⟨⟨t1406, t1407, t1408, t1409, t1410, t1411⟩, A120, H⟩ := H
  replace H : (whittlelaw2_ValueNumbers.l0 k (([(⟨t1394, (⟨t1395, t1396⟩ : S23), t1397, t1398, t1399⟩ : S25), (⟨t1400, (⟨t1401, t1402⟩ : S23), t1403, t1404, t1405⟩ : S25), (⟨t1406, (⟨t1407, t1408⟩ : S23), t1409, t1410, t1411⟩ : S25)] : List (S25))) (([(⟨t1382, t1383⟩ : S23), (⟨t1386, t1387⟩ : S23), (⟨t1390, t1391⟩ : S23)] : List (S23))) (([t1384, t1388, t1392] : List Bool)) 0 a0_0 a0_1 t1368 t1369 t1370 t1371 t1372 t1373) = some r := H
  have A12 := Aside0.mk A120
  clear A120
  obtain ⟨y1412, hy1412⟩ : ∃ y_ : List (S25), y_ = (([(⟨t1394, (⟨t1395, t1396⟩ : S23), t1397, t1398, t1399⟩ : S25), (⟨t1400, (⟨t1401, t1402⟩ : S23), t1403, t1404, t1405⟩ : S25), (⟨t1406, (⟨t1407, t1408⟩ : S23), t1409, t1410, t1411⟩ : S25)] : List (S25))) := ⟨_, rfl⟩
  replace H : (whittlelaw2_ValueNumbers.l0 k y1412 (([(⟨t1382, t1383⟩ : S23), (⟨t1386, t1387⟩ : S23), (⟨t1390, t1391⟩ : S23)] : List (S23))) (([t1384, t1388, t1392] : List Bool)) 0 a0_0 a0_1 t1368 t1369 t1370 t1371 t1372 t1373) = some r := by first | (rw [hy1412]; with_reducible exact H) | (have H2_ := (Option.bind_some _ _).symm.trans H; rw [hy1412]; with_reducible exact H2_) | (have H2_ := (Option.bind_some _ _).symm.trans H; with_reducible exact H2_) | with_reducible exact H | (rw [hy1412]; exact H) | exact H
  have Ny1412 := Aside0.mk hy1412
  clear hy1412
  obtain ⟨y1415, hy1415⟩ : ∃ y_ : List (S23), y_ = (([(⟨t1382, t1383⟩ : S23), (⟨t1386, t1387⟩ : S23), (⟨t1390, t1391⟩ : S23)] : List (S23))) := ⟨_, rfl⟩
  replace H : (whittlelaw2_ValueNumbers.l0 k y1412 y1415 (([t1384, t1388, t1392] : List Bool)) 0 a0_0 a0_1 t1368 t1369 t1370 t1371 t1372 t1373) = some r := by first | (rw [hy1415]; with_reducible exact H) | (have H2_ := (Option.bind_some _ _).symm.trans H; rw [hy1415]; with_reducible exact H2_) | (have H2_ := (Option.bind_some _ _).symm.trans H; with_reducible exact H2_) | with_reducible exact H | (rw [hy1415]; exact H) | exact H
  have Ny1415 := Aside0.mk hy1415
  clear hy1415
  obtain ⟨y1418, hy1418⟩ : ∃ y_ : List Bool, y_ = (([t1384, t1388, t1392] : List Bool)) := ⟨_, rfl⟩
  replace H : (whittlelaw2_ValueNumbers.l0 k y1412 y1415 y1418 0 a0_0 a0_1 t1368 t1369 t1370 t1371 t1372 t1373) = some r := by first | (rw [hy1418]; with_reducible exact H) | (have H2_ := (Option.bind_some _ _).symm.trans H; rw [hy1418]; with_reducible exact H2_) | (have H2_ := (Option.bind_some _ _).symm.trans H; with_reducible exact H2_) | with_reducible exact H | (rw [hy1418]; exact H) | exact H
  have Ny1418 := Aside0.mk hy1418
  clear hy1418
  have H' := Aside0.mk H
  clear H
  go_enter Tryd.func14, Tryd.ntmps14
  try go_wp2_with (first | ((with_reducible refine gate_dst (N := 2) rfl ?_); refine box_event ?hg (N := 2) ?hd (cs := #[.int .i64 a0_0, .int .i64 a0_1]) (t := 23) ?hr ?_; (case hd => rfl); (case hg => rfl); (case hr => first | (go_simp; done) | (go_simp; rfl)); intro gb1365 hg w13 hbox hb; have n0_ := Aside0.mk (Boxes.new (b := w.heap.size) (L := []) trivial hg hbox hb (below_size (by repeat (first | (with_reducible first | exact HB.out | apply below_alloc | apply pw_below_drewN | apply below_drew1 | refine below_set ?_ (Aside0.out (by assumption))) | exact HB.out)))); have n1_ := Aside0.mk (below_step (by repeat (first | (with_reducible first | exact HB.out | apply below_alloc | apply pw_below_drewN | apply below_drew1 | refine below_set ?_ (Aside0.out (by assumption))) | exact HB.out)) hb); have n2_ := Aside0.mk ((by rw [hg]; exact (below_size (by repeat (first | (with_reducible first | exact HB.out | apply below_alloc | apply pw_below_drewN | apply below_drew1 | refine below_set ?_ (Aside0.out (by assumption))) | exact HB.out))) : w.heap.size ≤ gb1365)); clear HB; have BX := n0_; have HB := n1_; have GE1365 := n2_; clear n0_ n1_ n2_; clear hb hbox hg) | ((with_reducible refine gate_dst (N := 3) rfl ?_); refine box_event ?hg (N := 3) ?hd (cs := #[.int .i64 a1_0, .int .i64 a1_1]) (t := 23) ?hr ?_; (case hd => rfl); (case hg => rfl); (case hr => first | (go_simp; done) | (go_simp; rfl)); intro gb1366 hg w14 hbox hb; have n0_ := Aside0.mk (Boxes.new (by (with_reducible repeat (first | apply boxes_drewN | apply boxes_drew | apply boxes_alloc)); exact BX.out) hg hbox hb (below_size (by repeat (first | (with_reducible first | exact HB.out | apply below_alloc | apply pw_below_drewN | apply below_drew1 | refine below_set ?_ (Aside0.out (by assumption))) | exact HB.out)))); have n1_ := Aside0.mk (below_step (by repeat (first | (with_reducible first | exact HB.out | apply below_alloc | apply pw_below_drewN | apply below_drew1 | refine below_set ?_ (Aside0.out (by assumption))) | exact HB.out)) hb); have n2_ := Aside0.mk ((by rw [hg]; exact (below_size (by repeat (first | (with_reducible first | exact HB.out | apply below_alloc | apply pw_below_drewN | apply below_drew1 | refine below_set ?_ (Aside0.out (by assumption))) | exact HB.out))) : w.heap.size ≤ gb1366)); clear BX HB; have BX := n0_; have HB := n1_; have GE1366 := n2_; clear n0_ n1_ n2_; clear hb hbox hg) | ((with_reducible refine gate_callee (f := 15) rfl ?_); refine goesL_ (some 19) rfl rfl Tryd.func15 (by kernel_rfl) rfl #[] rfl (by (try simp only [List.map_toArray, List.map_cons, List.map_nil]); first | done | rfl | (simp only [List.length_drop, List.length_take]; rfl)) ?_; (with_reducible refine (whittlelaw2_able.calls k  true _ ?side1 A3.out).mono ?_); (case side1 => exact HT.out.on (by repeat (first | (with_reducible first | exact HB.out | apply below_alloc | apply pw_below_drewN | apply below_drew1 | refine below_set ?_ (Aside0.out (by assumption))) | exact HB.out))); rintro e w15 ⟨rfl, hb⟩; refine ⟨_, rfl, ?_⟩; have n0_ := Aside0.mk (Boxes.below (by (with_reducible repeat (first | apply boxes_drewN | apply boxes_drew | apply boxes_alloc)); exact BX.out) hb); have n1_ := Aside0.mk (below_step (by repeat (first | (with_reducible first | exact HB.out | apply below_alloc | apply pw_below_drewN | apply below_drew1 | refine below_set ?_ (Aside0.out (by assumption))) | exact HB.out)) hb); clear BX HB; have BX := n0_; have HB := n1_; clear n0_ n1_; (try clear hb); (try clear hb2); (try clear hk); (try clear hi)))
  have n0_ := Aside0.mk (boxes_drew BX.out)
  have n1_ := Aside0.mk (below_drew1 HB.out)
  clear BX HB
  have BX := n0_
  have HB := n1_
  clear n0_ n1_
  refine start_ (n := 8) (S := fun w' => w'.cell? ⟨gb1365, 0, none⟩ = some (.int .i64 a0_0) ∧ w'.cell? ⟨gb1365, 1, none⟩ = some (.int .i64 a0_1) ∧ w'.cell? ⟨gb1366, 0, none⟩ = some (.int .i64 a1_0) ∧ w'.cell? ⟨gb1366, 1, none⟩ = some (.int .i64 a1_1)) (ds := []) #[false, false, false, false, false, false, false, false] (by kernel_rfl) rfl rfl ⟨(blk_cell (BX.out.get 1 rfl) 0).trans rfl, (blk_cell (BX.out.get 1 rfl) 1).trans rfl, (blk_cell (BX.out.get 0 rfl) 0).trans rfl, (blk_cell (BX.out.get 0 rfl) 1).trans rfl⟩ (fun hHeld => ?_); refine with_tabW whittlelaw2_ValueNumbers.tab3 whittlelaw2_ValueNumbers.bits3 (fun HT_ HW_ => ?_)
  generalize w15.drew = w16 at BX HB hHeld ⊢
  refine take_ (i := 0) (N := some 21) (v := ?_) (a' := ?_) #[true, false, false, false, false, false, false, false] rfl rfl (take_ofW HT_.out HW_.out (by kernel_rfl)) (fun _ _ _ h => h) (Or.inl ⟨by rfl, ?_⟩) hHeld ?_ ?_
  rotate_left
  ·rintro w' ⟨s0, s1, s2, s3⟩
   go_simp
   with_reducible rfl
  rotate_left
  ·simp only [Act.put, List.setIfInBounds_toArray, List.set_cons_zero, List.set_cons_succ, i64_w, i32_w]
   rfl
  refine take_ (i := 2) (N := some 23) (v := ?_) (a' := ?_) #[true, false, true, false, false, false, false, false] rfl rfl (take_ofW HT_.out HW_.out (by kernel_rfl)) (fun _ _ _ h => h) (Or.inl ⟨by rfl, ?_⟩) hHeld ?_ ?_
  rotate_left
  ·rintro w' ⟨s0, s1, s2, s3⟩
   go_simp
   with_reducible rfl
  rotate_left
  ·simp only [Act.put, List.setIfInBounds_toArray, List.set_cons_zero, List.set_cons_succ, i64_w, i32_w]
   rfl
  refine join_ (σ := Nat × Nat) 2 #[true, true, true, true, true, true, false, false] (fun s_ => [(22, .agg #[.int .i64 t1368, .int .i64 t1369, .int .i64 t1370, .string t1371, .bool t1372, .int .i64 t1373]), (24, .agg #[.int .i64 t1374, .int .i64 t1375, .int .i64 t1376, .string t1377, .bool t1378, .int .i64 t1379]), (5, .pointer (some ⟨s_.1, 0, none⟩)), (6, .pointer (some ⟨s_.2, 0, none⟩))]) (fun s_ w' => (w'.cell? ⟨gb1365, 0, none⟩ = some (.int .i64 a0_0) ∧ w'.cell? ⟨gb1365, 1, none⟩ = some (.int .i64 a0_1) ∧ w'.cell? ⟨gb1366, 0, none⟩ = some (.int .i64 a1_0) ∧ w'.cell? ⟨gb1366, 1, none⟩ = some (.int .i64 a1_1)) ∧ (Boxes w.heap.size w' [(s_.2, 25, #[.int .i64 0, .int .i64 0, .int .i64 0, .string (⟨#[]⟩ : ByteArray), .bool false, .int .i64 0]), (s_.1, 25, #[.int .i64 0, .int .i64 0, .int .i64 0, .string (⟨#[]⟩ : ByteArray), .bool false, .int .i64 0]), (gb1366, 23, #[.int .i64 a1_0, .int .i64 a1_1]), (gb1365, 23, #[.int .i64 a0_0, .int .i64 a0_1])]) ∧ (w.heap.size ≤ s_.1) ∧ (w.heap.size ≤ s_.2) ∧ (Below w.heap.size w w')) ?_ ?_
  rotate_left
  ·intro hJ1_3_4_5
   refine join_ (σ := Nat) 3 #[true, true, true, true, true, false, false, false] (fun s_ => [(22, .agg #[.int .i64 t1368, .int .i64 t1369, .int .i64 t1370, .string t1371, .bool t1372, .int .i64 t1373]), (24, .agg #[.int .i64 t1374, .int .i64 t1375, .int .i64 t1376, .string t1377, .bool t1378, .int .i64 t1379]), (5, .pointer (some ⟨s_, 0, none⟩))]) (fun s_ w' => (w'.cell? ⟨gb1365, 0, none⟩ = some (.int .i64 a0_0) ∧ w'.cell? ⟨gb1365, 1, none⟩ = some (.int .i64 a0_1) ∧ w'.cell? ⟨gb1366, 0, none⟩ = some (.int .i64 a1_0) ∧ w'.cell? ⟨gb1366, 1, none⟩ = some (.int .i64 a1_1)) ∧ (Boxes w.heap.size w' [(s_, 25, #[.int .i64 0, .int .i64 0, .int .i64 0, .string (⟨#[]⟩ : ByteArray), .bool false, .int .i64 0]), (gb1366, 23, #[.int .i64 a1_0, .int .i64 a1_1]), (gb1365, 23, #[.int .i64 a0_0, .int .i64 a0_1])]) ∧ (w.heap.size ≤ s_) ∧ (Below w.heap.size w w')) ?_ ?_
   rotate_left
   ·intro hJ1_3_4
    refine join_ (σ := Nat) 3 #[true, true, true, true, false, true, false, false] (fun s_ => [(22, .agg #[.int .i64 t1368, .int .i64 t1369, .int .i64 t1370, .string t1371, .bool t1372, .int .i64 t1373]), (24, .agg #[.int .i64 t1374, .int .i64 t1375, .int .i64 t1376, .string t1377, .bool t1378, .int .i64 t1379]), (6, .pointer (some ⟨s_, 0, none⟩))]) (fun s_ w' => (w'.cell? ⟨gb1365, 0, none⟩ = some (.int .i64 a0_0) ∧ w'.cell? ⟨gb1365, 1, none⟩ = some (.int .i64 a0_1) ∧ w'.cell? ⟨gb1366, 0, none⟩ = some (.int .i64 a1_0) ∧ w'.cell? ⟨gb1366, 1, none⟩ = some (.int .i64 a1_1)) ∧ (Boxes w.heap.size w' [(s_, 25, #[.int .i64 0, .int .i64 0, .int .i64 0, .string (⟨#[]⟩ : ByteArray), .bool false, .int .i64 0]), (gb1366, 23, #[.int .i64 a1_0, .int .i64 a1_1]), (gb1365, 23, #[.int .i64 a0_0, .int .i64 a0_1])]) ∧ (w.heap.size ≤ s_) ∧ (Below w.heap.size w w')) ?_ ?_
    rotate_left
    ·intro hJ1_3_5
     refine join_ (σ := Nat × Nat) 3 #[true, true, true, false, true, true, false, false] (fun s_ => [(22, .agg #[.int .i64 t1368, .int .i64 t1369, .int .i64 t1370, .string t1371, .bool t1372, .int .i64 t1373]), (5, .pointer (some ⟨s_.1, 0, none⟩)), (6, .pointer (some ⟨s_.2, 0, none⟩))]) (fun s_ w' => (w'.cell? ⟨gb1365, 0, none⟩ = some (.int .i64 a0_0) ∧ w'.cell? ⟨gb1365, 1, none⟩ = some (.int .i64 a0_1) ∧ w'.cell? ⟨gb1366, 0, none⟩ = some (.int .i64 a1_0) ∧ w'.cell? ⟨gb1366, 1, none⟩ = some (.int .i64 a1_1)) ∧ (Boxes w.heap.size w' [(s_.2, 25, #[.int .i64 0, .int .i64 0, .int .i64 0, .string (⟨#[]⟩ : ByteArray), .bool false, .int .i64 0]), (s_.1, 25, #[.int .i64 0, .int .i64 0, .int .i64 0, .string (⟨#[]⟩ : ByteArray), .bool false, .int .i64 0]), (gb1366, 23, #[.int .i64 a1_0, .int .i64 a1_1]), (gb1365, 23, #[.int .i64 a0_0, .int .i64 a0_1])]) ∧ (w.heap.size ≤ s_.1) ∧ (w.heap.size ≤ s_.2) ∧ (Below w.heap.size w w')) ?_ ?_
     rotate_left
     ·intro hJ1_4_5
      refine join_ (σ := Unit) 4 #[true, true, true, true, false, false, false, false] (fun s_ => [(22, .agg #[.int .i64 t1368, .int .i64 t1369, .int .i64 t1370, .string t1371, .bool t1372, .int .i64 t1373]), (24, .agg #[.int .i64 t1374, .int .i64 t1375, .int .i64 t1376, .string t1377, .bool t1378, .int .i64 t1379])]) (fun s_ w' => (w'.cell? ⟨gb1365, 0, none⟩ = some (.int .i64 a0_0) ∧ w'.cell? ⟨gb1365, 1, none⟩ = some (.int .i64 a0_1) ∧ w'.cell? ⟨gb1366, 0, none⟩ = some (.int .i64 a1_0) ∧ w'.cell? ⟨gb1366, 1, none⟩ = some (.int .i64 a1_1)) ∧ (Boxes w.heap.size w' [(gb1366, 23, #[.int .i64 a1_0, .int .i64 a1_1]), (gb1365, 23, #[.int .i64 a0_0, .int .i64 a0_1])]) ∧ (Below w.heap.size w w')) ?_ ?_
      rotate_left
      ·intro hJ1_3
       refine join_ (σ := Nat) 4 #[true, true, true, false, true, false, false, false] (fun s_ => [(22, .agg #[.int .i64 t1368, .int .i64 t1369, .int .i64 t1370, .string t1371, .bool t1372, .int .i64 t1373]), (5, .pointer (some ⟨s_, 0, none⟩))]) (fun s_ w' => (w'.cell? ⟨gb1365, 0, none⟩ = some (.int .i64 a0_0) ∧ w'.cell? ⟨gb1365, 1, none⟩ = some (.int .i64 a0_1) ∧ w'.cell? ⟨gb1366, 0, none⟩ = some (.int .i64 a1_0) ∧ w'.cell? ⟨gb1366, 1, none⟩ = some (.int .i64 a1_1)) ∧ (Boxes w.heap.size w' [(s_, 25, #[.int .i64 0, .int .i64 0, .int .i64 0, .string (⟨#[]⟩ : ByteArray), .bool false, .int .i64 0]), (gb1366, 23, #[.int .i64 a1_0, .int .i64 a1_1]), (gb1365, 23, #[.int .i64 a0_0, .int .i64 a0_1])]) ∧ (w.heap.size ≤ s_) ∧ (Below w.heap.size w w')) ?_ ?_
       rotate_left
       ·intro hJ1_4
        refine join_ (σ := Nat) 4 #[true, true, true, false, false, true, false, false] (fun s_ => [(22, .agg #[.int .i64 t1368, .int .i64 t1369, .int .i64 t1370, .string t1371, .bool t1372, .int .i64 t1373]), (6, .pointer (some ⟨s_, 0, none⟩))]) (fun s_ w' => (w'.cell? ⟨gb1365, 0, none⟩ = some (.int .i64 a0_0) ∧ w'.cell? ⟨gb1365, 1, none⟩ = some (.int .i64 a0_1) ∧ w'.cell? ⟨gb1366, 0, none⟩ = some (.int .i64 a1_0) ∧ w'.cell? ⟨gb1366, 1, none⟩ = some (.int .i64 a1_1)) ∧ (Boxes w.heap.size w' [(s_, 25, #[.int .i64 0, .int .i64 0, .int .i64 0, .string (⟨#[]⟩ : ByteArray), .bool false, .int .i64 0]), (gb1366, 23, #[.int .i64 a1_0, .int .i64 a1_1]), (gb1365, 23, #[.int .i64 a0_0, .int .i64 a0_1])]) ∧ (w.heap.size ≤ s_) ∧ (Below w.heap.size w w')) ?_ ?_
        rotate_left
        ·intro hJ1_5
         refine join_ (σ := Nat × Nat) 4 #[true, false, true, false, true, true, false, false] (fun s_ => [(5, .pointer (some ⟨s_.1, 0, none⟩)), (6, .pointer (some ⟨s_.2, 0, none⟩))]) (fun s_ w' => (w'.cell? ⟨gb1365, 0, none⟩ = some (.int .i64 a0_0) ∧ w'.cell? ⟨gb1365, 1, none⟩ = some (.int .i64 a0_1) ∧ w'.cell? ⟨gb1366, 0, none⟩ = some (.int .i64 a1_0) ∧ w'.cell? ⟨gb1366, 1, none⟩ = some (.int .i64 a1_1)) ∧ (Boxes w.heap.size w' [(s_.2, 25, #[.int .i64 0, .int .i64 0, .int .i64 0, .string (⟨#[]⟩ : ByteArray), .bool false, .int .i64 0]), (s_.1, 25, #[.int .i64 0, .int .i64 0, .int .i64 0, .string (⟨#[]⟩ : ByteArray), .bool false, .int .i64 0]), (gb1366, 23, #[.int .i64 a1_0, .int .i64 a1_1]), (gb1365, 23, #[.int .i64 a0_0, .int .i64 a0_1])]) ∧ (w.heap.size ≤ s_.1) ∧ (w.heap.size ≤ s_.2) ∧ (Below w.heap.size w w')) ?_ ?_
         rotate_left
         ·intro hJ4_5
          refine join_ (σ := Unit) 5 #[true, true, true, false, false, false, false, false] (fun s_ => [(22, .agg #[.int .i64 t1368, .int .i64 t1369, .int .i64 t1370, .string t1371, .bool t1372, .int .i64 t1373])]) (fun s_ w' => (w'.cell? ⟨gb1365, 0, none⟩ = some (.int .i64 a0_0) ∧ w'.cell? ⟨gb1365, 1, none⟩ = some (.int .i64 a0_1) ∧ w'.cell? ⟨gb1366, 0, none⟩ = some (.int .i64 a1_0) ∧ w'.cell? ⟨gb1366, 1, none⟩ = some (.int .i64 a1_1)) ∧ (Boxes w.heap.size w' [(gb1366, 23, #[.int .i64 a1_0, .int .i64 a1_1]), (gb1365, 23, #[.int .i64 a0_0, .int .i64 a0_1])]) ∧ (Below w.heap.size w w')) ?_ ?_
          rotate_left
          ·intro hJ1
           refine join_ (σ := Nat) 5 #[true, false, true, false, true, false, false, false] (fun s_ => [(5, .pointer (some ⟨s_, 0, none⟩))]) (fun s_ w' => (w'.cell? ⟨gb1365, 0, none⟩ = some (.int .i64 a0_0) ∧ w'.cell? ⟨gb1365, 1, none⟩ = some (.int .i64 a0_1) ∧ w'.cell? ⟨gb1366, 0, none⟩ = some (.int .i64 a1_0) ∧ w'.cell? ⟨gb1366, 1, none⟩ = some (.int .i64 a1_1)) ∧ (Boxes w.heap.size w' [(s_, 25, #[.int .i64 0, .int .i64 0, .int .i64 0, .string (⟨#[]⟩ : ByteArray), .bool false, .int .i64 0]), (gb1366, 23, #[.int .i64 a1_0, .int .i64 a1_1]), (gb1365, 23, #[.int .i64 a0_0, .int .i64 a0_1])]) ∧ (w.heap.size ≤ s_) ∧ (Below w.heap.size w w')) ?_ ?_
           rotate_left
           ·intro hJ4
            refine join_ (σ := Nat) 5 #[true, false, true, false, false, true, false, false] (fun s_ => [(6, .pointer (some ⟨s_, 0, none⟩))]) (fun s_ w' => (w'.cell? ⟨gb1365, 0, none⟩ = some (.int .i64 a0_0) ∧ w'.cell? ⟨gb1365, 1, none⟩ = some (.int .i64 a0_1) ∧ w'.cell? ⟨gb1366, 0, none⟩ = some (.int .i64 a1_0) ∧ w'.cell? ⟨gb1366, 1, none⟩ = some (.int .i64 a1_1)) ∧ (Boxes w.heap.size w' [(s_, 25, #[.int .i64 0, .int .i64 0, .int .i64 0, .string (⟨#[]⟩ : ByteArray), .bool false, .int .i64 0]), (gb1366, 23, #[.int .i64 a1_0, .int .i64 a1_1]), (gb1365, 23, #[.int .i64 a0_0, .int .i64 a0_1])]) ∧ (w.heap.size ≤ s_) ∧ (Below w.heap.size w w')) ?_ ?_
            rotate_left
            ·intro hJ5
             refine three_ (i := 1) (j := 4) (k := 5) (Ni := some 22) (Nj := some 5) (Nk := some 6) #[true, true, true, false, false, false, false, false] #[true, false, true, false, true, false, false, false] #[true, false, true, false, false, true, false, false] rfl rfl rfl rfl rfl rfl (three_of HT_.out (by kernel_rfl)) (by decide) (by decide) (by decide) (fun K hK => ?_) (fun K hK => ?_) (fun K hK => ?_)
             ·skip
              refine goes_ Tryd.func19 (by kernel_rfl) rfl #[.agg #[.int .i64 a0_0, .int .i64 a0_1]] (by rfl) rfl rfl (by (try simp only [List.map_toArray, List.map_cons, List.map_nil]); first | done | rfl | (simp only [List.length_drop, List.length_take]; rfl)) ?_
              with_reducible refine (value_Number.calls k a0_0 a0_1 t1368 t1369 t1370 t1371 t1372 t1373 _ A5.out).mono ?_
              rintro e w17 ⟨rfl, hb⟩
              refine ⟨_, rfl, ?_⟩
              have n0_ := Aside0.mk (Boxes.below (by (with_reducible repeat (first | apply boxes_drewN | apply boxes_drew | apply boxes_alloc)); exact BX.out) hb)
              have n1_ := Aside0.mk (below_step (by repeat (first | (with_reducible first | exact HB.out | apply below_alloc | apply pw_below_drewN | apply below_drew1 | refine below_set ?_ (Aside0.out (by assumption))) | exact HB.out)) hb)
              clear BX HB
              have BX := n0_
              have HB := n1_
              clear n0_ n1_
              (try clear hb)
              (try clear hb2)
              (try clear hk)
              (try clear hi)
              refine hK.out _ _ ⟨(blk_cell (BX.out.get 1 rfl) 0).trans rfl, (blk_cell (BX.out.get 1 rfl) 1).trans rfl, (blk_cell (BX.out.get 0 rfl) 0).trans rfl, (blk_cell (BX.out.get 0 rfl) 1).trans rfl⟩ (fun hHeld => ?_)
              clear hK K
              refine norm_ (a' := ?_) ?_ ?_
              rotate_left
              ·show Act.put _ (some 22) _ = _
               simp only [Act.put, List.setIfInBounds_toArray, List.set_cons_zero, List.set_cons_succ, i64_w, i32_w]
               rfl
              exact norm_ (by first | (simp only [putAll, Act.put, List.setIfInBounds_toArray, List.set_cons_zero, List.set_cons_succ]; done) | (simp only [putAll, Act.put, List.setIfInBounds_toArray, List.set_cons_zero, List.set_cons_succ]; rfl)) (hJ1 () _ ⟨hHeld, (by (with_reducible repeat (first | apply boxes_drewN | apply boxes_drew | apply boxes_alloc)); exact BX.out), (by repeat (first | (with_reducible first | exact HB.out | apply below_alloc | apply pw_below_drewN | apply below_drew1 | refine below_set ?_ (Aside0.out (by assumption))) | exact HB.out))⟩)
             ·skip
              refine box_step ?hg (N := 5) ?hd (cs := #[.int .i64 0, .int .i64 0, .int .i64 0, .string (⟨#[]⟩ : ByteArray), .bool false, .int .i64 0]) (t := 25) ?hr ?_; (case hd => rfl); (case hg => rfl); (case hr => first | (go_simp; done) | (go_simp; rfl))
              intro gb1380 hg w17 hbox hb
              have n0_ := Aside0.mk (Boxes.new (by (with_reducible repeat (first | apply boxes_drewN | apply boxes_drew | apply boxes_alloc)); exact BX.out) hg hbox hb (below_size (by repeat (first | (with_reducible first | exact HB.out | apply below_alloc | apply pw_below_drewN | apply below_drew1 | refine below_set ?_ (Aside0.out (by assumption))) | exact HB.out))))
              have n1_ := Aside0.mk (below_step (by repeat (first | (with_reducible first | exact HB.out | apply below_alloc | apply pw_below_drewN | apply below_drew1 | refine below_set ?_ (Aside0.out (by assumption))) | exact HB.out)) hb)
              have n2_ := Aside0.mk ((by rw [hg]; exact (below_size (by repeat (first | (with_reducible first | exact HB.out | apply below_alloc | apply pw_below_drewN | apply below_drew1 | refine below_set ?_ (Aside0.out (by assumption))) | exact HB.out))) : w.heap.size ≤ gb1380))
              clear BX HB
              have BX := n0_
              have HB := n1_
              have GE1380 := n2_
              clear n0_ n1_ n2_
              clear hb hbox hg
              refine hK.out _ _ ⟨(blk_cell (BX.out.get 2 rfl) 0).trans rfl, (blk_cell (BX.out.get 2 rfl) 1).trans rfl, (blk_cell (BX.out.get 1 rfl) 0).trans rfl, (blk_cell (BX.out.get 1 rfl) 1).trans rfl⟩ (fun hHeld => ?_)
              clear hK K
              refine norm_ (a' := ?_) ?_ ?_
              rotate_left
              ·show Act.put _ (some 5) _ = _
               simp only [Act.put, List.setIfInBounds_toArray, List.set_cons_zero, List.set_cons_succ, i64_w, i32_w]
               rfl
              exact norm_ (by first | (simp only [putAll, Act.put, List.setIfInBounds_toArray, List.set_cons_zero, List.set_cons_succ]; done) | (simp only [putAll, Act.put, List.setIfInBounds_toArray, List.set_cons_zero, List.set_cons_succ]; rfl)) (hJ4 (gb1380) _ ⟨hHeld, (by (with_reducible repeat (first | apply boxes_drewN | apply boxes_drew | apply boxes_alloc)); exact BX.out), GE1380.out, (by repeat (first | (with_reducible first | exact HB.out | apply below_alloc | apply pw_below_drewN | apply below_drew1 | refine below_set ?_ (Aside0.out (by assumption))) | exact HB.out))⟩)
             ·skip
              refine box_step ?hg (N := 6) ?hd (cs := #[.int .i64 0, .int .i64 0, .int .i64 0, .string (⟨#[]⟩ : ByteArray), .bool false, .int .i64 0]) (t := 25) ?hr ?_; (case hd => rfl); (case hg => rfl); (case hr => first | (go_simp; done) | (go_simp; rfl))
              intro gb1381 hg w17 hbox hb
              have n0_ := Aside0.mk (Boxes.new (by (with_reducible repeat (first | apply boxes_drewN | apply boxes_drew | apply boxes_alloc)); exact BX.out) hg hbox hb (below_size (by repeat (first | (with_reducible first | exact HB.out | apply below_alloc | apply pw_below_drewN | apply below_drew1 | refine below_set ?_ (Aside0.out (by assumption))) | exact HB.out))))
              have n1_ := Aside0.mk (below_step (by repeat (first | (with_reducible first | exact HB.out | apply below_alloc | apply pw_below_drewN | apply below_drew1 | refine below_set ?_ (Aside0.out (by assumption))) | exact HB.out)) hb)
              have n2_ := Aside0.mk ((by rw [hg]; exact (below_size (by repeat (first | (with_reducible first | exact HB.out | apply below_alloc | apply pw_below_drewN | apply below_drew1 | refine below_set ?_ (Aside0.out (by assumption))) | exact HB.out))) : w.heap.size ≤ gb1381))
              clear BX HB
              have BX := n0_
              have HB := n1_
              have GE1381 := n2_
              clear n0_ n1_ n2_
              clear hb hbox hg
              refine hK.out _ _ ⟨(blk_cell (BX.out.get 2 rfl) 0).trans rfl, (blk_cell (BX.out.get 2 rfl) 1).trans rfl, (blk_cell (BX.out.get 1 rfl) 0).trans rfl, (blk_cell (BX.out.get 1 rfl) 1).trans rfl⟩ (fun hHeld => ?_)
              clear hK K
              refine norm_ (a' := ?_) ?_ ?_
              rotate_left
              ·show Act.put _ (some 6) _ = _
               simp only [Act.put, List.setIfInBounds_toArray, List.set_cons_zero, List.set_cons_succ, i64_w, i32_w]
               rfl
              exact norm_ (by first | (simp only [putAll, Act.put, List.setIfInBounds_toArray, List.set_cons_zero, List.set_cons_succ]; done) | (simp only [putAll, Act.put, List.setIfInBounds_toArray, List.set_cons_zero, List.set_cons_succ]; rfl)) (hJ5 (gb1381) _ ⟨hHeld, (by (with_reducible repeat (first | apply boxes_drewN | apply boxes_drew | apply boxes_alloc)); exact BX.out), GE1381.out, (by repeat (first | (with_reducible first | exact HB.out | apply below_alloc | apply pw_below_drewN | apply below_drew1 | refine below_set ?_ (Aside0.out (by assumption))) | exact HB.out))⟩)
            ·skip
             rintro gb1381 w18 ⟨hS_, hBX_, hJ0_, hJ1_⟩
             have n0_ : Aside0 (Boxes w.heap.size w18 [(gb1381, 25, #[.int .i64 0, .int .i64 0, .int .i64 0, .string (⟨#[]⟩ : ByteArray), .bool false, .int .i64 0]), (gb1366, 23, #[.int .i64 a1_0, .int .i64 a1_1]), (gb1365, 23, #[.int .i64 a0_0, .int .i64 a0_1])]) := ⟨hBX_⟩
             have n1_ : Aside0 (w.heap.size ≤ gb1381) := ⟨hJ0_⟩
             have n2_ : Aside0 (Below w.heap.size w w18) := ⟨hJ1_⟩
             clear BX HB hBX_ hJ0_ hJ1_
             have BX := n0_
             have GE1381 := n1_
             have HB := n2_
             clear n0_ n1_ n2_
             have hHeld : w18.cell? ⟨gb1365, 0, none⟩ = some (.int .i64 a0_0) ∧ w18.cell? ⟨gb1365, 1, none⟩ = some (.int .i64 a0_1) ∧ w18.cell? ⟨gb1366, 0, none⟩ = some (.int .i64 a1_0) ∧ w18.cell? ⟨gb1366, 1, none⟩ = some (.int .i64 a1_1) := hS_
             refine norm_ (a' := ?_) ?_ ?_
             rotate_left
             ·simp only [putAll, Act.put, List.setIfInBounds_toArray, List.set_cons_zero, List.set_cons_succ]
              rfl
             refine two_ (i := 1) (j := 4) (Ni := some 22) (Nj := some 5) #[true, true, true, false, false, true, false, false] #[true, false, true, false, true, true, false, false] rfl rfl rfl rfl (two_of HT_.out (by kernel_rfl)) (by decide) (by decide) (fun K hK => ?_) (fun K hK => ?_)
             ·skip
              refine goes_ Tryd.func19 (by kernel_rfl) rfl #[.agg #[.int .i64 a0_0, .int .i64 a0_1]] (by rfl) rfl rfl (by (try simp only [List.map_toArray, List.map_cons, List.map_nil]); first | done | rfl | (simp only [List.length_drop, List.length_take]; rfl)) ?_
              with_reducible refine (value_Number.calls k a0_0 a0_1 t1368 t1369 t1370 t1371 t1372 t1373 _ A5.out).mono ?_
              rintro e w19 ⟨rfl, hb⟩
              refine ⟨_, rfl, ?_⟩
              have n0_ := Aside0.mk (Boxes.below (by (with_reducible repeat (first | apply boxes_drewN | apply boxes_drew | apply boxes_alloc)); exact BX.out) hb)
              have n1_ := Aside0.mk (below_step (by repeat (first | (with_reducible first | exact HB.out | apply below_alloc | apply pw_below_drewN | apply below_drew1 | refine below_set ?_ (Aside0.out (by assumption))) | exact HB.out)) hb)
              clear BX HB
              have BX := n0_
              have HB := n1_
              clear n0_ n1_
              (try clear hb)
              (try clear hb2)
              (try clear hk)
              (try clear hi)
              refine hK.out _ _ ⟨(blk_cell (BX.out.get 2 rfl) 0).trans rfl, (blk_cell (BX.out.get 2 rfl) 1).trans rfl, (blk_cell (BX.out.get 1 rfl) 0).trans rfl, (blk_cell (BX.out.get 1 rfl) 1).trans rfl⟩ (fun hHeld => ?_)
              clear hK K
              refine norm_ (a' := ?_) ?_ ?_
              rotate_left
              ·show Act.put _ (some 22) _ = _
               simp only [Act.put, List.setIfInBounds_toArray, List.set_cons_zero, List.set_cons_succ, i64_w, i32_w]
               rfl
              exact norm_ (by first | (simp only [putAll, Act.put, List.setIfInBounds_toArray, List.set_cons_zero, List.set_cons_succ]; done) | (simp only [putAll, Act.put, List.setIfInBounds_toArray, List.set_cons_zero, List.set_cons_succ]; rfl)) (hJ1_5 (gb1381) _ ⟨hHeld, (by (with_reducible repeat (first | apply boxes_drewN | apply boxes_drew | apply boxes_alloc)); exact BX.out), GE1381.out, (by repeat (first | (with_reducible first | exact HB.out | apply below_alloc | apply pw_below_drewN | apply below_drew1 | refine below_set ?_ (Aside0.out (by assumption))) | exact HB.out))⟩)
             ·skip
              refine box_step ?hg (N := 5) ?hd (cs := #[.int .i64 0, .int .i64 0, .int .i64 0, .string (⟨#[]⟩ : ByteArray), .bool false, .int .i64 0]) (t := 25) ?hr ?_; (case hd => rfl); (case hg => rfl); (case hr => first | (go_simp; done) | (go_simp; rfl))
              intro gb1380 hg w19 hbox hb
              have n0_ := Aside0.mk (Boxes.new (by (with_reducible repeat (first | apply boxes_drewN | apply boxes_drew | apply boxes_alloc)); exact BX.out) hg hbox hb (below_size (by repeat (first | (with_reducible first | exact HB.out | apply below_alloc | apply pw_below_drewN | apply below_drew1 | refine below_set ?_ (Aside0.out (by assumption))) | exact HB.out))))
              have n1_ := Aside0.mk (below_step (by repeat (first | (with_reducible first | exact HB.out | apply below_alloc | apply pw_below_drewN | apply below_drew1 | refine below_set ?_ (Aside0.out (by assumption))) | exact HB.out)) hb)
              have n2_ := Aside0.mk ((by rw [hg]; exact (below_size (by repeat (first | (with_reducible first | exact HB.out | apply below_alloc | apply pw_below_drewN | apply below_drew1 | refine below_set ?_ (Aside0.out (by assumption))) | exact HB.out))) : w.heap.size ≤ gb1380))
              clear BX HB
              have BX := n0_
              have HB := n1_
              have GE1380 := n2_
              clear n0_ n1_ n2_
              clear hb hbox hg
              refine hK.out _ _ ⟨(blk_cell (BX.out.get 3 rfl) 0).trans rfl, (blk_cell (BX.out.get 3 rfl) 1).trans rfl, (blk_cell (BX.out.get 2 rfl) 0).trans rfl, (blk_cell (BX.out.get 2 rfl) 1).trans rfl⟩ (fun hHeld => ?_)
              clear hK K
              refine norm_ (a' := ?_) ?_ ?_
              rotate_left
              ·show Act.put _ (some 5) _ = _
               simp only [Act.put, List.setIfInBounds_toArray, List.set_cons_zero, List.set_cons_succ, i64_w, i32_w]
               rfl
              exact norm_ (by first | (simp only [putAll, Act.put, List.setIfInBounds_toArray, List.set_cons_zero, List.set_cons_succ]; done) | (simp only [putAll, Act.put, List.setIfInBounds_toArray, List.set_cons_zero, List.set_cons_succ]; rfl)) (hJ4_5 (gb1380, gb1381) _ ⟨hHeld, (by apply boxes_swap; apply boxes_sub; (with_reducible repeat (first | apply boxes_drewN | apply boxes_drew | apply boxes_alloc)); exact BX.out; repeat first | exact SubB.nil | apply SubB.same | apply SubB.skip), GE1380.out, GE1381.out, (by repeat (first | (with_reducible first | exact HB.out | apply below_alloc | apply pw_below_drewN | apply below_drew1 | refine below_set ?_ (Aside0.out (by assumption))) | exact HB.out))⟩)
           ·skip
            rintro gb1380 w18 ⟨hS_, hBX_, hJ0_, hJ1_⟩
            have n0_ : Aside0 (Boxes w.heap.size w18 [(gb1380, 25, #[.int .i64 0, .int .i64 0, .int .i64 0, .string (⟨#[]⟩ : ByteArray), .bool false, .int .i64 0]), (gb1366, 23, #[.int .i64 a1_0, .int .i64 a1_1]), (gb1365, 23, #[.int .i64 a0_0, .int .i64 a0_1])]) := ⟨hBX_⟩
            have n1_ : Aside0 (w.heap.size ≤ gb1380) := ⟨hJ0_⟩
            have n2_ : Aside0 (Below w.heap.size w w18) := ⟨hJ1_⟩
            clear BX HB hBX_ hJ0_ hJ1_
            have BX := n0_
            have GE1380 := n1_
            have HB := n2_
            clear n0_ n1_ n2_
            have hHeld : w18.cell? ⟨gb1365, 0, none⟩ = some (.int .i64 a0_0) ∧ w18.cell? ⟨gb1365, 1, none⟩ = some (.int .i64 a0_1) ∧ w18.cell? ⟨gb1366, 0, none⟩ = some (.int .i64 a1_0) ∧ w18.cell? ⟨gb1366, 1, none⟩ = some (.int .i64 a1_1) := hS_
            refine norm_ (a' := ?_) ?_ ?_
            rotate_left
            ·simp only [putAll, Act.put, List.setIfInBounds_toArray, List.set_cons_zero, List.set_cons_succ]
             rfl
            refine two_ (i := 1) (j := 5) (Ni := some 22) (Nj := some 6) #[true, true, true, false, true, false, false, false] #[true, false, true, false, true, true, false, false] rfl rfl rfl rfl (two_of HT_.out (by kernel_rfl)) (by decide) (by decide) (fun K hK => ?_) (fun K hK => ?_)
            ·skip
             refine goes_ Tryd.func19 (by kernel_rfl) rfl #[.agg #[.int .i64 a0_0, .int .i64 a0_1]] (by rfl) rfl rfl (by (try simp only [List.map_toArray, List.map_cons, List.map_nil]); first | done | rfl | (simp only [List.length_drop, List.length_take]; rfl)) ?_
             with_reducible refine (value_Number.calls k a0_0 a0_1 t1368 t1369 t1370 t1371 t1372 t1373 _ A5.out).mono ?_
             rintro e w19 ⟨rfl, hb⟩
             refine ⟨_, rfl, ?_⟩
             have n0_ := Aside0.mk (Boxes.below (by (with_reducible repeat (first | apply boxes_drewN | apply boxes_drew | apply boxes_alloc)); exact BX.out) hb)
             have n1_ := Aside0.mk (below_step (by repeat (first | (with_reducible first | exact HB.out | apply below_alloc | apply pw_below_drewN | apply below_drew1 | refine below_set ?_ (Aside0.out (by assumption))) | exact HB.out)) hb)
             clear BX HB
             have BX := n0_
             have HB := n1_
             clear n0_ n1_
             (try clear hb)
             (try clear hb2)
             (try clear hk)
             (try clear hi)
             refine hK.out _ _ ⟨(blk_cell (BX.out.get 2 rfl) 0).trans rfl, (blk_cell (BX.out.get 2 rfl) 1).trans rfl, (blk_cell (BX.out.get 1 rfl) 0).trans rfl, (blk_cell (BX.out.get 1 rfl) 1).trans rfl⟩ (fun hHeld => ?_)
             clear hK K
             refine norm_ (a' := ?_) ?_ ?_
             rotate_left
             ·show Act.put _ (some 22) _ = _
              simp only [Act.put, List.setIfInBounds_toArray, List.set_cons_zero, List.set_cons_succ, i64_w, i32_w]
              rfl
             exact norm_ (by first | (simp only [putAll, Act.put, List.setIfInBounds_toArray, List.set_cons_zero, List.set_cons_succ]; done) | (simp only [putAll, Act.put, List.setIfInBounds_toArray, List.set_cons_zero, List.set_cons_succ]; rfl)) (hJ1_4 (gb1380) _ ⟨hHeld, (by (with_reducible repeat (first | apply boxes_drewN | apply boxes_drew | apply boxes_alloc)); exact BX.out), GE1380.out, (by repeat (first | (with_reducible first | exact HB.out | apply below_alloc | apply pw_below_drewN | apply below_drew1 | refine below_set ?_ (Aside0.out (by assumption))) | exact HB.out))⟩)
            ·skip
             refine box_step ?hg (N := 6) ?hd (cs := #[.int .i64 0, .int .i64 0, .int .i64 0, .string (⟨#[]⟩ : ByteArray), .bool false, .int .i64 0]) (t := 25) ?hr ?_; (case hd => rfl); (case hg => rfl); (case hr => first | (go_simp; done) | (go_simp; rfl))
             intro gb1381 hg w19 hbox hb
             have n0_ := Aside0.mk (Boxes.new (by (with_reducible repeat (first | apply boxes_drewN | apply boxes_drew | apply boxes_alloc)); exact BX.out) hg hbox hb (below_size (by repeat (first | (with_reducible first | exact HB.out | apply below_alloc | apply pw_below_drewN | apply below_drew1 | refine below_set ?_ (Aside0.out (by assumption))) | exact HB.out))))
             have n1_ := Aside0.mk (below_step (by repeat (first | (with_reducible first | exact HB.out | apply below_alloc | apply pw_below_drewN | apply below_drew1 | refine below_set ?_ (Aside0.out (by assumption))) | exact HB.out)) hb)
             have n2_ := Aside0.mk ((by rw [hg]; exact (below_size (by repeat (first | (with_reducible first | exact HB.out | apply below_alloc | apply pw_below_drewN | apply below_drew1 | refine below_set ?_ (Aside0.out (by assumption))) | exact HB.out))) : w.heap.size ≤ gb1381))
             clear BX HB
             have BX := n0_
             have HB := n1_
             have GE1381 := n2_
             clear n0_ n1_ n2_
             clear hb hbox hg
             refine hK.out _ _ ⟨(blk_cell (BX.out.get 3 rfl) 0).trans rfl, (blk_cell (BX.out.get 3 rfl) 1).trans rfl, (blk_cell (BX.out.get 2 rfl) 0).trans rfl, (blk_cell (BX.out.get 2 rfl) 1).trans rfl⟩ (fun hHeld => ?_)
             clear hK K
             refine norm_ (a' := ?_) ?_ ?_
             rotate_left
             ·show Act.put _ (some 6) _ = _
              simp only [Act.put, List.setIfInBounds_toArray, List.set_cons_zero, List.set_cons_succ, i64_w, i32_w]
              rfl
             exact norm_ (by first | (simp only [putAll, Act.put, List.setIfInBounds_toArray, List.set_cons_zero, List.set_cons_succ]; done) | (simp only [putAll, Act.put, List.setIfInBounds_toArray, List.set_cons_zero, List.set_cons_succ]; rfl)) (hJ4_5 (gb1380, gb1381) _ ⟨hHeld, (by (with_reducible repeat (first | apply boxes_drewN | apply boxes_drew | apply boxes_alloc)); exact BX.out), GE1380.out, GE1381.out, (by repeat (first | (with_reducible first | exact HB.out | apply below_alloc | apply pw_below_drewN | apply below_drew1 | refine below_set ?_ (Aside0.out (by assumption))) | exact HB.out))⟩)
          ·skip
           rintro _ w18 ⟨hS_, hBX_, hJ0_⟩
           have n0_ : Aside0 (Boxes w.heap.size w18 [(gb1366, 23, #[.int .i64 a1_0, .int .i64 a1_1]), (gb1365, 23, #[.int .i64 a0_0, .int .i64 a0_1])]) := ⟨hBX_⟩
           have n1_ : Aside0 (Below w.heap.size w w18) := ⟨hJ0_⟩
           clear BX HB hBX_ hJ0_
           have BX := n0_
           have HB := n1_
           clear n0_ n1_
           have hHeld : w18.cell? ⟨gb1365, 0, none⟩ = some (.int .i64 a0_0) ∧ w18.cell? ⟨gb1365, 1, none⟩ = some (.int .i64 a0_1) ∧ w18.cell? ⟨gb1366, 0, none⟩ = some (.int .i64 a1_0) ∧ w18.cell? ⟨gb1366, 1, none⟩ = some (.int .i64 a1_1) := hS_
           refine norm_ (a' := ?_) ?_ ?_
           rotate_left
           ·simp only [putAll, Act.put, List.setIfInBounds_toArray, List.set_cons_zero, List.set_cons_succ]
            rfl
           refine three_ (i := 3) (j := 4) (k := 5) (Ni := some 24) (Nj := some 5) (Nk := some 6) #[true, true, true, true, false, false, false, false] #[true, true, true, false, true, false, false, false] #[true, true, true, false, false, true, false, false] rfl rfl rfl rfl rfl rfl (three_of HT_.out (by kernel_rfl)) (by decide) (by decide) (by decide) (fun K hK => ?_) (fun K hK => ?_) (fun K hK => ?_)
           ·skip
            refine goes_ Tryd.func19 (by kernel_rfl) rfl #[.agg #[.int .i64 a1_0, .int .i64 a1_1]] (by rfl) rfl rfl (by (try simp only [List.map_toArray, List.map_cons, List.map_nil]); first | done | rfl | (simp only [List.length_drop, List.length_take]; rfl)) ?_
            with_reducible refine (value_Number.calls k a1_0 a1_1 t1374 t1375 t1376 t1377 t1378 t1379 _ A6.out).mono ?_
            rintro e w19 ⟨rfl, hb⟩
            refine ⟨_, rfl, ?_⟩
            have n0_ := Aside0.mk (Boxes.below (by (with_reducible repeat (first | apply boxes_drewN | apply boxes_drew | apply boxes_alloc)); exact BX.out) hb)
            have n1_ := Aside0.mk (below_step (by repeat (first | (with_reducible first | exact HB.out | apply below_alloc | apply pw_below_drewN | apply below_drew1 | refine below_set ?_ (Aside0.out (by assumption))) | exact HB.out)) hb)
            clear BX HB
            have BX := n0_
            have HB := n1_
            clear n0_ n1_
            (try clear hb)
            (try clear hb2)
            (try clear hk)
            (try clear hi)
            refine hK.out _ _ ⟨(blk_cell (BX.out.get 1 rfl) 0).trans rfl, (blk_cell (BX.out.get 1 rfl) 1).trans rfl, (blk_cell (BX.out.get 0 rfl) 0).trans rfl, (blk_cell (BX.out.get 0 rfl) 1).trans rfl⟩ (fun hHeld => ?_)
            clear hK K
            refine norm_ (a' := ?_) ?_ ?_
            rotate_left
            ·show Act.put _ (some 24) _ = _
             simp only [Act.put, List.setIfInBounds_toArray, List.set_cons_zero, List.set_cons_succ, i64_w, i32_w]
             rfl
            exact norm_ (by first | (simp only [putAll, Act.put, List.setIfInBounds_toArray, List.set_cons_zero, List.set_cons_succ]; done) | (simp only [putAll, Act.put, List.setIfInBounds_toArray, List.set_cons_zero, List.set_cons_succ]; rfl)) (hJ1_3 () _ ⟨hHeld, (by (with_reducible repeat (first | apply boxes_drewN | apply boxes_drew | apply boxes_alloc)); exact BX.out), (by repeat (first | (with_reducible first | exact HB.out | apply below_alloc | apply pw_below_drewN | apply below_drew1 | refine below_set ?_ (Aside0.out (by assumption))) | exact HB.out))⟩)
           ·skip
            refine box_step ?hg (N := 5) ?hd (cs := #[.int .i64 0, .int .i64 0, .int .i64 0, .string (⟨#[]⟩ : ByteArray), .bool false, .int .i64 0]) (t := 25) ?hr ?_; (case hd => rfl); (case hg => rfl); (case hr => first | (go_simp; done) | (go_simp; rfl))
            intro gb1380 hg w19 hbox hb
            have n0_ := Aside0.mk (Boxes.new (by (with_reducible repeat (first | apply boxes_drewN | apply boxes_drew | apply boxes_alloc)); exact BX.out) hg hbox hb (below_size (by repeat (first | (with_reducible first | exact HB.out | apply below_alloc | apply pw_below_drewN | apply below_drew1 | refine below_set ?_ (Aside0.out (by assumption))) | exact HB.out))))
            have n1_ := Aside0.mk (below_step (by repeat (first | (with_reducible first | exact HB.out | apply below_alloc | apply pw_below_drewN | apply below_drew1 | refine below_set ?_ (Aside0.out (by assumption))) | exact HB.out)) hb)
            have n2_ := Aside0.mk ((by rw [hg]; exact (below_size (by repeat (first | (with_reducible first | exact HB.out | apply below_alloc | apply pw_below_drewN | apply below_drew1 | refine below_set ?_ (Aside0.out (by assumption))) | exact HB.out))) : w.heap.size ≤ gb1380))
            clear BX HB
            have BX := n0_
            have HB := n1_
            have GE1380 := n2_
            clear n0_ n1_ n2_
            clear hb hbox hg
            refine hK.out _ _ ⟨(blk_cell (BX.out.get 2 rfl) 0).trans rfl, (blk_cell (BX.out.get 2 rfl) 1).trans rfl, (blk_cell (BX.out.get 1 rfl) 0).trans rfl, (blk_cell (BX.out.get 1 rfl) 1).trans rfl⟩ (fun hHeld => ?_)
            clear hK K
            refine norm_ (a' := ?_) ?_ ?_
            rotate_left
            ·show Act.put _ (some 5) _ = _
             simp only [Act.put, List.setIfInBounds_toArray, List.set_cons_zero, List.set_cons_succ, i64_w, i32_w]
             rfl
            exact norm_ (by first | (simp only [putAll, Act.put, List.setIfInBounds_toArray, List.set_cons_zero, List.set_cons_succ]; done) | (simp only [putAll, Act.put, List.setIfInBounds_toArray, List.set_cons_zero, List.set_cons_succ]; rfl)) (hJ1_4 (gb1380) _ ⟨hHeld, (by (with_reducible repeat (first | apply boxes_drewN | apply boxes_drew | apply boxes_alloc)); exact BX.out), GE1380.out, (by repeat (first | (with_reducible first | exact HB.out | apply below_alloc | apply pw_below_drewN | apply below_drew1 | refine below_set ?_ (Aside0.out (by assumption))) | exact HB.out))⟩)
           ·skip
            refine box_step ?hg (N := 6) ?hd (cs := #[.int .i64 0, .int .i64 0, .int .i64 0, .string (⟨#[]⟩ : ByteArray), .bool false, .int .i64 0]) (t := 25) ?hr ?_; (case hd => rfl); (case hg => rfl); (case hr => first | (go_simp; done) | (go_simp; rfl))
            intro gb1381 hg w19 hbox hb
            have n0_ := Aside0.mk (Boxes.new (by (with_reducible repeat (first | apply boxes_drewN | apply boxes_drew | apply boxes_alloc)); exact BX.out) hg hbox hb (below_size (by repeat (first | (with_reducible first | exact HB.out | apply below_alloc | apply pw_below_drewN | apply below_drew1 | refine below_set ?_ (Aside0.out (by assumption))) | exact HB.out))))
            have n1_ := Aside0.mk (below_step (by repeat (first | (with_reducible first | exact HB.out | apply below_alloc | apply pw_below_drewN | apply below_drew1 | refine below_set ?_ (Aside0.out (by assumption))) | exact HB.out)) hb)
            have n2_ := Aside0.mk ((by rw [hg]; exact (below_size (by repeat (first | (with_reducible first | exact HB.out | apply below_alloc | apply pw_below_drewN | apply below_drew1 | refine below_set ?_ (Aside0.out (by assumption))) | exact HB.out))) : w.heap.size ≤ gb1381))
            clear BX HB
            have BX := n0_
            have HB := n1_
            have GE1381 := n2_
            clear n0_ n1_ n2_
            clear hb hbox hg
            refine hK.out _ _ ⟨(blk_cell (BX.out.get 2 rfl) 0).trans rfl, (blk_cell (BX.out.get 2 rfl) 1).trans rfl, (blk_cell (BX.out.get 1 rfl) 0).trans rfl, (blk_cell (BX.out.get 1 rfl) 1).trans rfl⟩ (fun hHeld => ?_)
            clear hK K
            refine norm_ (a' := ?_) ?_ ?_
            rotate_left
            ·show Act.put _ (some 6) _ = _
             simp only [Act.put, List.setIfInBounds_toArray, List.set_cons_zero, List.set_cons_succ, i64_w, i32_w]
             rfl
            exact norm_ (by first | (simp only [putAll, Act.put, List.setIfInBounds_toArray, List.set_cons_zero, List.set_cons_succ]; done) | (simp only [putAll, Act.put, List.setIfInBounds_toArray, List.set_cons_zero, List.set_cons_succ]; rfl)) (hJ1_5 (gb1381) _ ⟨hHeld, (by (with_reducible repeat (first | apply boxes_drewN | apply boxes_drew | apply boxes_alloc)); exact BX.out), GE1381.out, (by repeat (first | (with_reducible first | exact HB.out | apply below_alloc | apply pw_below_drewN | apply below_drew1 | refine below_set ?_ (Aside0.out (by assumption))) | exact HB.out))⟩)
         ·skip
          rintro ⟨gb1380, gb1381⟩ w19 ⟨hS_, hBX_, hJ0_, hJ1_, hJ2_⟩
          have n0_ : Aside0 (Boxes w.heap.size w19 [(gb1381, 25, #[.int .i64 0, .int .i64 0, .int .i64 0, .string (⟨#[]⟩ : ByteArray), .bool false, .int .i64 0]), (gb1380, 25, #[.int .i64 0, .int .i64 0, .int .i64 0, .string (⟨#[]⟩ : ByteArray), .bool false, .int .i64 0]), (gb1366, 23, #[.int .i64 a1_0, .int .i64 a1_1]), (gb1365, 23, #[.int .i64 a0_0, .int .i64 a0_1])]) := ⟨hBX_⟩
          have n1_ : Aside0 (w.heap.size ≤ gb1380) := ⟨hJ0_⟩
          have n2_ : Aside0 (w.heap.size ≤ gb1381) := ⟨hJ1_⟩
          have n3_ : Aside0 (Below w.heap.size w w19) := ⟨hJ2_⟩
          clear BX HB hBX_ hJ0_ hJ1_ hJ2_
          have BX := n0_
          have GE1380 := n1_
          have GE1381 := n2_
          have HB := n3_
          clear n0_ n1_ n2_ n3_
          have hHeld : w19.cell? ⟨gb1365, 0, none⟩ = some (.int .i64 a0_0) ∧ w19.cell? ⟨gb1365, 1, none⟩ = some (.int .i64 a0_1) ∧ w19.cell? ⟨gb1366, 0, none⟩ = some (.int .i64 a1_0) ∧ w19.cell? ⟨gb1366, 1, none⟩ = some (.int .i64 a1_1) := hS_
          refine norm_ (a' := ?_) ?_ ?_
          rotate_left
          ·simp only [putAll, Act.put, List.setIfInBounds_toArray, List.set_cons_zero, List.set_cons_succ]
           rfl
          refine one_ (i := 1) (N := some 22) #[true, true, true, false, true, true, false, false] rfl rfl (one_of HT_.out (by kernel_rfl)) (by decide) (fun K hK => ?_)
          refine goes_ Tryd.func19 (by kernel_rfl) rfl #[.agg #[.int .i64 a0_0, .int .i64 a0_1]] (by rfl) rfl rfl (by (try simp only [List.map_toArray, List.map_cons, List.map_nil]); first | done | rfl | (simp only [List.length_drop, List.length_take]; rfl)) ?_
          with_reducible refine (value_Number.calls k a0_0 a0_1 t1368 t1369 t1370 t1371 t1372 t1373 _ A5.out).mono ?_
          rintro e w20 ⟨rfl, hb⟩
          refine ⟨_, rfl, ?_⟩
          have n0_ := Aside0.mk (Boxes.below (by (with_reducible repeat (first | apply boxes_drewN | apply boxes_drew | apply boxes_alloc)); exact BX.out) hb)
          have n1_ := Aside0.mk (below_step (by repeat (first | (with_reducible first | exact HB.out | apply below_alloc | apply pw_below_drewN | apply below_drew1 | refine below_set ?_ (Aside0.out (by assumption))) | exact HB.out)) hb)
          clear BX HB
          have BX := n0_
          have HB := n1_
          clear n0_ n1_
          (try clear hb)
          (try clear hb2)
          (try clear hk)
          (try clear hi)
          refine hK.out _ _ ⟨(blk_cell (BX.out.get 3 rfl) 0).trans rfl, (blk_cell (BX.out.get 3 rfl) 1).trans rfl, (blk_cell (BX.out.get 2 rfl) 0).trans rfl, (blk_cell (BX.out.get 2 rfl) 1).trans rfl⟩ (fun hHeld => ?_)
          clear hK K
          refine norm_ (a' := ?_) ?_ ?_
          rotate_left
          ·show Act.put _ (some 22) _ = _
           simp only [Act.put, List.setIfInBounds_toArray, List.set_cons_zero, List.set_cons_succ, i64_w, i32_w]
           rfl
          exact norm_ (by first | (simp only [putAll, Act.put, List.setIfInBounds_toArray, List.set_cons_zero, List.set_cons_succ]; done) | (simp only [putAll, Act.put, List.setIfInBounds_toArray, List.set_cons_zero, List.set_cons_succ]; rfl)) (hJ1_4_5 (gb1380, gb1381) _ ⟨hHeld, (by (with_reducible repeat (first | apply boxes_drewN | apply boxes_drew | apply boxes_alloc)); exact BX.out), GE1380.out, GE1381.out, (by repeat (first | (with_reducible first | exact HB.out | apply below_alloc | apply pw_below_drewN | apply below_drew1 | refine below_set ?_ (Aside0.out (by assumption))) | exact HB.out))⟩)
        ·skip
         rintro gb1381 w19 ⟨hS_, hBX_, hJ0_, hJ1_⟩
         have n0_ : Aside0 (Boxes w.heap.size w19 [(gb1381, 25, #[.int .i64 0, .int .i64 0, .int .i64 0, .string (⟨#[]⟩ : ByteArray), .bool false, .int .i64 0]), (gb1366, 23, #[.int .i64 a1_0, .int .i64 a1_1]), (gb1365, 23, #[.int .i64 a0_0, .int .i64 a0_1])]) := ⟨hBX_⟩
         have n1_ : Aside0 (w.heap.size ≤ gb1381) := ⟨hJ0_⟩
         have n2_ : Aside0 (Below w.heap.size w w19) := ⟨hJ1_⟩
         clear BX HB hBX_ hJ0_ hJ1_
         have BX := n0_
         have GE1381 := n1_
         have HB := n2_
         clear n0_ n1_ n2_
         have hHeld : w19.cell? ⟨gb1365, 0, none⟩ = some (.int .i64 a0_0) ∧ w19.cell? ⟨gb1365, 1, none⟩ = some (.int .i64 a0_1) ∧ w19.cell? ⟨gb1366, 0, none⟩ = some (.int .i64 a1_0) ∧ w19.cell? ⟨gb1366, 1, none⟩ = some (.int .i64 a1_1) := hS_
         refine norm_ (a' := ?_) ?_ ?_
         rotate_left
         ·simp only [putAll, Act.put, List.setIfInBounds_toArray, List.set_cons_zero, List.set_cons_succ]
          rfl
         refine two_ (i := 3) (j := 4) (Ni := some 24) (Nj := some 5) #[true, true, true, true, false, true, false, false] #[true, true, true, false, true, true, false, false] rfl rfl rfl rfl (two_of HT_.out (by kernel_rfl)) (by decide) (by decide) (fun K hK => ?_) (fun K hK => ?_)
         ·skip
          refine goes_ Tryd.func19 (by kernel_rfl) rfl #[.agg #[.int .i64 a1_0, .int .i64 a1_1]] (by rfl) rfl rfl (by (try simp only [List.map_toArray, List.map_cons, List.map_nil]); first | done | rfl | (simp only [List.length_drop, List.length_take]; rfl)) ?_
          with_reducible refine (value_Number.calls k a1_0 a1_1 t1374 t1375 t1376 t1377 t1378 t1379 _ A6.out).mono ?_
          rintro e w20 ⟨rfl, hb⟩
          refine ⟨_, rfl, ?_⟩
          have n0_ := Aside0.mk (Boxes.below (by (with_reducible repeat (first | apply boxes_drewN | apply boxes_drew | apply boxes_alloc)); exact BX.out) hb)
          have n1_ := Aside0.mk (below_step (by repeat (first | (with_reducible first | exact HB.out | apply below_alloc | apply pw_below_drewN | apply below_drew1 | refine below_set ?_ (Aside0.out (by assumption))) | exact HB.out)) hb)
          clear BX HB
          have BX := n0_
          have HB := n1_
          clear n0_ n1_
          (try clear hb)
          (try clear hb2)
          (try clear hk)
          (try clear hi)
          refine hK.out _ _ ⟨(blk_cell (BX.out.get 2 rfl) 0).trans rfl, (blk_cell (BX.out.get 2 rfl) 1).trans rfl, (blk_cell (BX.out.get 1 rfl) 0).trans rfl, (blk_cell (BX.out.get 1 rfl) 1).trans rfl⟩ (fun hHeld => ?_)
          clear hK K
          refine norm_ (a' := ?_) ?_ ?_
          rotate_left
          ·show Act.put _ (some 24) _ = _
           simp only [Act.put, List.setIfInBounds_toArray, List.set_cons_zero, List.set_cons_succ, i64_w, i32_w]
           rfl
          exact norm_ (by first | (simp only [putAll, Act.put, List.setIfInBounds_toArray, List.set_cons_zero, List.set_cons_succ]; done) | (simp only [putAll, Act.put, List.setIfInBounds_toArray, List.set_cons_zero, List.set_cons_succ]; rfl)) (hJ1_3_5 (gb1381) _ ⟨hHeld, (by (with_reducible repeat (first | apply boxes_drewN | apply boxes_drew | apply boxes_alloc)); exact BX.out), GE1381.out, (by repeat (first | (with_reducible first | exact HB.out | apply below_alloc | apply pw_below_drewN | apply below_drew1 | refine below_set ?_ (Aside0.out (by assumption))) | exact HB.out))⟩)
         ·skip
          refine box_step ?hg (N := 5) ?hd (cs := #[.int .i64 0, .int .i64 0, .int .i64 0, .string (⟨#[]⟩ : ByteArray), .bool false, .int .i64 0]) (t := 25) ?hr ?_; (case hd => rfl); (case hg => rfl); (case hr => first | (go_simp; done) | (go_simp; rfl))
          intro gb1380 hg w20 hbox hb
          have n0_ := Aside0.mk (Boxes.new (by (with_reducible repeat (first | apply boxes_drewN | apply boxes_drew | apply boxes_alloc)); exact BX.out) hg hbox hb (below_size (by repeat (first | (with_reducible first | exact HB.out | apply below_alloc | apply pw_below_drewN | apply below_drew1 | refine below_set ?_ (Aside0.out (by assumption))) | exact HB.out))))
          have n1_ := Aside0.mk (below_step (by repeat (first | (with_reducible first | exact HB.out | apply below_alloc | apply pw_below_drewN | apply below_drew1 | refine below_set ?_ (Aside0.out (by assumption))) | exact HB.out)) hb)
          have n2_ := Aside0.mk ((by rw [hg]; exact (below_size (by repeat (first | (with_reducible first | exact HB.out | apply below_alloc | apply pw_below_drewN | apply below_drew1 | refine below_set ?_ (Aside0.out (by assumption))) | exact HB.out))) : w.heap.size ≤ gb1380))
          clear BX HB
          have BX := n0_
          have HB := n1_
          have GE1380 := n2_
          clear n0_ n1_ n2_
          clear hb hbox hg
          refine hK.out _ _ ⟨(blk_cell (BX.out.get 3 rfl) 0).trans rfl, (blk_cell (BX.out.get 3 rfl) 1).trans rfl, (blk_cell (BX.out.get 2 rfl) 0).trans rfl, (blk_cell (BX.out.get 2 rfl) 1).trans rfl⟩ (fun hHeld => ?_)
          clear hK K
          refine norm_ (a' := ?_) ?_ ?_
          rotate_left
          ·show Act.put _ (some 5) _ = _
           simp only [Act.put, List.setIfInBounds_toArray, List.set_cons_zero, List.set_cons_succ, i64_w, i32_w]
           rfl
          exact norm_ (by first | (simp only [putAll, Act.put, List.setIfInBounds_toArray, List.set_cons_zero, List.set_cons_succ]; done) | (simp only [putAll, Act.put, List.setIfInBounds_toArray, List.set_cons_zero, List.set_cons_succ]; rfl)) (hJ1_4_5 (gb1380, gb1381) _ ⟨hHeld, (by apply boxes_swap; apply boxes_sub; (with_reducible repeat (first | apply boxes_drewN | apply boxes_drew | apply boxes_alloc)); exact BX.out; repeat first | exact SubB.nil | apply SubB.same | apply SubB.skip), GE1380.out, GE1381.out, (by repeat (first | (with_reducible first | exact HB.out | apply below_alloc | apply pw_below_drewN | apply below_drew1 | refine below_set ?_ (Aside0.out (by assumption))) | exact HB.out))⟩)
       ·skip
        rintro gb1380 w19 ⟨hS_, hBX_, hJ0_, hJ1_⟩
        have n0_ : Aside0 (Boxes w.heap.size w19 [(gb1380, 25, #[.int .i64 0, .int .i64 0, .int .i64 0, .string (⟨#[]⟩ : ByteArray), .bool false, .int .i64 0]), (gb1366, 23, #[.int .i64 a1_0, .int .i64 a1_1]), (gb1365, 23, #[.int .i64 a0_0, .int .i64 a0_1])]) := ⟨hBX_⟩
        have n1_ : Aside0 (w.heap.size ≤ gb1380) := ⟨hJ0_⟩
        have n2_ : Aside0 (Below w.heap.size w w19) := ⟨hJ1_⟩
        clear BX HB hBX_ hJ0_ hJ1_
        have BX := n0_
        have GE1380 := n1_
        have HB := n2_
        clear n0_ n1_ n2_
        have hHeld : w19.cell? ⟨gb1365, 0, none⟩ = some (.int .i64 a0_0) ∧ w19.cell? ⟨gb1365, 1, none⟩ = some (.int .i64 a0_1) ∧ w19.cell? ⟨gb1366, 0, none⟩ = some (.int .i64 a1_0) ∧ w19.cell? ⟨gb1366, 1, none⟩ = some (.int .i64 a1_1) := hS_
        refine norm_ (a' := ?_) ?_ ?_
        rotate_left
        ·simp only [putAll, Act.put, List.setIfInBounds_toArray, List.set_cons_zero, List.set_cons_succ]
         rfl
        refine two_ (i := 3) (j := 5) (Ni := some 24) (Nj := some 6) #[true, true, true, true, true, false, false, false] #[true, true, true, false, true, true, false, false] rfl rfl rfl rfl (two_of HT_.out (by kernel_rfl)) (by decide) (by decide) (fun K hK => ?_) (fun K hK => ?_)
        ·skip
         refine goes_ Tryd.func19 (by kernel_rfl) rfl #[.agg #[.int .i64 a1_0, .int .i64 a1_1]] (by rfl) rfl rfl (by (try simp only [List.map_toArray, List.map_cons, List.map_nil]); first | done | rfl | (simp only [List.length_drop, List.length_take]; rfl)) ?_
         with_reducible refine (value_Number.calls k a1_0 a1_1 t1374 t1375 t1376 t1377 t1378 t1379 _ A6.out).mono ?_
         rintro e w20 ⟨rfl, hb⟩
         refine ⟨_, rfl, ?_⟩
         have n0_ := Aside0.mk (Boxes.below (by (with_reducible repeat (first | apply boxes_drewN | apply boxes_drew | apply boxes_alloc)); exact BX.out) hb)
         have n1_ := Aside0.mk (below_step (by repeat (first | (with_reducible first | exact HB.out | apply below_alloc | apply pw_below_drewN | apply below_drew1 | refine below_set ?_ (Aside0.out (by assumption))) | exact HB.out)) hb)
         clear BX HB
         have BX := n0_
         have HB := n1_
         clear n0_ n1_
         (try clear hb)
         (try clear hb2)
         (try clear hk)
         (try clear hi)
         refine hK.out _ _ ⟨(blk_cell (BX.out.get 2 rfl) 0).trans rfl, (blk_cell (BX.out.get 2 rfl) 1).trans rfl, (blk_cell (BX.out.get 1 rfl) 0).trans rfl, (blk_cell (BX.out.get 1 rfl) 1).trans rfl⟩ (fun hHeld => ?_)
         clear hK K
         refine norm_ (a' := ?_) ?_ ?_
         rotate_left
         ·show Act.put _ (some 24) _ = _
          simp only [Act.put, List.setIfInBounds_toArray, List.set_cons_zero, List.set_cons_succ, i64_w, i32_w]
          rfl
         exact norm_ (by first | (simp only [putAll, Act.put, List.setIfInBounds_toArray, List.set_cons_zero, List.set_cons_succ]; done) | (simp only [putAll, Act.put, List.setIfInBounds_toArray, List.set_cons_zero, List.set_cons_succ]; rfl)) (hJ1_3_4 (gb1380) _ ⟨hHeld, (by (with_reducible repeat (first | apply boxes_drewN | apply boxes_drew | apply boxes_alloc)); exact BX.out), GE1380.out, (by repeat (first | (with_reducible first | exact HB.out | apply below_alloc | apply pw_below_drewN | apply below_drew1 | refine below_set ?_ (Aside0.out (by assumption))) | exact HB.out))⟩)
        ·skip
         refine box_step ?hg (N := 6) ?hd (cs := #[.int .i64 0, .int .i64 0, .int .i64 0, .string (⟨#[]⟩ : ByteArray), .bool false, .int .i64 0]) (t := 25) ?hr ?_; (case hd => rfl); (case hg => rfl); (case hr => first | (go_simp; done) | (go_simp; rfl))
         intro gb1381 hg w20 hbox hb
         have n0_ := Aside0.mk (Boxes.new (by (with_reducible repeat (first | apply boxes_drewN | apply boxes_drew | apply boxes_alloc)); exact BX.out) hg hbox hb (below_size (by repeat (first | (with_reducible first | exact HB.out | apply below_alloc | apply pw_below_drewN | apply below_drew1 | refine below_set ?_ (Aside0.out (by assumption))) | exact HB.out))))
         have n1_ := Aside0.mk (below_step (by repeat (first | (with_reducible first | exact HB.out | apply below_alloc | apply pw_below_drewN | apply below_drew1 | refine below_set ?_ (Aside0.out (by assumption))) | exact HB.out)) hb)
         have n2_ := Aside0.mk ((by rw [hg]; exact (below_size (by repeat (first | (with_reducible first | exact HB.out | apply below_alloc | apply pw_below_drewN | apply below_drew1 | refine below_set ?_ (Aside0.out (by assumption))) | exact HB.out))) : w.heap.size ≤ gb1381))
         clear BX HB
         have BX := n0_
         have HB := n1_
         have GE1381 := n2_
         clear n0_ n1_ n2_
         clear hb hbox hg
         refine hK.out _ _ ⟨(blk_cell (BX.out.get 3 rfl) 0).trans rfl, (blk_cell (BX.out.get 3 rfl) 1).trans rfl, (blk_cell (BX.out.get 2 rfl) 0).trans rfl, (blk_cell (BX.out.get 2 rfl) 1).trans rfl⟩ (fun hHeld => ?_)
         clear hK K
         refine norm_ (a' := ?_) ?_ ?_
         rotate_left
         ·show Act.put _ (some 6) _ = _
          simp only [Act.put, List.setIfInBounds_toArray, List.set_cons_zero, List.set_cons_succ, i64_w, i32_w]
          rfl
         exact norm_ (by first | (simp only [putAll, Act.put, List.setIfInBounds_toArray, List.set_cons_zero, List.set_cons_succ]; done) | (simp only [putAll, Act.put, List.setIfInBounds_toArray, List.set_cons_zero, List.set_cons_succ]; rfl)) (hJ1_4_5 (gb1380, gb1381) _ ⟨hHeld, (by (with_reducible repeat (first | apply boxes_drewN | apply boxes_drew | apply boxes_alloc)); exact BX.out), GE1380.out, GE1381.out, (by repeat (first | (with_reducible first | exact HB.out | apply below_alloc | apply pw_below_drewN | apply below_drew1 | refine below_set ?_ (Aside0.out (by assumption))) | exact HB.out))⟩)
      ·skip
       rintro _ w19 ⟨hS_, hBX_, hJ0_⟩
       have n0_ : Aside0 (Boxes w.heap.size w19 [(gb1366, 23, #[.int .i64 a1_0, .int .i64 a1_1]), (gb1365, 23, #[.int .i64 a0_0, .int .i64 a0_1])]) := ⟨hBX_⟩
       have n1_ : Aside0 (Below w.heap.size w w19) := ⟨hJ0_⟩
       clear BX HB hBX_ hJ0_
       have BX := n0_
       have HB := n1_
       clear n0_ n1_
       have hHeld : w19.cell? ⟨gb1365, 0, none⟩ = some (.int .i64 a0_0) ∧ w19.cell? ⟨gb1365, 1, none⟩ = some (.int .i64 a0_1) ∧ w19.cell? ⟨gb1366, 0, none⟩ = some (.int .i64 a1_0) ∧ w19.cell? ⟨gb1366, 1, none⟩ = some (.int .i64 a1_1) := hS_
       refine norm_ (a' := ?_) ?_ ?_
       rotate_left
       ·simp only [putAll, Act.put, List.setIfInBounds_toArray, List.set_cons_zero, List.set_cons_succ]
        rfl
       refine two_ (i := 4) (j := 5) (Ni := some 5) (Nj := some 6) #[true, true, true, true, true, false, false, false] #[true, true, true, true, false, true, false, false] rfl rfl rfl rfl (two_of HT_.out (by kernel_rfl)) (by decide) (by decide) (fun K hK => ?_) (fun K hK => ?_)
       ·skip
        refine box_step ?hg (N := 5) ?hd (cs := #[.int .i64 0, .int .i64 0, .int .i64 0, .string (⟨#[]⟩ : ByteArray), .bool false, .int .i64 0]) (t := 25) ?hr ?_; (case hd => rfl); (case hg => rfl); (case hr => first | (go_simp; done) | (go_simp; rfl))
        intro gb1380 hg w20 hbox hb
        have n0_ := Aside0.mk (Boxes.new (by (with_reducible repeat (first | apply boxes_drewN | apply boxes_drew | apply boxes_alloc)); exact BX.out) hg hbox hb (below_size (by repeat (first | (with_reducible first | exact HB.out | apply below_alloc | apply pw_below_drewN | apply below_drew1 | refine below_set ?_ (Aside0.out (by assumption))) | exact HB.out))))
        have n1_ := Aside0.mk (below_step (by repeat (first | (with_reducible first | exact HB.out | apply below_alloc | apply pw_below_drewN | apply below_drew1 | refine below_set ?_ (Aside0.out (by assumption))) | exact HB.out)) hb)
        have n2_ := Aside0.mk ((by rw [hg]; exact (below_size (by repeat (first | (with_reducible first | exact HB.out | apply below_alloc | apply pw_below_drewN | apply below_drew1 | refine below_set ?_ (Aside0.out (by assumption))) | exact HB.out))) : w.heap.size ≤ gb1380))
        clear BX HB
        have BX := n0_
        have HB := n1_
        have GE1380 := n2_
        clear n0_ n1_ n2_
        clear hb hbox hg
        refine hK.out _ _ ⟨(blk_cell (BX.out.get 2 rfl) 0).trans rfl, (blk_cell (BX.out.get 2 rfl) 1).trans rfl, (blk_cell (BX.out.get 1 rfl) 0).trans rfl, (blk_cell (BX.out.get 1 rfl) 1).trans rfl⟩ (fun hHeld => ?_)
        clear hK K
        refine norm_ (a' := ?_) ?_ ?_
        rotate_left
        ·show Act.put _ (some 5) _ = _
         simp only [Act.put, List.setIfInBounds_toArray, List.set_cons_zero, List.set_cons_succ, i64_w, i32_w]
         rfl
        exact norm_ (by first | (simp only [putAll, Act.put, List.setIfInBounds_toArray, List.set_cons_zero, List.set_cons_succ]; done) | (simp only [putAll, Act.put, List.setIfInBounds_toArray, List.set_cons_zero, List.set_cons_succ]; rfl)) (hJ1_3_4 (gb1380) _ ⟨hHeld, (by (with_reducible repeat (first | apply boxes_drewN | apply boxes_drew | apply boxes_alloc)); exact BX.out), GE1380.out, (by repeat (first | (with_reducible first | exact HB.out | apply below_alloc | apply pw_below_drewN | apply below_drew1 | refine below_set ?_ (Aside0.out (by assumption))) | exact HB.out))⟩)
       ·skip
        refine box_step ?hg (N := 6) ?hd (cs := #[.int .i64 0, .int .i64 0, .int .i64 0, .string (⟨#[]⟩ : ByteArray), .bool false, .int .i64 0]) (t := 25) ?hr ?_; (case hd => rfl); (case hg => rfl); (case hr => first | (go_simp; done) | (go_simp; rfl))
        intro gb1381 hg w20 hbox hb
        have n0_ := Aside0.mk (Boxes.new (by (with_reducible repeat (first | apply boxes_drewN | apply boxes_drew | apply boxes_alloc)); exact BX.out) hg hbox hb (below_size (by repeat (first | (with_reducible first | exact HB.out | apply below_alloc | apply pw_below_drewN | apply below_drew1 | refine below_set ?_ (Aside0.out (by assumption))) | exact HB.out))))
        have n1_ := Aside0.mk (below_step (by repeat (first | (with_reducible first | exact HB.out | apply below_alloc | apply pw_below_drewN | apply below_drew1 | refine below_set ?_ (Aside0.out (by assumption))) | exact HB.out)) hb)
        have n2_ := Aside0.mk ((by rw [hg]; exact (below_size (by repeat (first | (with_reducible first | exact HB.out | apply below_alloc | apply pw_below_drewN | apply below_drew1 | refine below_set ?_ (Aside0.out (by assumption))) | exact HB.out))) : w.heap.size ≤ gb1381))
        clear BX HB
        have BX := n0_
        have HB := n1_
        have GE1381 := n2_
        clear n0_ n1_ n2_
        clear hb hbox hg
        refine hK.out _ _ ⟨(blk_cell (BX.out.get 2 rfl) 0).trans rfl, (blk_cell (BX.out.get 2 rfl) 1).trans rfl, (blk_cell (BX.out.get 1 rfl) 0).trans rfl, (blk_cell (BX.out.get 1 rfl) 1).trans rfl⟩ (fun hHeld => ?_)
        clear hK K
        refine norm_ (a' := ?_) ?_ ?_
        rotate_left
        ·show Act.put _ (some 6) _ = _
         simp only [Act.put, List.setIfInBounds_toArray, List.set_cons_zero, List.set_cons_succ, i64_w, i32_w]
         rfl
        exact norm_ (by first | (simp only [putAll, Act.put, List.setIfInBounds_toArray, List.set_cons_zero, List.set_cons_succ]; done) | (simp only [putAll, Act.put, List.setIfInBounds_toArray, List.set_cons_zero, List.set_cons_succ]; rfl)) (hJ1_3_5 (gb1381) _ ⟨hHeld, (by (with_reducible repeat (first | apply boxes_drewN | apply boxes_drew | apply boxes_alloc)); exact BX.out), GE1381.out, (by repeat (first | (with_reducible first | exact HB.out | apply below_alloc | apply pw_below_drewN | apply below_drew1 | refine below_set ?_ (Aside0.out (by assumption))) | exact HB.out))⟩)
     ·skip
      rintro ⟨gb1380, gb1381⟩ w20 ⟨hS_, hBX_, hJ0_, hJ1_, hJ2_⟩
      have n0_ : Aside0 (Boxes w.heap.size w20 [(gb1381, 25, #[.int .i64 0, .int .i64 0, .int .i64 0, .string (⟨#[]⟩ : ByteArray), .bool false, .int .i64 0]), (gb1380, 25, #[.int .i64 0, .int .i64 0, .int .i64 0, .string (⟨#[]⟩ : ByteArray), .bool false, .int .i64 0]), (gb1366, 23, #[.int .i64 a1_0, .int .i64 a1_1]), (gb1365, 23, #[.int .i64 a0_0, .int .i64 a0_1])]) := ⟨hBX_⟩
      have n1_ : Aside0 (w.heap.size ≤ gb1380) := ⟨hJ0_⟩
      have n2_ : Aside0 (w.heap.size ≤ gb1381) := ⟨hJ1_⟩
      have n3_ : Aside0 (Below w.heap.size w w20) := ⟨hJ2_⟩
      clear BX HB hBX_ hJ0_ hJ1_ hJ2_
      have BX := n0_
      have GE1380 := n1_
      have GE1381 := n2_
      have HB := n3_
      clear n0_ n1_ n2_ n3_
      have hHeld : w20.cell? ⟨gb1365, 0, none⟩ = some (.int .i64 a0_0) ∧ w20.cell? ⟨gb1365, 1, none⟩ = some (.int .i64 a0_1) ∧ w20.cell? ⟨gb1366, 0, none⟩ = some (.int .i64 a1_0) ∧ w20.cell? ⟨gb1366, 1, none⟩ = some (.int .i64 a1_1) := hS_
      refine norm_ (a' := ?_) ?_ ?_
      rotate_left
      ·simp only [putAll, Act.put, List.setIfInBounds_toArray, List.set_cons_zero, List.set_cons_succ]
       rfl
      refine one_ (i := 3) (N := some 24) #[true, true, true, true, true, true, false, false] rfl rfl (one_of HT_.out (by kernel_rfl)) (by decide) (fun K hK => ?_)
      refine goes_ Tryd.func19 (by kernel_rfl) rfl #[.agg #[.int .i64 a1_0, .int .i64 a1_1]] (by rfl) rfl rfl (by (try simp only [List.map_toArray, List.map_cons, List.map_nil]); first | done | rfl | (simp only [List.length_drop, List.length_take]; rfl)) ?_
      with_reducible refine (value_Number.calls k a1_0 a1_1 t1374 t1375 t1376 t1377 t1378 t1379 _ A6.out).mono ?_
      rintro e w21 ⟨rfl, hb⟩
      refine ⟨_, rfl, ?_⟩
      have n0_ := Aside0.mk (Boxes.below (by (with_reducible repeat (first | apply boxes_drewN | apply boxes_drew | apply boxes_alloc)); exact BX.out) hb)
      have n1_ := Aside0.mk (below_step (by repeat (first | (with_reducible first | exact HB.out | apply below_alloc | apply pw_below_drewN | apply below_drew1 | refine below_set ?_ (Aside0.out (by assumption))) | exact HB.out)) hb)
      clear BX HB
      have BX := n0_
      have HB := n1_
      clear n0_ n1_
      (try clear hb)
      (try clear hb2)
      (try clear hk)
      (try clear hi)
      refine hK.out _ _ ⟨(blk_cell (BX.out.get 3 rfl) 0).trans rfl, (blk_cell (BX.out.get 3 rfl) 1).trans rfl, (blk_cell (BX.out.get 2 rfl) 0).trans rfl, (blk_cell (BX.out.get 2 rfl) 1).trans rfl⟩ (fun hHeld => ?_)
      clear hK K
      refine norm_ (a' := ?_) ?_ ?_
      rotate_left
      ·show Act.put _ (some 24) _ = _
       simp only [Act.put, List.setIfInBounds_toArray, List.set_cons_zero, List.set_cons_succ, i64_w, i32_w]
       rfl
      exact norm_ (by first | (simp only [putAll, Act.put, List.setIfInBounds_toArray, List.set_cons_zero, List.set_cons_succ]; done) | (simp only [putAll, Act.put, List.setIfInBounds_toArray, List.set_cons_zero, List.set_cons_succ]; rfl)) (hJ1_3_4_5 (gb1380, gb1381) _ ⟨hHeld, (by (with_reducible repeat (first | apply boxes_drewN | apply boxes_drew | apply boxes_alloc)); exact BX.out), GE1380.out, GE1381.out, (by repeat (first | (with_reducible first | exact HB.out | apply below_alloc | apply pw_below_drewN | apply below_drew1 | refine below_set ?_ (Aside0.out (by assumption))) | exact HB.out))⟩)
    ·skip
     rintro gb1381 w20 ⟨hS_, hBX_, hJ0_, hJ1_⟩
     have n0_ : Aside0 (Boxes w.heap.size w20 [(gb1381, 25, #[.int .i64 0, .int .i64 0, .int .i64 0, .string (⟨#[]⟩ : ByteArray), .bool false, .int .i64 0]), (gb1366, 23, #[.int .i64 a1_0, .int .i64 a1_1]), (gb1365, 23, #[.int .i64 a0_0, .int .i64 a0_1])]) := ⟨hBX_⟩
     have n1_ : Aside0 (w.heap.size ≤ gb1381) := ⟨hJ0_⟩
     have n2_ : Aside0 (Below w.heap.size w w20) := ⟨hJ1_⟩
     clear BX HB hBX_ hJ0_ hJ1_
     have BX := n0_
     have GE1381 := n1_
     have HB := n2_
     clear n0_ n1_ n2_
     have hHeld : w20.cell? ⟨gb1365, 0, none⟩ = some (.int .i64 a0_0) ∧ w20.cell? ⟨gb1365, 1, none⟩ = some (.int .i64 a0_1) ∧ w20.cell? ⟨gb1366, 0, none⟩ = some (.int .i64 a1_0) ∧ w20.cell? ⟨gb1366, 1, none⟩ = some (.int .i64 a1_1) := hS_
     refine norm_ (a' := ?_) ?_ ?_
     rotate_left
     ·simp only [putAll, Act.put, List.setIfInBounds_toArray, List.set_cons_zero, List.set_cons_succ]
      rfl
     refine one_ (i := 4) (N := some 5) #[true, true, true, true, true, true, false, false] rfl rfl (one_of HT_.out (by kernel_rfl)) (by decide) (fun K hK => ?_)
     refine box_step ?hg (N := 5) ?hd (cs := #[.int .i64 0, .int .i64 0, .int .i64 0, .string (⟨#[]⟩ : ByteArray), .bool false, .int .i64 0]) (t := 25) ?hr ?_; (case hd => rfl); (case hg => rfl); (case hr => first | (go_simp; done) | (go_simp; rfl))
     intro gb1380 hg w21 hbox hb
     have n0_ := Aside0.mk (Boxes.new (by (with_reducible repeat (first | apply boxes_drewN | apply boxes_drew | apply boxes_alloc)); exact BX.out) hg hbox hb (below_size (by repeat (first | (with_reducible first | exact HB.out | apply below_alloc | apply pw_below_drewN | apply below_drew1 | refine below_set ?_ (Aside0.out (by assumption))) | exact HB.out))))
     have n1_ := Aside0.mk (below_step (by repeat (first | (with_reducible first | exact HB.out | apply below_alloc | apply pw_below_drewN | apply below_drew1 | refine below_set ?_ (Aside0.out (by assumption))) | exact HB.out)) hb)
     have n2_ := Aside0.mk ((by rw [hg]; exact (below_size (by repeat (first | (with_reducible first | exact HB.out | apply below_alloc | apply pw_below_drewN | apply below_drew1 | refine below_set ?_ (Aside0.out (by assumption))) | exact HB.out))) : w.heap.size ≤ gb1380))
     clear BX HB
     have BX := n0_
     have HB := n1_
     have GE1380 := n2_
     clear n0_ n1_ n2_
     clear hb hbox hg
     refine hK.out _ _ ⟨(blk_cell (BX.out.get 3 rfl) 0).trans rfl, (blk_cell (BX.out.get 3 rfl) 1).trans rfl, (blk_cell (BX.out.get 2 rfl) 0).trans rfl, (blk_cell (BX.out.get 2 rfl) 1).trans rfl⟩ (fun hHeld => ?_)
     clear hK K
     refine norm_ (a' := ?_) ?_ ?_
     rotate_left
     ·show Act.put _ (some 5) _ = _
      simp only [Act.put, List.setIfInBounds_toArray, List.set_cons_zero, List.set_cons_succ, i64_w, i32_w]
      rfl
     exact norm_ (by first | (simp only [putAll, Act.put, List.setIfInBounds_toArray, List.set_cons_zero, List.set_cons_succ]; done) | (simp only [putAll, Act.put, List.setIfInBounds_toArray, List.set_cons_zero, List.set_cons_succ]; rfl)) (hJ1_3_4_5 (gb1380, gb1381) _ ⟨hHeld, (by apply boxes_swap; apply boxes_sub; (with_reducible repeat (first | apply boxes_drewN | apply boxes_drew | apply boxes_alloc)); exact BX.out; repeat first | exact SubB.nil | apply SubB.same | apply SubB.skip), GE1380.out, GE1381.out, (by repeat (first | (with_reducible first | exact HB.out | apply below_alloc | apply pw_below_drewN | apply below_drew1 | refine below_set ?_ (Aside0.out (by assumption))) | exact HB.out))⟩)
   ·skip
    rintro gb1380 w20 ⟨hS_, hBX_, hJ0_, hJ1_⟩
    have n0_ : Aside0 (Boxes w.heap.size w20 [(gb1380, 25, #[.int .i64 0, .int .i64 0, .int .i64 0, .string (⟨#[]⟩ : ByteArray), .bool false, .int .i64 0]), (gb1366, 23, #[.int .i64 a1_0, .int .i64 a1_1]), (gb1365, 23, #[.int .i64 a0_0, .int .i64 a0_1])]) := ⟨hBX_⟩
    have n1_ : Aside0 (w.heap.size ≤ gb1380) := ⟨hJ0_⟩
    have n2_ : Aside0 (Below w.heap.size w w20) := ⟨hJ1_⟩
    clear BX HB hBX_ hJ0_ hJ1_
    have BX := n0_
    have GE1380 := n1_
    have HB := n2_
    clear n0_ n1_ n2_
    have hHeld : w20.cell? ⟨gb1365, 0, none⟩ = some (.int .i64 a0_0) ∧ w20.cell? ⟨gb1365, 1, none⟩ = some (.int .i64 a0_1) ∧ w20.cell? ⟨gb1366, 0, none⟩ = some (.int .i64 a1_0) ∧ w20.cell? ⟨gb1366, 1, none⟩ = some (.int .i64 a1_1) := hS_
    refine norm_ (a' := ?_) ?_ ?_
    rotate_left
    ·simp only [putAll, Act.put, List.setIfInBounds_toArray, List.set_cons_zero, List.set_cons_succ]
     rfl
    refine one_ (i := 5) (N := some 6) #[true, true, true, true, true, true, false, false] rfl rfl (one_of HT_.out (by kernel_rfl)) (by decide) (fun K hK => ?_)
    refine box_step ?hg (N := 6) ?hd (cs := #[.int .i64 0, .int .i64 0, .int .i64 0, .string (⟨#[]⟩ : ByteArray), .bool false, .int .i64 0]) (t := 25) ?hr ?_; (case hd => rfl); (case hg => rfl); (case hr => first | (go_simp; done) | (go_simp; rfl))
    intro gb1381 hg w21 hbox hb
    have n0_ := Aside0.mk (Boxes.new (by (with_reducible repeat (first | apply boxes_drewN | apply boxes_drew | apply boxes_alloc)); exact BX.out) hg hbox hb (below_size (by repeat (first | (with_reducible first | exact HB.out | apply below_alloc | apply pw_below_drewN | apply below_drew1 | refine below_set ?_ (Aside0.out (by assumption))) | exact HB.out))))
    have n1_ := Aside0.mk (below_step (by repeat (first | (with_reducible first | exact HB.out | apply below_alloc | apply pw_below_drewN | apply below_drew1 | refine below_set ?_ (Aside0.out (by assumption))) | exact HB.out)) hb)
    have n2_ := Aside0.mk ((by rw [hg]; exact (below_size (by repeat (first | (with_reducible first | exact HB.out | apply below_alloc | apply pw_below_drewN | apply below_drew1 | refine below_set ?_ (Aside0.out (by assumption))) | exact HB.out))) : w.heap.size ≤ gb1381))
    clear BX HB
    have BX := n0_
    have HB := n1_
    have GE1381 := n2_
    clear n0_ n1_ n2_
    clear hb hbox hg
    refine hK.out _ _ ⟨(blk_cell (BX.out.get 3 rfl) 0).trans rfl, (blk_cell (BX.out.get 3 rfl) 1).trans rfl, (blk_cell (BX.out.get 2 rfl) 0).trans rfl, (blk_cell (BX.out.get 2 rfl) 1).trans rfl⟩ (fun hHeld => ?_)
    clear hK K
    refine norm_ (a' := ?_) ?_ ?_
    rotate_left
    ·show Act.put _ (some 6) _ = _
     simp only [Act.put, List.setIfInBounds_toArray, List.set_cons_zero, List.set_cons_succ, i64_w, i32_w]
     rfl
    exact norm_ (by first | (simp only [putAll, Act.put, List.setIfInBounds_toArray, List.set_cons_zero, List.set_cons_succ]; done) | (simp only [putAll, Act.put, List.setIfInBounds_toArray, List.set_cons_zero, List.set_cons_succ]; rfl)) (hJ1_3_4_5 (gb1380, gb1381) _ ⟨hHeld, (by (with_reducible repeat (first | apply boxes_drewN | apply boxes_drew | apply boxes_alloc)); exact BX.out), GE1380.out, GE1381.out, (by repeat (first | (with_reducible first | exact HB.out | apply below_alloc | apply pw_below_drewN | apply below_drew1 | refine below_set ?_ (Aside0.out (by assumption))) | exact HB.out))⟩)
  rintro ⟨gb1380, gb1381⟩ w21 ⟨hS_, hBX_, hJ0_, hJ1_, hJ2_⟩
  have n0_ : Aside0 (Boxes w.heap.size w21 [(gb1381, 25, #[.int .i64 0, .int .i64 0, .int .i64 0, .string (⟨#[]⟩ : ByteArray), .bool false, .int .i64 0]), (gb1380, 25, #[.int .i64 0, .int .i64 0, .int .i64 0, .string (⟨#[]⟩ : ByteArray), .bool false, .int .i64 0]), (gb1366, 23, #[.int .i64 a1_0, .int .i64 a1_1]), (gb1365, 23, #[.int .i64 a0_0, .int .i64 a0_1])]) := ⟨hBX_⟩
  have n1_ : Aside0 (w.heap.size ≤ gb1380) := ⟨hJ0_⟩
  have n2_ : Aside0 (w.heap.size ≤ gb1381) := ⟨hJ1_⟩
  have n3_ : Aside0 (Below w.heap.size w w21) := ⟨hJ2_⟩
  clear BX HB hBX_ hJ0_ hJ1_ hJ2_
  have BX := n0_
  have GE1380 := n1_
  have GE1381 := n2_
  have HB := n3_
  clear n0_ n1_ n2_ n3_
  have hHeld : w21.cell? ⟨gb1365, 0, none⟩ = some (.int .i64 a0_0) ∧ w21.cell? ⟨gb1365, 1, none⟩ = some (.int .i64 a0_1) ∧ w21.cell? ⟨gb1366, 0, none⟩ = some (.int .i64 a1_0) ∧ w21.cell? ⟨gb1366, 1, none⟩ = some (.int .i64 a1_1) := hS_
  refine norm_ (a' := ?_) ?_ ?_
  rotate_left
  ·simp only [putAll, Act.put, List.setIfInBounds_toArray, List.set_cons_zero, List.set_cons_succ]
   rfl
  refine one_ (i := 6) (N := none) #[true, true, true, true, true, true, true, false] rfl rfl (one_of HT_.out (by kernel_rfl)) (by decide) (fun K hK => ?_)
  have hs22 : w21.cell? ⟨gb1380, 0, none⟩ = some (.int .i64 0) := (blk_cell (BX.out.get 1 rfl) 0).trans rfl
  have hfs22 := blk_frozen (BX.out.get 1 rfl) 0
  have hns22_0 := (BX.out.ne 3 1 rfl rfl (by decide))
  have hns22_1 := (BX.out.ne 2 1 rfl rfl (by decide))
  have hns22_3 := (BX.out.ne 0 1 rfl rfl (by decide))
  have hms22_0 := (BX.out.ne 1 3 rfl rfl (by decide))
  have hms22_1 := (BX.out.ne 1 2 rfl rfl (by decide))
  have hms22_3 := (BX.out.ne 1 0 rfl rfl (by decide))
  have hs23 : w21.cell? ⟨gb1380, 1, none⟩ = some (.int .i64 0) := (blk_cell (BX.out.get 1 rfl) 1).trans rfl
  have hfs23 := blk_frozen (BX.out.get 1 rfl) 1
  have hns23_0 := (BX.out.ne 3 1 rfl rfl (by decide))
  have hns23_1 := (BX.out.ne 2 1 rfl rfl (by decide))
  have hns23_3 := (BX.out.ne 0 1 rfl rfl (by decide))
  have hms23_0 := (BX.out.ne 1 3 rfl rfl (by decide))
  have hms23_1 := (BX.out.ne 1 2 rfl rfl (by decide))
  have hms23_3 := (BX.out.ne 1 0 rfl rfl (by decide))
  have hs24 : w21.cell? ⟨gb1380, 2, none⟩ = some (.int .i64 0) := (blk_cell (BX.out.get 1 rfl) 2).trans rfl
  have hfs24 := blk_frozen (BX.out.get 1 rfl) 2
  have hns24_0 := (BX.out.ne 3 1 rfl rfl (by decide))
  have hns24_1 := (BX.out.ne 2 1 rfl rfl (by decide))
  have hns24_3 := (BX.out.ne 0 1 rfl rfl (by decide))
  have hms24_0 := (BX.out.ne 1 3 rfl rfl (by decide))
  have hms24_1 := (BX.out.ne 1 2 rfl rfl (by decide))
  have hms24_3 := (BX.out.ne 1 0 rfl rfl (by decide))
  have hs25 : w21.cell? ⟨gb1380, 3, none⟩ = some (.string (⟨#[]⟩ : ByteArray)) := (blk_cell (BX.out.get 1 rfl) 3).trans rfl
  have hfs25 := blk_frozen (BX.out.get 1 rfl) 3
  have hns25_0 := (BX.out.ne 3 1 rfl rfl (by decide))
  have hns25_1 := (BX.out.ne 2 1 rfl rfl (by decide))
  have hns25_3 := (BX.out.ne 0 1 rfl rfl (by decide))
  have hms25_0 := (BX.out.ne 1 3 rfl rfl (by decide))
  have hms25_1 := (BX.out.ne 1 2 rfl rfl (by decide))
  have hms25_3 := (BX.out.ne 1 0 rfl rfl (by decide))
  have hs26 : w21.cell? ⟨gb1380, 4, none⟩ = some (.bool false) := (blk_cell (BX.out.get 1 rfl) 4).trans rfl
  have hfs26 := blk_frozen (BX.out.get 1 rfl) 4
  have hns26_0 := (BX.out.ne 3 1 rfl rfl (by decide))
  have hns26_1 := (BX.out.ne 2 1 rfl rfl (by decide))
  have hns26_3 := (BX.out.ne 0 1 rfl rfl (by decide))
  have hms26_0 := (BX.out.ne 1 3 rfl rfl (by decide))
  have hms26_1 := (BX.out.ne 1 2 rfl rfl (by decide))
  have hms26_3 := (BX.out.ne 1 0 rfl rfl (by decide))
  have hs27 : w21.cell? ⟨gb1380, 5, none⟩ = some (.int .i64 0) := (blk_cell (BX.out.get 1 rfl) 5).trans rfl
  have hfs27 := blk_frozen (BX.out.get 1 rfl) 5
  have hns27_0 := (BX.out.ne 3 1 rfl rfl (by decide))
  have hns27_1 := (BX.out.ne 2 1 rfl rfl (by decide))
  have hns27_3 := (BX.out.ne 0 1 rfl rfl (by decide))
  have hms27_0 := (BX.out.ne 1 3 rfl rfl (by decide))
  have hms27_1 := (BX.out.ne 1 2 rfl rfl (by decide))
  have hms27_3 := (BX.out.ne 1 0 rfl rfl (by decide))
  refine skip_ (w1 := ?_) (by rfl) rfl ?_ ?_
  rotate_left
  ·go_simp
   rfl
  refine hK.out _ _ ⟨((cell_far (p := ⟨gb1380, _, none⟩) (BX.out.ne 3 1 rfl rfl (by decide)) _).trans (((cell_far (p := ⟨gb1380, _, none⟩) (BX.out.ne 3 1 rfl rfl (by decide)) _).trans (((cell_far (p := ⟨gb1380, _, none⟩) (BX.out.ne 3 1 rfl rfl (by decide)) _).trans (((cell_far (p := ⟨gb1380, _, none⟩) (BX.out.ne 3 1 rfl rfl (by decide)) _).trans (((cell_far (p := ⟨gb1380, _, none⟩) (BX.out.ne 3 1 rfl rfl (by decide)) _).trans (((cell_far (p := ⟨gb1380, _, none⟩) (BX.out.ne 3 1 rfl rfl (by decide)) _).trans (hHeld.1)))))))))))), ((cell_far (p := ⟨gb1380, _, none⟩) (BX.out.ne 3 1 rfl rfl (by decide)) _).trans (((cell_far (p := ⟨gb1380, _, none⟩) (BX.out.ne 3 1 rfl rfl (by decide)) _).trans (((cell_far (p := ⟨gb1380, _, none⟩) (BX.out.ne 3 1 rfl rfl (by decide)) _).trans (((cell_far (p := ⟨gb1380, _, none⟩) (BX.out.ne 3 1 rfl rfl (by decide)) _).trans (((cell_far (p := ⟨gb1380, _, none⟩) (BX.out.ne 3 1 rfl rfl (by decide)) _).trans (((cell_far (p := ⟨gb1380, _, none⟩) (BX.out.ne 3 1 rfl rfl (by decide)) _).trans (hHeld.2.1)))))))))))), ((cell_far (p := ⟨gb1380, _, none⟩) (BX.out.ne 2 1 rfl rfl (by decide)) _).trans (((cell_far (p := ⟨gb1380, _, none⟩) (BX.out.ne 2 1 rfl rfl (by decide)) _).trans (((cell_far (p := ⟨gb1380, _, none⟩) (BX.out.ne 2 1 rfl rfl (by decide)) _).trans (((cell_far (p := ⟨gb1380, _, none⟩) (BX.out.ne 2 1 rfl rfl (by decide)) _).trans (((cell_far (p := ⟨gb1380, _, none⟩) (BX.out.ne 2 1 rfl rfl (by decide)) _).trans (((cell_far (p := ⟨gb1380, _, none⟩) (BX.out.ne 2 1 rfl rfl (by decide)) _).trans (hHeld.2.2.1)))))))))))), ((cell_far (p := ⟨gb1380, _, none⟩) (BX.out.ne 2 1 rfl rfl (by decide)) _).trans (((cell_far (p := ⟨gb1380, _, none⟩) (BX.out.ne 2 1 rfl rfl (by decide)) _).trans (((cell_far (p := ⟨gb1380, _, none⟩) (BX.out.ne 2 1 rfl rfl (by decide)) _).trans (((cell_far (p := ⟨gb1380, _, none⟩) (BX.out.ne 2 1 rfl rfl (by decide)) _).trans (((cell_far (p := ⟨gb1380, _, none⟩) (BX.out.ne 2 1 rfl rfl (by decide)) _).trans (((cell_far (p := ⟨gb1380, _, none⟩) (BX.out.ne 2 1 rfl rfl (by decide)) _).trans (hHeld.2.2.2))))))))))))⟩ (fun hHeld => ?_)
  clear hK K
  refine one_ (i := 7) (N := none) #[true, true, true, true, true, true, true, true] rfl rfl (one_of HT_.out (by kernel_rfl)) (by decide) (fun K hK => ?_)
  have hs28 : w21.cell? ⟨gb1381, 0, none⟩ = some (.int .i64 0) := (blk_cell (BX.out.get 0 rfl) 0).trans rfl
  have hfs28 := blk_frozen (BX.out.get 0 rfl) 0
  have hns28_0 := (BX.out.ne 3 0 rfl rfl (by decide))
  have hns28_1 := (BX.out.ne 2 0 rfl rfl (by decide))
  have hns28_2 := (BX.out.ne 1 0 rfl rfl (by decide))
  have hms28_0 := (BX.out.ne 0 3 rfl rfl (by decide))
  have hms28_1 := (BX.out.ne 0 2 rfl rfl (by decide))
  have hms28_2 := (BX.out.ne 0 1 rfl rfl (by decide))
  have hs29 : w21.cell? ⟨gb1381, 1, none⟩ = some (.int .i64 0) := (blk_cell (BX.out.get 0 rfl) 1).trans rfl
  have hfs29 := blk_frozen (BX.out.get 0 rfl) 1
  have hns29_0 := (BX.out.ne 3 0 rfl rfl (by decide))
  have hns29_1 := (BX.out.ne 2 0 rfl rfl (by decide))
  have hns29_2 := (BX.out.ne 1 0 rfl rfl (by decide))
  have hms29_0 := (BX.out.ne 0 3 rfl rfl (by decide))
  have hms29_1 := (BX.out.ne 0 2 rfl rfl (by decide))
  have hms29_2 := (BX.out.ne 0 1 rfl rfl (by decide))
  have hs30 : w21.cell? ⟨gb1381, 2, none⟩ = some (.int .i64 0) := (blk_cell (BX.out.get 0 rfl) 2).trans rfl
  have hfs30 := blk_frozen (BX.out.get 0 rfl) 2
  have hns30_0 := (BX.out.ne 3 0 rfl rfl (by decide))
  have hns30_1 := (BX.out.ne 2 0 rfl rfl (by decide))
  have hns30_2 := (BX.out.ne 1 0 rfl rfl (by decide))
  have hms30_0 := (BX.out.ne 0 3 rfl rfl (by decide))
  have hms30_1 := (BX.out.ne 0 2 rfl rfl (by decide))
  have hms30_2 := (BX.out.ne 0 1 rfl rfl (by decide))
  have hs31 : w21.cell? ⟨gb1381, 3, none⟩ = some (.string (⟨#[]⟩ : ByteArray)) := (blk_cell (BX.out.get 0 rfl) 3).trans rfl
  have hfs31 := blk_frozen (BX.out.get 0 rfl) 3
  have hns31_0 := (BX.out.ne 3 0 rfl rfl (by decide))
  have hns31_1 := (BX.out.ne 2 0 rfl rfl (by decide))
  have hns31_2 := (BX.out.ne 1 0 rfl rfl (by decide))
  have hms31_0 := (BX.out.ne 0 3 rfl rfl (by decide))
  have hms31_1 := (BX.out.ne 0 2 rfl rfl (by decide))
  have hms31_2 := (BX.out.ne 0 1 rfl rfl (by decide))
  have hs32 : w21.cell? ⟨gb1381, 4, none⟩ = some (.bool false) := (blk_cell (BX.out.get 0 rfl) 4).trans rfl
  have hfs32 := blk_frozen (BX.out.get 0 rfl) 4
  have hns32_0 := (BX.out.ne 3 0 rfl rfl (by decide))
  have hns32_1 := (BX.out.ne 2 0 rfl rfl (by decide))
  have hns32_2 := (BX.out.ne 1 0 rfl rfl (by decide))
  have hms32_0 := (BX.out.ne 0 3 rfl rfl (by decide))
  have hms32_1 := (BX.out.ne 0 2 rfl rfl (by decide))
  have hms32_2 := (BX.out.ne 0 1 rfl rfl (by decide))
  have hs33 : w21.cell? ⟨gb1381, 5, none⟩ = some (.int .i64 0) := (blk_cell (BX.out.get 0 rfl) 5).trans rfl
  have hfs33 := blk_frozen (BX.out.get 0 rfl) 5
  have hns33_0 := (BX.out.ne 3 0 rfl rfl (by decide))
  have hns33_1 := (BX.out.ne 2 0 rfl rfl (by decide))
  have hns33_2 := (BX.out.ne 1 0 rfl rfl (by decide))
  have hms33_0 := (BX.out.ne 0 3 rfl rfl (by decide))
  have hms33_1 := (BX.out.ne 0 2 rfl rfl (by decide))
  have hms33_2 := (BX.out.ne 0 1 rfl rfl (by decide))
  refine skip_ (w1 := ?_) (by rfl) rfl ?_ ?_
  rotate_left
  ·go_simp
   rfl
  refine hK.out _ _ ⟨((cell_far (p := ⟨gb1381, _, none⟩) (BX.out.ne 3 0 rfl rfl (by decide)) _).trans (((cell_far (p := ⟨gb1381, _, none⟩) (BX.out.ne 3 0 rfl rfl (by decide)) _).trans (((cell_far (p := ⟨gb1381, _, none⟩) (BX.out.ne 3 0 rfl rfl (by decide)) _).trans (((cell_far (p := ⟨gb1381, _, none⟩) (BX.out.ne 3 0 rfl rfl (by decide)) _).trans (((cell_far (p := ⟨gb1381, _, none⟩) (BX.out.ne 3 0 rfl rfl (by decide)) _).trans (((cell_far (p := ⟨gb1381, _, none⟩) (BX.out.ne 3 0 rfl rfl (by decide)) _).trans (hHeld.1)))))))))))), ((cell_far (p := ⟨gb1381, _, none⟩) (BX.out.ne 3 0 rfl rfl (by decide)) _).trans (((cell_far (p := ⟨gb1381, _, none⟩) (BX.out.ne 3 0 rfl rfl (by decide)) _).trans (((cell_far (p := ⟨gb1381, _, none⟩) (BX.out.ne 3 0 rfl rfl (by decide)) _).trans (((cell_far (p := ⟨gb1381, _, none⟩) (BX.out.ne 3 0 rfl rfl (by decide)) _).trans (((cell_far (p := ⟨gb1381, _, none⟩) (BX.out.ne 3 0 rfl rfl (by decide)) _).trans (((cell_far (p := ⟨gb1381, _, none⟩) (BX.out.ne 3 0 rfl rfl (by decide)) _).trans (hHeld.2.1)))))))))))), ((cell_far (p := ⟨gb1381, _, none⟩) (BX.out.ne 2 0 rfl rfl (by decide)) _).trans (((cell_far (p := ⟨gb1381, _, none⟩) (BX.out.ne 2 0 rfl rfl (by decide)) _).trans (((cell_far (p := ⟨gb1381, _, none⟩) (BX.out.ne 2 0 rfl rfl (by decide)) _).trans (((cell_far (p := ⟨gb1381, _, none⟩) (BX.out.ne 2 0 rfl rfl (by decide)) _).trans (((cell_far (p := ⟨gb1381, _, none⟩) (BX.out.ne 2 0 rfl rfl (by decide)) _).trans (((cell_far (p := ⟨gb1381, _, none⟩) (BX.out.ne 2 0 rfl rfl (by decide)) _).trans (hHeld.2.2.1)))))))))))), ((cell_far (p := ⟨gb1381, _, none⟩) (BX.out.ne 2 0 rfl rfl (by decide)) _).trans (((cell_far (p := ⟨gb1381, _, none⟩) (BX.out.ne 2 0 rfl rfl (by decide)) _).trans (((cell_far (p := ⟨gb1381, _, none⟩) (BX.out.ne 2 0 rfl rfl (by decide)) _).trans (((cell_far (p := ⟨gb1381, _, none⟩) (BX.out.ne 2 0 rfl rfl (by decide)) _).trans (((cell_far (p := ⟨gb1381, _, none⟩) (BX.out.ne 2 0 rfl rfl (by decide)) _).trans (((cell_far (p := ⟨gb1381, _, none⟩) (BX.out.ne 2 0 rfl rfl (by decide)) _).trans (hHeld.2.2.2))))))))))))⟩ (fun hHeld => ?_)
  clear hK K
  refine done_ (done_of HT_.out (by kernel_rfl)) ?_
  have hnb34 := (BX.out.ne 3 2 rfl rfl (by decide))
  have hnc34 := (BX.out.ne 2 3 rfl rfl (by decide))
  have hnb35 := (BX.out.ne 3 1 rfl rfl (by decide))
  have hnc35 := (BX.out.ne 1 3 rfl rfl (by decide))
  have hnb36 := (BX.out.ne 3 0 rfl rfl (by decide))
  have hnc36 := (BX.out.ne 0 3 rfl rfl (by decide))
  have hcz37_0 : w21.cell? ⟨gb1365, 0, none⟩ = some (.int .i64 a0_0) := (blk_cell (BX.out.get 3 rfl) 0).trans rfl
  have hcz37_1 : w21.cell? ⟨gb1365, 1, none⟩ = some (.int .i64 a0_1) := (blk_cell (BX.out.get 3 rfl) 1).trans rfl
  have hfz37_0 := blk_frozen (BX.out.get 3 rfl) 0
  have hfz37_1 := blk_frozen (BX.out.get 3 rfl) 1
  have hnb38 := (BX.out.ne 2 1 rfl rfl (by decide))
  have hnc38 := (BX.out.ne 1 2 rfl rfl (by decide))
  have hnb39 := (BX.out.ne 2 0 rfl rfl (by decide))
  have hnc39 := (BX.out.ne 0 2 rfl rfl (by decide))
  have hcz40_0 : w21.cell? ⟨gb1366, 0, none⟩ = some (.int .i64 a1_0) := (blk_cell (BX.out.get 2 rfl) 0).trans rfl
  have hcz40_1 : w21.cell? ⟨gb1366, 1, none⟩ = some (.int .i64 a1_1) := (blk_cell (BX.out.get 2 rfl) 1).trans rfl
  have hfz40_0 := blk_frozen (BX.out.get 2 rfl) 0
  have hfz40_1 := blk_frozen (BX.out.get 2 rfl) 1
  try go_wp2_with (first | ((with_reducible refine gate_callee (f := 45) rfl ?_); refine goesL_ (some 28) rfl rfl Tryd.func45 (by kernel_rfl) rfl #[.agg #[.int .i64 a0_0, .int .i64 a0_1], .agg #[.int .i64 a1_0, .int .i64 a1_1]] rfl (by (try simp only [List.map_toArray, List.map_cons, List.map_nil]); first | done | rfl | (simp only [List.length_drop, List.length_take]; rfl)) ?_; (with_reducible refine (num_Add.calls k a0_0 a0_1 a1_0 a1_1 t1382 t1383 t1384 _ A7.out).mono ?_); rintro e w41 ⟨rfl, hb⟩; refine ⟨_, rfl, ?_⟩; have n0_ : Aside0 (Boxes w.heap.size _ ((gb1381, 25, #[.int .i64 t1374, .int .i64 t1375, .int .i64 t1376, .string t1377, .bool t1378, .int .i64 t1379]) :: (gb1380, 25, #[.int .i64 t1368, .int .i64 t1369, .int .i64 t1370, .string t1371, .bool t1372, .int .i64 t1373]) :: _)) := ⟨Boxes.below (by (with_reducible repeat (first | apply boxes_drewN | apply boxes_drew | apply boxes_alloc)); apply boxes_put 0; (with_reducible repeat (first | apply boxes_drewN | apply boxes_drew | apply boxes_alloc)); apply boxes_put 0; (with_reducible repeat (first | apply boxes_drewN | apply boxes_drew | apply boxes_alloc)); apply boxes_put 0; (with_reducible repeat (first | apply boxes_drewN | apply boxes_drew | apply boxes_alloc)); apply boxes_put 0; (with_reducible repeat (first | apply boxes_drewN | apply boxes_drew | apply boxes_alloc)); apply boxes_put 0; (with_reducible repeat (first | apply boxes_drewN | apply boxes_drew | apply boxes_alloc)); apply boxes_put 0; (with_reducible repeat (first | apply boxes_drewN | apply boxes_drew | apply boxes_alloc)); apply boxes_put 1; (with_reducible repeat (first | apply boxes_drewN | apply boxes_drew | apply boxes_alloc)); apply boxes_put 1; (with_reducible repeat (first | apply boxes_drewN | apply boxes_drew | apply boxes_alloc)); apply boxes_put 1; (with_reducible repeat (first | apply boxes_drewN | apply boxes_drew | apply boxes_alloc)); apply boxes_put 1; (with_reducible repeat (first | apply boxes_drewN | apply boxes_drew | apply boxes_alloc)); apply boxes_put 1; (with_reducible repeat (first | apply boxes_drewN | apply boxes_drew | apply boxes_alloc)); apply boxes_put 1; (with_reducible repeat (first | apply boxes_drewN | apply boxes_drew | apply boxes_alloc)); exact BX.out; (any_goals rfl)) hb⟩; have n1_ := Aside0.mk (below_step (by repeat (first | (with_reducible first | exact HB.out | apply below_alloc | apply pw_below_drewN | apply below_drew1 | refine below_set ?_ (Aside0.out (by assumption))) | exact HB.out)) hb); clear BX HB; have BX := n0_; have HB := n1_; clear n0_ n1_; (try clear hb); (try clear hb2); (try clear hk); (try clear hi)) | ((with_reducible refine gate_dst (N := 7) rfl ?_); refine box_event ?hg (N := 7) ?hd (cs := #[.int .i64 0, .int .i64 0]) (t := 23) ?hr ?_; (case hd => rfl); (case hg => rfl); (case hr => first | (go_simp; done) | (go_simp; rfl)); intro gb1385 hg w42 hbox hb; have n0_ := Aside0.mk (Boxes.new (by (with_reducible repeat (first | apply boxes_drewN | apply boxes_drew | apply boxes_alloc)); exact BX.out) hg hbox hb (below_size (by repeat (first | (with_reducible first | exact HB.out | apply below_alloc | apply pw_below_drewN | apply below_drew1 | refine below_set ?_ (Aside0.out (by assumption))) | exact HB.out)))); have n1_ := Aside0.mk (below_step (by repeat (first | (with_reducible first | exact HB.out | apply below_alloc | apply pw_below_drewN | apply below_drew1 | refine below_set ?_ (Aside0.out (by assumption))) | exact HB.out)) hb); have n2_ := Aside0.mk ((by rw [hg]; exact (below_size (by repeat (first | (with_reducible first | exact HB.out | apply below_alloc | apply pw_below_drewN | apply below_drew1 | refine below_set ?_ (Aside0.out (by assumption))) | exact HB.out))) : w.heap.size ≤ gb1385)); clear BX HB; have BX := n0_; have HB := n1_; have GE1385 := n2_; clear n0_ n1_ n2_; clear hb hbox hg; have hnb43 := (BX.out.ne 0 4 rfl rfl (by decide)); have hnc43 := (BX.out.ne 4 0 rfl rfl (by decide)); have hnb44 := (BX.out.ne 0 3 rfl rfl (by decide)); have hnc44 := (BX.out.ne 3 0 rfl rfl (by decide)); have hnb45 := (BX.out.ne 0 2 rfl rfl (by decide)); have hnc45 := (BX.out.ne 2 0 rfl rfl (by decide)); have hnb46 := (BX.out.ne 0 1 rfl rfl (by decide)); have hnc46 := (BX.out.ne 1 0 rfl rfl (by decide)); have hcz47_0 : w42.cell? ⟨gb1385, 0, none⟩ = some (.int .i64 0) := (blk_cell (BX.out.get 0 rfl) 0).trans rfl; have hcz47_1 : w42.cell? ⟨gb1385, 1, none⟩ = some (.int .i64 0) := (blk_cell (BX.out.get 0 rfl) 1).trans rfl; have hfz47_0 := blk_frozen (BX.out.get 0 rfl) 0; have hfz47_1 := blk_frozen (BX.out.get 0 rfl) 1; have hcz48_0 : w42.cell? ⟨gb1365, 0, none⟩ = some (.int .i64 a0_0) := (blk_cell (BX.out.get 4 rfl) 0).trans rfl; have hcz48_1 : w42.cell? ⟨gb1365, 1, none⟩ = some (.int .i64 a0_1) := (blk_cell (BX.out.get 4 rfl) 1).trans rfl; have hfz48_0 := blk_frozen (BX.out.get 4 rfl) 0; have hfz48_1 := blk_frozen (BX.out.get 4 rfl) 1; have hcz49_0 : w42.cell? ⟨gb1366, 0, none⟩ = some (.int .i64 a1_0) := (blk_cell (BX.out.get 3 rfl) 0).trans rfl; have hcz49_1 : w42.cell? ⟨gb1366, 1, none⟩ = some (.int .i64 a1_1) := (blk_cell (BX.out.get 3 rfl) 1).trans rfl; have hfz49_0 := blk_frozen (BX.out.get 3 rfl) 0; have hfz49_1 := blk_frozen (BX.out.get 3 rfl) 1) | ((with_reducible refine gate_callee (f := 46) rfl ?_); refine goesL_ (some 34) rfl rfl Tryd.func46 (by kernel_rfl) rfl #[.agg #[.int .i64 a0_0, .int .i64 a0_1], .agg #[.int .i64 a1_0, .int .i64 a1_1]] rfl (by (try simp only [List.map_toArray, List.map_cons, List.map_nil]); first | done | rfl | (simp only [List.length_drop, List.length_take]; rfl)) ?_; (with_reducible refine (num_Sub.calls k a0_0 a0_1 a1_0 a1_1 t1386 t1387 t1388 _ A8.out).mono ?_); rintro e w50 ⟨rfl, hb⟩; refine ⟨_, rfl, ?_⟩; have n0_ : Aside0 (Boxes w.heap.size _ ((gb1385, 23, #[.int .i64 t1382, .int .i64 t1383]) :: _)) := ⟨Boxes.below (by (with_reducible repeat (first | apply boxes_drewN | apply boxes_drew | apply boxes_alloc)); apply boxes_put 0; (with_reducible repeat (first | apply boxes_drewN | apply boxes_drew | apply boxes_alloc)); apply boxes_put 0; (with_reducible repeat (first | apply boxes_drewN | apply boxes_drew | apply boxes_alloc)); exact BX.out; (any_goals rfl)) hb⟩; have n1_ := Aside0.mk (below_step (by repeat (first | (with_reducible first | exact HB.out | apply below_alloc | apply pw_below_drewN | apply below_drew1 | refine below_set ?_ (Aside0.out (by assumption))) | exact HB.out)) hb); clear BX HB; have BX := n0_; have HB := n1_; clear n0_ n1_; (try clear hb); (try clear hb2); (try clear hk); (try clear hi)) | ((with_reducible refine gate_dst (N := 9) rfl ?_); refine box_event ?hg (N := 9) ?hd (cs := #[.int .i64 0, .int .i64 0]) (t := 23) ?hr ?_; (case hd => rfl); (case hg => rfl); (case hr => first | (go_simp; done) | (go_simp; rfl)); intro gb1389 hg w51 hbox hb; have n0_ := Aside0.mk (Boxes.new (by (with_reducible repeat (first | apply boxes_drewN | apply boxes_drew | apply boxes_alloc)); exact BX.out) hg hbox hb (below_size (by repeat (first | (with_reducible first | exact HB.out | apply below_alloc | apply pw_below_drewN | apply below_drew1 | refine below_set ?_ (Aside0.out (by assumption))) | exact HB.out)))); have n1_ := Aside0.mk (below_step (by repeat (first | (with_reducible first | exact HB.out | apply below_alloc | apply pw_below_drewN | apply below_drew1 | refine below_set ?_ (Aside0.out (by assumption))) | exact HB.out)) hb); have n2_ := Aside0.mk ((by rw [hg]; exact (below_size (by repeat (first | (with_reducible first | exact HB.out | apply below_alloc | apply pw_below_drewN | apply below_drew1 | refine below_set ?_ (Aside0.out (by assumption))) | exact HB.out))) : w.heap.size ≤ gb1389)); clear BX HB; have BX := n0_; have HB := n1_; have GE1389 := n2_; clear n0_ n1_ n2_; clear hb hbox hg; have hnb52 := (BX.out.ne 0 5 rfl rfl (by decide)); have hnc52 := (BX.out.ne 5 0 rfl rfl (by decide)); have hnb53 := (BX.out.ne 0 4 rfl rfl (by decide)); have hnc53 := (BX.out.ne 4 0 rfl rfl (by decide)); have hnb54 := (BX.out.ne 0 3 rfl rfl (by decide)); have hnc54 := (BX.out.ne 3 0 rfl rfl (by decide)); have hnb55 := (BX.out.ne 0 2 rfl rfl (by decide)); have hnc55 := (BX.out.ne 2 0 rfl rfl (by decide)); have hnb56 := (BX.out.ne 0 1 rfl rfl (by decide)); have hnc56 := (BX.out.ne 1 0 rfl rfl (by decide)); have hcz57_0 : w51.cell? ⟨gb1389, 0, none⟩ = some (.int .i64 0) := (blk_cell (BX.out.get 0 rfl) 0).trans rfl; have hcz57_1 : w51.cell? ⟨gb1389, 1, none⟩ = some (.int .i64 0) := (blk_cell (BX.out.get 0 rfl) 1).trans rfl; have hfz57_0 := blk_frozen (BX.out.get 0 rfl) 0; have hfz57_1 := blk_frozen (BX.out.get 0 rfl) 1; have hcz58_0 : w51.cell? ⟨gb1365, 0, none⟩ = some (.int .i64 a0_0) := (blk_cell (BX.out.get 5 rfl) 0).trans rfl; have hcz58_1 : w51.cell? ⟨gb1365, 1, none⟩ = some (.int .i64 a0_1) := (blk_cell (BX.out.get 5 rfl) 1).trans rfl; have hfz58_0 := blk_frozen (BX.out.get 5 rfl) 0; have hfz58_1 := blk_frozen (BX.out.get 5 rfl) 1; have hcz59_0 : w51.cell? ⟨gb1366, 0, none⟩ = some (.int .i64 a1_0) := (blk_cell (BX.out.get 4 rfl) 0).trans rfl; have hcz59_1 : w51.cell? ⟨gb1366, 1, none⟩ = some (.int .i64 a1_1) := (blk_cell (BX.out.get 4 rfl) 1).trans rfl; have hfz59_0 := blk_frozen (BX.out.get 4 rfl) 0; have hfz59_1 := blk_frozen (BX.out.get 4 rfl) 1) | ((with_reducible refine gate_callee (f := 47) rfl ?_); refine goesL_ (some 40) rfl rfl Tryd.func47 (by kernel_rfl) rfl #[.agg #[.int .i64 a0_0, .int .i64 a0_1], .agg #[.int .i64 a1_0, .int .i64 a1_1]] rfl (by (try simp only [List.map_toArray, List.map_cons, List.map_nil]); first | done | rfl | (simp only [List.length_drop, List.length_take]; rfl)) ?_; (with_reducible refine (num_Mul.calls k a0_0 a0_1 a1_0 a1_1 t1390 t1391 t1392 _ A9.out).mono ?_); rintro e w60 ⟨rfl, hb⟩; refine ⟨_, rfl, ?_⟩; have n0_ : Aside0 (Boxes w.heap.size _ ((gb1389, 23, #[.int .i64 t1386, .int .i64 t1387]) :: _)) := ⟨Boxes.below (by (with_reducible repeat (first | apply boxes_drewN | apply boxes_drew | apply boxes_alloc)); apply boxes_put 0; (with_reducible repeat (first | apply boxes_drewN | apply boxes_drew | apply boxes_alloc)); apply boxes_put 0; (with_reducible repeat (first | apply boxes_drewN | apply boxes_drew | apply boxes_alloc)); exact BX.out; (any_goals rfl)) hb⟩; have n1_ := Aside0.mk (below_step (by repeat (first | (with_reducible first | exact HB.out | apply below_alloc | apply pw_below_drewN | apply below_drew1 | refine below_set ?_ (Aside0.out (by assumption))) | exact HB.out)) hb); clear BX HB; have BX := n0_; have HB := n1_; clear n0_ n1_; (try clear hb); (try clear hb2); (try clear hk); (try clear hi)) | ((with_reducible refine gate_dst (N := 11) rfl ?_); refine box_event ?hg (N := 11) ?hd (cs := #[.int .i64 0, .int .i64 0]) (t := 23) ?hr ?_; (case hd => rfl); (case hg => rfl); (case hr => first | (go_simp; done) | (go_simp; rfl)); intro gb1393 hg w61 hbox hb; have n0_ := Aside0.mk (Boxes.new (by (with_reducible repeat (first | apply boxes_drewN | apply boxes_drew | apply boxes_alloc)); exact BX.out) hg hbox hb (below_size (by repeat (first | (with_reducible first | exact HB.out | apply below_alloc | apply pw_below_drewN | apply below_drew1 | refine below_set ?_ (Aside0.out (by assumption))) | exact HB.out)))); have n1_ := Aside0.mk (below_step (by repeat (first | (with_reducible first | exact HB.out | apply below_alloc | apply pw_below_drewN | apply below_drew1 | refine below_set ?_ (Aside0.out (by assumption))) | exact HB.out)) hb); have n2_ := Aside0.mk ((by rw [hg]; exact (below_size (by repeat (first | (with_reducible first | exact HB.out | apply below_alloc | apply pw_below_drewN | apply below_drew1 | refine below_set ?_ (Aside0.out (by assumption))) | exact HB.out))) : w.heap.size ≤ gb1393)); clear BX HB; have BX := n0_; have HB := n1_; have GE1393 := n2_; clear n0_ n1_ n2_; clear hb hbox hg; have hnb62 := (BX.out.ne 0 6 rfl rfl (by decide)); have hnc62 := (BX.out.ne 6 0 rfl rfl (by decide)); have hnb63 := (BX.out.ne 0 5 rfl rfl (by decide)); have hnc63 := (BX.out.ne 5 0 rfl rfl (by decide)); have hnb64 := (BX.out.ne 0 4 rfl rfl (by decide)); have hnc64 := (BX.out.ne 4 0 rfl rfl (by decide)); have hnb65 := (BX.out.ne 0 3 rfl rfl (by decide)); have hnc65 := (BX.out.ne 3 0 rfl rfl (by decide)); have hnb66 := (BX.out.ne 0 2 rfl rfl (by decide)); have hnc66 := (BX.out.ne 2 0 rfl rfl (by decide)); have hnb67 := (BX.out.ne 0 1 rfl rfl (by decide)); have hnc67 := (BX.out.ne 1 0 rfl rfl (by decide)); have hcz68_0 : w61.cell? ⟨gb1393, 0, none⟩ = some (.int .i64 0) := (blk_cell (BX.out.get 0 rfl) 0).trans rfl; have hcz68_1 : w61.cell? ⟨gb1393, 1, none⟩ = some (.int .i64 0) := (blk_cell (BX.out.get 0 rfl) 1).trans rfl; have hfz68_0 := blk_frozen (BX.out.get 0 rfl) 0; have hfz68_1 := blk_frozen (BX.out.get 0 rfl) 1))
  have n0_ : Aside0 (Boxes w.heap.size ((w61.setCell ⟨gb1393, 0, none⟩ (.int .i64 t1390)).setCell ⟨gb1393, 1, none⟩ (.int .i64 t1391)) ((gb1393, 23, #[.int .i64 t1390, .int .i64 t1391]) :: _)) := ⟨by (with_reducible repeat (first | apply boxes_drewN | apply boxes_drew | apply boxes_alloc)); apply boxes_put 0; (with_reducible repeat (first | apply boxes_drewN | apply boxes_drew | apply boxes_alloc)); apply boxes_put 0; (with_reducible repeat (first | apply boxes_drewN | apply boxes_drew | apply boxes_alloc)); exact BX.out; (any_goals rfl)⟩
  have n1_ : Aside0 (Below w.heap.size w ((w61.setCell ⟨gb1393, 0, none⟩ (.int .i64 t1390)).setCell ⟨gb1393, 1, none⟩ (.int .i64 t1391))) := ⟨by repeat (first | (with_reducible first | exact HB.out | apply below_alloc | apply pw_below_drewN | apply below_drew1 | refine below_set ?_ (Aside0.out (by assumption))) | exact HB.out)⟩
  (try clear BX)
  (try clear HB)
  generalize ((w61.setCell ⟨gb1393, 0, none⟩ (.int .i64 t1390)).setCell ⟨gb1393, 1, none⟩ (.int .i64 t1391)) = w69 at n0_ n1_ ⊢
  have BX := n0_
  have HB := n1_
  clear n0_ n1_
  have n0_ := Aside0.mk (boxes_drew BX.out)
  have n1_ := Aside0.mk (below_drew1 HB.out)
  clear BX HB
  have BX := n0_
  have HB := n1_
  clear n0_ n1_
  refine start_ (n := 11) (S := fun w' => w'.cell? ⟨gb1380, 0, none⟩ = some (.int .i64 t1368) ∧ w'.cell? ⟨gb1380, 1, none⟩ = some (.int .i64 t1369) ∧ w'.cell? ⟨gb1380, 2, none⟩ = some (.int .i64 t1370) ∧ w'.cell? ⟨gb1380, 3, none⟩ = some (.string t1371) ∧ w'.cell? ⟨gb1380, 4, none⟩ = some (.bool t1372) ∧ w'.cell? ⟨gb1380, 5, none⟩ = some (.int .i64 t1373) ∧ w'.cell? ⟨gb1381, 0, none⟩ = some (.int .i64 t1374) ∧ w'.cell? ⟨gb1381, 1, none⟩ = some (.int .i64 t1375) ∧ w'.cell? ⟨gb1381, 2, none⟩ = some (.int .i64 t1376) ∧ w'.cell? ⟨gb1381, 3, none⟩ = some (.string t1377) ∧ w'.cell? ⟨gb1381, 4, none⟩ = some (.bool t1378) ∧ w'.cell? ⟨gb1381, 5, none⟩ = some (.int .i64 t1379)) (ds := []) #[false, false, false, false, false, false, false, false, false, false, false] (by kernel_rfl) rfl rfl ⟨(blk_cell (BX.out.get 4 rfl) 0).trans rfl, (blk_cell (BX.out.get 4 rfl) 1).trans rfl, (blk_cell (BX.out.get 4 rfl) 2).trans rfl, (blk_cell (BX.out.get 4 rfl) 3).trans rfl, (blk_cell (BX.out.get 4 rfl) 4).trans rfl, (blk_cell (BX.out.get 4 rfl) 5).trans rfl, (blk_cell (BX.out.get 3 rfl) 0).trans rfl, (blk_cell (BX.out.get 3 rfl) 1).trans rfl, (blk_cell (BX.out.get 3 rfl) 2).trans rfl, (blk_cell (BX.out.get 3 rfl) 3).trans rfl, (blk_cell (BX.out.get 3 rfl) 4).trans rfl, (blk_cell (BX.out.get 3 rfl) 5).trans rfl⟩ (fun hHeld => ?_); refine with_tabW whittlelaw2_ValueNumbers.tab7 whittlelaw2_ValueNumbers.bits7 (fun HT_ HW_ => ?_)
  generalize w69.drew = w70 at BX HB hHeld ⊢
  refine take_ (i := 0) (N := some 43) (v := ?_) (a' := ?_) #[true, false, false, false, false, false, false, false, false, false, false] rfl rfl (take_ofW HT_.out HW_.out (by kernel_rfl)) (fun _ _ _ h => h) (Or.inl ⟨by rfl, ?_⟩) hHeld ?_ ?_
  rotate_left
  ·rintro w' ⟨s0, s1, s2, s3, s4, s5, s6, s7, s8, s9, s10, s11⟩
   go_simp
   with_reducible rfl
  rotate_left
  ·simp only [Act.put, List.setIfInBounds_toArray, List.set_cons_zero, List.set_cons_succ, i64_w, i32_w]
   rfl
  refine take_ (i := 1) (N := some 44) (v := ?_) (a' := ?_) #[true, true, false, false, false, false, false, false, false, false, false] rfl rfl (take_ofW HT_.out HW_.out (by kernel_rfl)) (fun _ _ _ h => h) (Or.inl ⟨by rfl, ?_⟩) hHeld ?_ ?_
  rotate_left
  ·rintro w' ⟨s0, s1, s2, s3, s4, s5, s6, s7, s8, s9, s10, s11⟩
   go_simp
   with_reducible rfl
  rotate_left
  ·simp only [Act.put, List.setIfInBounds_toArray, List.set_cons_zero, List.set_cons_succ, i64_w, i32_w]
   rfl
  refine take_ (i := 3) (N := some 46) (v := ?_) (a' := ?_) #[true, true, false, true, false, false, false, false, false, false, false] rfl rfl (take_ofW HT_.out HW_.out (by kernel_rfl)) (fun _ _ _ h => h) (Or.inl ⟨by rfl, ?_⟩) hHeld ?_ ?_
  rotate_left
  ·rintro w' ⟨s0, s1, s2, s3, s4, s5, s6, s7, s8, s9, s10, s11⟩
   go_simp
   with_reducible rfl
  rotate_left
  ·simp only [Act.put, List.setIfInBounds_toArray, List.set_cons_zero, List.set_cons_succ, i64_w, i32_w]
   rfl
  refine take_ (i := 4) (N := some 47) (v := ?_) (a' := ?_) #[true, true, false, true, true, false, false, false, false, false, false] rfl rfl (take_ofW HT_.out HW_.out (by kernel_rfl)) (fun _ _ _ h => h) (Or.inl ⟨by rfl, ?_⟩) hHeld ?_ ?_
  rotate_left
  ·rintro w' ⟨s0, s1, s2, s3, s4, s5, s6, s7, s8, s9, s10, s11⟩
   go_simp
   with_reducible rfl
  rotate_left
  ·simp only [Act.put, List.setIfInBounds_toArray, List.set_cons_zero, List.set_cons_succ, i64_w, i32_w]
   rfl
  refine take_ (i := 6) (N := some 49) (v := ?_) (a' := ?_) #[true, true, false, true, true, false, true, false, false, false, false] rfl rfl (take_ofW HT_.out HW_.out (by kernel_rfl)) (fun _ _ _ h => h) (Or.inl ⟨by rfl, ?_⟩) hHeld ?_ ?_
  rotate_left
  ·rintro w' ⟨s0, s1, s2, s3, s4, s5, s6, s7, s8, s9, s10, s11⟩
   go_simp
   with_reducible rfl
  rotate_left
  ·simp only [Act.put, List.setIfInBounds_toArray, List.set_cons_zero, List.set_cons_succ, i64_w, i32_w]
   rfl
  refine take_ (i := 7) (N := some 50) (v := ?_) (a' := ?_) #[true, true, false, true, true, false, true, true, false, false, false] rfl rfl (take_ofW HT_.out HW_.out (by kernel_rfl)) (fun _ _ _ h => h) (Or.inl ⟨by rfl, ?_⟩) hHeld ?_ ?_
  rotate_left
  ·rintro w' ⟨s0, s1, s2, s3, s4, s5, s6, s7, s8, s9, s10, s11⟩
   go_simp
   with_reducible rfl
  rotate_left
  ·simp only [Act.put, List.setIfInBounds_toArray, List.set_cons_zero, List.set_cons_succ, i64_w, i32_w]
   rfl
  refine one_ (i := 2) (N := some 45) #[true, true, true, true, true, false, true, true, false, false, false] rfl rfl (one_of HT_.out (by kernel_rfl)) (by decide) (fun K hK => ?_)
  refine goes_ Tryd.func31 (by kernel_rfl) rfl #[.int .i64 11, .agg #[.int .i64 t1368, .int .i64 t1369, .int .i64 t1370, .string t1371, .bool t1372, .int .i64 t1373], .agg #[.int .i64 t1374, .int .i64 t1375, .int .i64 t1376, .string t1377, .bool t1378, .int .i64 t1379]] (by rfl) rfl rfl (by (try simp only [List.map_toArray, List.map_cons, List.map_nil]); first | done | rfl | (simp only [List.length_drop, List.length_take]; rfl)) ?_
  with_reducible refine (value_Bin.calls k 11 t1368 t1369 t1370 t1371 t1372 t1373 t1374 t1375 t1376 t1377 t1378 t1379 t1394 t1395 t1396 t1397 t1398 t1399 _ ?side1 A10.out).mono ?_
  (case side1 => exact HT.out.on (by repeat (first | (with_reducible first | exact HB.out | apply below_alloc | apply pw_below_drewN | apply below_drew1 | refine below_set ?_ (Aside0.out (by assumption))) | exact HB.out)))
  rintro e w71 ⟨rfl, hb⟩
  refine ⟨_, rfl, ?_⟩
  have n0_ := Aside0.mk (Boxes.below (by (with_reducible repeat (first | apply boxes_drewN | apply boxes_drew | apply boxes_alloc)); exact BX.out) hb)
  have n1_ := Aside0.mk (below_step (by repeat (first | (with_reducible first | exact HB.out | apply below_alloc | apply pw_below_drewN | apply below_drew1 | refine below_set ?_ (Aside0.out (by assumption))) | exact HB.out)) hb)
  clear BX HB
  have BX := n0_
  have HB := n1_
  clear n0_ n1_
  (try clear hb)
  (try clear hb2)
  (try clear hk)
  (try clear hi)
  refine hK.out _ _ ⟨(blk_cell (BX.out.get 4 rfl) 0).trans rfl, (blk_cell (BX.out.get 4 rfl) 1).trans rfl, (blk_cell (BX.out.get 4 rfl) 2).trans rfl, (blk_cell (BX.out.get 4 rfl) 3).trans rfl, (blk_cell (BX.out.get 4 rfl) 4).trans rfl, (blk_cell (BX.out.get 4 rfl) 5).trans rfl, (blk_cell (BX.out.get 3 rfl) 0).trans rfl, (blk_cell (BX.out.get 3 rfl) 1).trans rfl, (blk_cell (BX.out.get 3 rfl) 2).trans rfl, (blk_cell (BX.out.get 3 rfl) 3).trans rfl, (blk_cell (BX.out.get 3 rfl) 4).trans rfl, (blk_cell (BX.out.get 3 rfl) 5).trans rfl⟩ (fun hHeld => ?_)
  clear hK K
  refine norm_ (a' := ?_) ?_ ?_
  rotate_left
  ·show Act.put _ (some 45) _ = _
   simp only [Act.put, List.setIfInBounds_toArray, List.set_cons_zero, List.set_cons_succ, i64_w, i32_w]
   rfl
  refine one_ (i := 5) (N := some 48) #[true, true, true, true, true, true, true, true, false, false, false] rfl rfl (one_of HT_.out (by kernel_rfl)) (by decide) (fun K hK => ?_)
  refine goes_ Tryd.func31 (by kernel_rfl) rfl #[.int .i64 12, .agg #[.int .i64 t1368, .int .i64 t1369, .int .i64 t1370, .string t1371, .bool t1372, .int .i64 t1373], .agg #[.int .i64 t1374, .int .i64 t1375, .int .i64 t1376, .string t1377, .bool t1378, .int .i64 t1379]] (by rfl) rfl rfl (by (try simp only [List.map_toArray, List.map_cons, List.map_nil]); first | done | rfl | (simp only [List.length_drop, List.length_take]; rfl)) ?_
  with_reducible refine (value_Bin.calls k 12 t1368 t1369 t1370 t1371 t1372 t1373 t1374 t1375 t1376 t1377 t1378 t1379 t1400 t1401 t1402 t1403 t1404 t1405 _ ?side1 A11.out).mono ?_
  (case side1 => exact HT.out.on (by repeat (first | (with_reducible first | exact HB.out | apply below_alloc | apply pw_below_drewN | apply below_drew1 | refine below_set ?_ (Aside0.out (by assumption))) | exact HB.out)))
  rintro e w72 ⟨rfl, hb⟩
  refine ⟨_, rfl, ?_⟩
  have n0_ := Aside0.mk (Boxes.below (by (with_reducible repeat (first | apply boxes_drewN | apply boxes_drew | apply boxes_alloc)); exact BX.out) hb)
  have n1_ := Aside0.mk (below_step (by repeat (first | (with_reducible first | exact HB.out | apply below_alloc | apply pw_below_drewN | apply below_drew1 | refine below_set ?_ (Aside0.out (by assumption))) | exact HB.out)) hb)
  clear BX HB
  have BX := n0_
  have HB := n1_
  clear n0_ n1_
  (try clear hb)
  (try clear hb2)
  (try clear hk)
  (try clear hi)
  refine hK.out _ _ ⟨(blk_cell (BX.out.get 4 rfl) 0).trans rfl, (blk_cell (BX.out.get 4 rfl) 1).trans rfl, (blk_cell (BX.out.get 4 rfl) 2).trans rfl, (blk_cell (BX.out.get 4 rfl) 3).trans rfl, (blk_cell (BX.out.get 4 rfl) 4).trans rfl, (blk_cell (BX.out.get 4 rfl) 5).trans rfl, (blk_cell (BX.out.get 3 rfl) 0).trans rfl, (blk_cell (BX.out.get 3 rfl) 1).trans rfl, (blk_cell (BX.out.get 3 rfl) 2).trans rfl, (blk_cell (BX.out.get 3 rfl) 3).trans rfl, (blk_cell (BX.out.get 3 rfl) 4).trans rfl, (blk_cell (BX.out.get 3 rfl) 5).trans rfl⟩ (fun hHeld => ?_)
  clear hK K
  refine norm_ (a' := ?_) ?_ ?_
  rotate_left
  ·show Act.put _ (some 48) _ = _
   simp only [Act.put, List.setIfInBounds_toArray, List.set_cons_zero, List.set_cons_succ, i64_w, i32_w]
   rfl
  refine one_ (i := 8) (N := some 51) #[true, true, true, true, true, true, true, true, true, false, false] rfl rfl (one_of HT_.out (by kernel_rfl)) (by decide) (fun K hK => ?_)
  refine goes_ Tryd.func31 (by kernel_rfl) rfl #[.int .i64 13, .agg #[.int .i64 t1368, .int .i64 t1369, .int .i64 t1370, .string t1371, .bool t1372, .int .i64 t1373], .agg #[.int .i64 t1374, .int .i64 t1375, .int .i64 t1376, .string t1377, .bool t1378, .int .i64 t1379]] (by rfl) rfl rfl (by (try simp only [List.map_toArray, List.map_cons, List.map_nil]); first | done | rfl | (simp only [List.length_drop, List.length_take]; rfl)) ?_
  with_reducible refine (value_Bin.calls k 13 t1368 t1369 t1370 t1371 t1372 t1373 t1374 t1375 t1376 t1377 t1378 t1379 t1406 t1407 t1408 t1409 t1410 t1411 _ ?side1 A12.out).mono ?_
  (case side1 => exact HT.out.on (by repeat (first | (with_reducible first | exact HB.out | apply below_alloc | apply pw_below_drewN | apply below_drew1 | refine below_set ?_ (Aside0.out (by assumption))) | exact HB.out)))
  rintro e w73 ⟨rfl, hb⟩
  refine ⟨_, rfl, ?_⟩
  have n0_ := Aside0.mk (Boxes.below (by (with_reducible repeat (first | apply boxes_drewN | apply boxes_drew | apply boxes_alloc)); exact BX.out) hb)
  have n1_ := Aside0.mk (below_step (by repeat (first | (with_reducible first | exact HB.out | apply below_alloc | apply pw_below_drewN | apply below_drew1 | refine below_set ?_ (Aside0.out (by assumption))) | exact HB.out)) hb)
  clear BX HB
  have BX := n0_
  have HB := n1_
  clear n0_ n1_
  (try clear hb)
  (try clear hb2)
  (try clear hk)
  (try clear hi)
  refine hK.out _ _ ⟨(blk_cell (BX.out.get 4 rfl) 0).trans rfl, (blk_cell (BX.out.get 4 rfl) 1).trans rfl, (blk_cell (BX.out.get 4 rfl) 2).trans rfl, (blk_cell (BX.out.get 4 rfl) 3).trans rfl, (blk_cell (BX.out.get 4 rfl) 4).trans rfl, (blk_cell (BX.out.get 4 rfl) 5).trans rfl, (blk_cell (BX.out.get 3 rfl) 0).trans rfl, (blk_cell (BX.out.get 3 rfl) 1).trans rfl, (blk_cell (BX.out.get 3 rfl) 2).trans rfl, (blk_cell (BX.out.get 3 rfl) 3).trans rfl, (blk_cell (BX.out.get 3 rfl) 4).trans rfl, (blk_cell (BX.out.get 3 rfl) 5).trans rfl⟩ (fun hHeld => ?_)
  clear hK K
  refine norm_ (a' := ?_) ?_ ?_
  rotate_left
  ·show Act.put _ (some 51) _ = _
   simp only [Act.put, List.setIfInBounds_toArray, List.set_cons_zero, List.set_cons_succ, i64_w, i32_w]
   rfl
  refine one_ (i := 9) (N := some 52) #[true, true, true, true, true, true, true, true, true, true, false] rfl rfl (one_of HT_.out (by kernel_rfl)) (by decide) (fun K hK => ?_)
  refine Kd.R_lit_step k25 _ 25 ?hg (N := 52) ?hd (xs := ([(⟨t1394, (⟨t1395, t1396⟩ : S23), t1397, t1398, t1399⟩ : S25), (⟨t1400, (⟨t1401, t1402⟩ : S23), t1403, t1404, t1405⟩ : S25), (⟨t1406, (⟨t1407, t1408⟩ : S23), t1409, t1410, t1411⟩ : S25)] : List (S25))) (inner := [.int .i64 t1394, .int .i64 t1395, .int .i64 t1396, .string t1397, .bool t1398, .int .i64 t1399, .int .i64 t1400, .int .i64 t1401, .int .i64 t1402, .string t1403, .bool t1404, .int .i64 t1405, .int .i64 t1406, .int .i64 t1407, .int .i64 t1408, .string t1409, .bool t1410, .int .i64 t1411]) (ok := fun _ => True) (okp := fun _ => True) ?hr ?hp (fun _ hk => hk) trivial (Below.refl _ _) (Nat.le_refl _) (by simp) ?_; (case hd => rfl); (case hg => rfl); (case hr => first | (go_simp; done) | (go_simp; rfl)); (case hp => exact (Reps.c6 (show Kd.M k25 _ _ _ (⟨t1394, (⟨t1395, t1396⟩ : S23), t1397, t1398, t1399⟩ : S25) [.int .i64 t1394, .int .i64 t1395, .int .i64 t1396, .string t1397, .bool t1398, .int .i64 t1399] from (k25_mkM _ _ _ (⟨t1394, (⟨t1395, t1396⟩ : S23), t1397, t1398, t1399⟩ : S25) )) (Reps.c6 (show Kd.M k25 _ _ _ (⟨t1400, (⟨t1401, t1402⟩ : S23), t1403, t1404, t1405⟩ : S25) [.int .i64 t1400, .int .i64 t1401, .int .i64 t1402, .string t1403, .bool t1404, .int .i64 t1405] from (k25_mkM _ _ _ (⟨t1400, (⟨t1401, t1402⟩ : S23), t1403, t1404, t1405⟩ : S25) )) (Reps.c6 (show Kd.M k25 _ _ _ (⟨t1406, (⟨t1407, t1408⟩ : S23), t1409, t1410, t1411⟩ : S25) [.int .i64 t1406, .int .i64 t1407, .int .i64 t1408, .string t1409, .bool t1410, .int .i64 t1411] from (k25_mkM _ _ _ (⟨t1406, (⟨t1407, t1408⟩ : S23), t1409, t1410, t1411⟩ : S25) )) (Reps.none _ _)))))
  intro v1413 w74 ho75 hb hg_ hnew_
  clear hg_ hnew_
  (first | rw [← Ny1412.out] at ho75 | (simp only [Int.reduceToNat] at ho75; rw [← Ny1412.out] at ho75))
  have n0_ := Aside0.mk (Boxes.below (by (with_reducible repeat (first | apply boxes_drewN | apply boxes_drew | apply boxes_alloc)); exact BX.out) hb)
  have n1_ := Aside0.mk (Kd.R_lower (Kd.R_newB (Kd.R_newB ho75 (g := gb1380) (o := .cells #[.int .i64 t1368, .int .i64 t1369, .int .i64 t1370, .string t1371, .bool t1372, .int .i64 t1373] 25 (0, 0)) (by (with_reducible repeat (first | refine blk_drewN ?_ _ | refine blk_drew ?_ | refine blk_alloc ?_ _)); exact (BX.out.get 4 rfl))) (g := gb1381) (o := .cells #[.int .i64 t1374, .int .i64 t1375, .int .i64 t1376, .string t1377, .bool t1378, .int .i64 t1379] 25 (0, 0)) (by (with_reducible repeat (first | refine blk_drewN ?_ _ | refine blk_drew ?_ | refine blk_alloc ?_ _)); exact (BX.out.get 3 rfl))) (below_size (by repeat (first | (with_reducible first | exact HB.out | apply below_alloc | apply pw_below_drewN | apply below_drew1 | refine below_set ?_ (Aside0.out (by assumption))) | exact HB.out))))
  have n2_ := Aside0.mk (below_step (by repeat (first | (with_reducible first | exact HB.out | apply below_alloc | apply pw_below_drewN | apply below_drew1 | refine below_set ?_ (Aside0.out (by assumption))) | exact HB.out)) hb)
  clear BX HB
  have BX := n0_
  have HO1414 := n1_
  have HB := n2_
  clear n0_ n1_ n2_
  clear hb ho75
  refine hK.out _ _ ⟨(blk_cell (BX.out.get 4 rfl) 0).trans rfl, (blk_cell (BX.out.get 4 rfl) 1).trans rfl, (blk_cell (BX.out.get 4 rfl) 2).trans rfl, (blk_cell (BX.out.get 4 rfl) 3).trans rfl, (blk_cell (BX.out.get 4 rfl) 4).trans rfl, (blk_cell (BX.out.get 4 rfl) 5).trans rfl, (blk_cell (BX.out.get 3 rfl) 0).trans rfl, (blk_cell (BX.out.get 3 rfl) 1).trans rfl, (blk_cell (BX.out.get 3 rfl) 2).trans rfl, (blk_cell (BX.out.get 3 rfl) 3).trans rfl, (blk_cell (BX.out.get 3 rfl) 4).trans rfl, (blk_cell (BX.out.get 3 rfl) 5).trans rfl⟩ (fun hHeld => ?_)
  clear hK K
  refine norm_ (a' := ?_) ?_ ?_
  rotate_left
  ·show Act.put _ (some 52) _ = _
   simp only [Act.put, List.setIfInBounds_toArray, List.set_cons_zero, List.set_cons_succ, i64_w, i32_w]
   rfl
  refine pure_ (i := 10) (N := some 13) (v := ?_) (a' := ?_) #[true, true, true, true, true, true, true, true, true, true, true] rfl rfl (any_of HT_.out (by kernel_rfl)) (fun _ _ _ h => h) (Or.inl ⟨by rfl, ?_⟩) ?_ ?_
  rotate_left
  ·intro w'
   go_simp
   with_reducible rfl
  rotate_left
  ·simp only [Act.put, List.setIfInBounds_toArray, List.set_cons_zero, List.set_cons_succ, i64_w, i32_w]
   rfl
  refine done_ (done_of HT_.out (by kernel_rfl)) ?_
  have hcz76_0 : w74.cell? ⟨gb1385, 0, none⟩ = some (.int .i64 t1382) := (blk_cell (BX.out.get 2 rfl) 0).trans rfl
  have hcz76_1 : w74.cell? ⟨gb1385, 1, none⟩ = some (.int .i64 t1383) := (blk_cell (BX.out.get 2 rfl) 1).trans rfl
  have hfz76_0 := blk_frozen (BX.out.get 2 rfl) 0
  have hfz76_1 := blk_frozen (BX.out.get 2 rfl) 1
  have hcz77_0 : w74.cell? ⟨gb1389, 0, none⟩ = some (.int .i64 t1386) := (blk_cell (BX.out.get 1 rfl) 0).trans rfl
  have hcz77_1 : w74.cell? ⟨gb1389, 1, none⟩ = some (.int .i64 t1387) := (blk_cell (BX.out.get 1 rfl) 1).trans rfl
  have hfz77_0 := blk_frozen (BX.out.get 1 rfl) 0
  have hfz77_1 := blk_frozen (BX.out.get 1 rfl) 1
  have hcz78_0 : w74.cell? ⟨gb1393, 0, none⟩ = some (.int .i64 t1390) := (blk_cell (BX.out.get 0 rfl) 0).trans rfl
  have hcz78_1 : w74.cell? ⟨gb1393, 1, none⟩ = some (.int .i64 t1391) := (blk_cell (BX.out.get 0 rfl) 1).trans rfl
  have hfz78_0 := blk_frozen (BX.out.get 0 rfl) 0
  have hfz78_1 := blk_frozen (BX.out.get 0 rfl) 1
  try go_wp2_with (first | ((with_reducible refine gate_dst (N := 56) rfl ?_); refine Kd.R_lit k23 _ 23 ?hg (N := 56) ?hd (xs := ([(⟨t1382, t1383⟩ : S23), (⟨t1386, t1387⟩ : S23), (⟨t1390, t1391⟩ : S23)] : List (S23))) (inner := [.int .i64 t1382, .int .i64 t1383, .int .i64 t1386, .int .i64 t1387, .int .i64 t1390, .int .i64 t1391]) (ok := fun _ => True) (okp := fun _ => True) ?hr ?hp (fun _ hk => hk) trivial (Below.refl _ _) (Nat.le_refl _) (by simp) ?_; (case hd => rfl); (case hg => rfl); (case hr => first | (go_simp; done) | (go_simp; rfl)); (case hp => exact (Reps.c2 (show Kd.M k23 _ _ _ (⟨t1382, t1383⟩ : S23) [.int .i64 t1382, .int .i64 t1383] from (k23_mkM _ _ _ (⟨t1382, t1383⟩ : S23) )) (Reps.c2 (show Kd.M k23 _ _ _ (⟨t1386, t1387⟩ : S23) [.int .i64 t1386, .int .i64 t1387] from (k23_mkM _ _ _ (⟨t1386, t1387⟩ : S23) )) (Reps.c2 (show Kd.M k23 _ _ _ (⟨t1390, t1391⟩ : S23) [.int .i64 t1390, .int .i64 t1391] from (k23_mkM _ _ _ (⟨t1390, t1391⟩ : S23) )) (Reps.none _ _))))); intro v1416 w79 ho80 hb hg_ hnew_; clear hg_ hnew_; (first | rw [← Ny1415.out] at ho80 | (simp only [Int.reduceToNat] at ho80; rw [← Ny1415.out] at ho80)); have n0_ := Aside0.mk (Boxes.below (by (with_reducible repeat (first | apply boxes_drewN | apply boxes_drew | apply boxes_alloc)); exact BX.out) hb); have n1_ := Aside0.mk (Kd.R_below (by (with_reducible repeat (first | apply Kd.R_alloc | apply Kd.R_drewN | apply Kd.R_drew)); exact HO1414.out) hb); have n2_ := Aside0.mk (Kd.R_lower (Kd.R_newB (Kd.R_newB (Kd.R_newB (Kd.R_newB (Kd.R_newB ho80 (g := gb1365) (o := .cells #[.int .i64 a0_0, .int .i64 a0_1] 23 (0, 0)) (by (with_reducible repeat (first | refine blk_drewN ?_ _ | refine blk_drew ?_ | refine blk_alloc ?_ _)); exact (BX.out.get 6 rfl))) (g := gb1366) (o := .cells #[.int .i64 a1_0, .int .i64 a1_1] 23 (0, 0)) (by (with_reducible repeat (first | refine blk_drewN ?_ _ | refine blk_drew ?_ | refine blk_alloc ?_ _)); exact (BX.out.get 5 rfl))) (g := gb1385) (o := .cells #[.int .i64 t1382, .int .i64 t1383] 23 (0, 0)) (by (with_reducible repeat (first | refine blk_drewN ?_ _ | refine blk_drew ?_ | refine blk_alloc ?_ _)); exact (BX.out.get 2 rfl))) (g := gb1389) (o := .cells #[.int .i64 t1386, .int .i64 t1387] 23 (0, 0)) (by (with_reducible repeat (first | refine blk_drewN ?_ _ | refine blk_drew ?_ | refine blk_alloc ?_ _)); exact (BX.out.get 1 rfl))) (g := gb1393) (o := .cells #[.int .i64 t1390, .int .i64 t1391] 23 (0, 0)) (by (with_reducible repeat (first | refine blk_drewN ?_ _ | refine blk_drew ?_ | refine blk_alloc ?_ _)); exact (BX.out.get 0 rfl))) (below_size (by repeat (first | (with_reducible first | exact HB.out | apply below_alloc | apply pw_below_drewN | apply below_drew1 | refine below_set ?_ (Aside0.out (by assumption))) | exact HB.out)))); have n3_ := Aside0.mk (below_step (by repeat (first | (with_reducible first | exact HB.out | apply below_alloc | apply pw_below_drewN | apply below_drew1 | refine below_set ?_ (Aside0.out (by assumption))) | exact HB.out)) hb); clear BX HO1414 HB; have BX := n0_; have HO1414 := n1_; have HO1417 := n2_; have HB := n3_; clear n0_ n1_ n2_ n3_; clear hb ho80) | ((with_reducible refine gate_dst (N := 60) rfl ?_); refine Kd.R_lit Kd.bool _ 4 ?hg (N := 60) ?hd (xs := ([t1384, t1388, t1392] : List Bool)) (inner := [.bool t1384, .bool t1388, .bool t1392]) (ok := fun _ => True) (okp := fun _ => True) ?hr ?hp (fun _ hk => hk) trivial (Below.refl _ _) (Nat.le_refl _) (by simp) ?_; (case hd => rfl); (case hg => rfl); (case hr => first | (go_simp; done) | (go_simp; rfl)); (case hp => exact (Reps.one (show Kd.M Kd.bool _ _ _ t1384 [.bool t1384] from rfl) (Reps.one (show Kd.M Kd.bool _ _ _ t1388 [.bool t1388] from rfl) (Reps.one (show Kd.M Kd.bool _ _ _ t1392 [.bool t1392] from rfl) (Reps.none _ _))))); intro v1419 w81 ho82 hb hg_ hnew_; clear hg_ hnew_; (first | rw [← Ny1418.out] at ho82 | (simp only [Int.reduceToNat] at ho82; rw [← Ny1418.out] at ho82)); have n0_ := Aside0.mk (Boxes.below (by (with_reducible repeat (first | apply boxes_drewN | apply boxes_drew | apply boxes_alloc)); exact BX.out) hb); have n1_ := Aside0.mk (Kd.R_below (by (with_reducible repeat (first | apply Kd.R_alloc | apply Kd.R_drewN | apply Kd.R_drew)); exact HO1414.out) hb); have n2_ := Aside0.mk (Kd.R_below (by (with_reducible repeat (first | apply Kd.R_alloc | apply Kd.R_drewN | apply Kd.R_drew)); exact HO1417.out) hb); have n3_ := Aside0.mk (Kd.R_lower ho82 (below_size (by repeat (first | (with_reducible first | exact HB.out | apply below_alloc | apply pw_below_drewN | apply below_drew1 | refine below_set ?_ (Aside0.out (by assumption))) | exact HB.out)))); have n4_ := Aside0.mk (below_step (by repeat (first | (with_reducible first | exact HB.out | apply below_alloc | apply pw_below_drewN | apply below_drew1 | refine below_set ?_ (Aside0.out (by assumption))) | exact HB.out)) hb); clear BX HO1414 HO1417 HB; have BX := n0_; have HO1414 := n1_; have HO1417 := n2_; have HO1420 := n3_; have HB := n4_; clear n0_ n1_ n2_ n3_ n4_; clear hb ho82))
  go_loopg [16] k (fun kq v16 w' => ∃ (x16_1 : Int), v16 = .int .i64 x16_1 ∧ Aside0 (whittlelaw2_ValueNumbers.l0 kq y1412 y1415 y1418 x16_1 a0_0 a0_1 t1368 t1369 t1370 t1371 t1372 t1373 = some r) ∧ Aside0 (kq ≤ k) ∧ Aside0 (Kd.R k25 25 w' w.heap.size (fun k_ => k_ ≠ gb1380 ∧ k_ ≠ gb1381) v1413 y1412) ∧ Aside0 (Kd.R k23 23 w' w.heap.size (fun k_ => k_ ≠ gb1365 ∧ k_ ≠ gb1366 ∧ k_ ≠ gb1385 ∧ k_ ≠ gb1389 ∧ k_ ≠ gb1393) v1416 y1415) ∧ Aside0 (Kd.R Kd.bool 4 w' w.heap.size (fun _ => True) v1419 y1418) ∧ Aside0 (Boxes w.heap.size w' [(gb1393, 23, #[.int .i64 t1390, .int .i64 t1391]), (gb1389, 23, #[.int .i64 t1386, .int .i64 t1387]), (gb1385, 23, #[.int .i64 t1382, .int .i64 t1383]), (gb1381, 25, #[.int .i64 t1374, .int .i64 t1375, .int .i64 t1376, .string t1377, .bool t1378, .int .i64 t1379]), (gb1380, 25, #[.int .i64 t1368, .int .i64 t1369, .int .i64 t1370, .string t1371, .bool t1372, .int .i64 t1373]), (gb1366, 23, #[.int .i64 a1_0, .int .i64 a1_1]), (gb1365, 23, #[.int .i64 a0_0, .int .i64 a0_1])]) ∧ Aside0 (Below w.heap.size w w'))
  case atStart => exact ⟨(0), (by first | rfl | (simp; done) | (simp [*]; done) | (simp [bne_nil]; done)), H', ⟨Nat.le_refl _⟩, ⟨by (with_reducible repeat (first | apply Kd.R_alloc | apply Kd.R_drewN | apply Kd.R_drew)); exact Kd.R_mono HO1414.out (fun _ hk => ⟨hk.1.2, hk.2⟩)⟩, ⟨by (with_reducible repeat (first | apply Kd.R_alloc | apply Kd.R_drewN | apply Kd.R_drew)); exact Kd.R_mono HO1417.out (fun _ hk => ⟨hk.1.1.1.1.2, ⟨hk.1.1.1.2, ⟨hk.1.1.2, ⟨hk.1.2, hk.2⟩⟩⟩⟩)⟩, ⟨by (with_reducible repeat (first | apply Kd.R_alloc | apply Kd.R_drewN | apply Kd.R_drew)); exact HO1420.out⟩, ⟨by (with_reducible repeat (first | apply boxes_drewN | apply boxes_drew | apply boxes_alloc)); exact BX.out⟩, ⟨by repeat (first | (with_reducible first | exact HB.out | apply below_alloc | apply pw_below_drewN | apply below_drew1 | refine below_set ?_ (Aside0.out (by assumption))) | exact HB.out)⟩⟩
  case round =>
   clear H'
   try clear c2
   try clear p2
   try clear c3
   try clear c4
   try clear c5
   try clear c6
   try clear c31
   try clear c34
   try clear c35
   try clear c36
   try clear c38
   try clear c39
   try clear c43
   try clear c44
   try clear c45
   try clear c46
   try clear c47
   try clear c52
   try clear c53
   try clear c54
   try clear c55
   try clear c56
   try clear c62
   try clear c63
   try clear c64
   try clear c65
   try clear c66
   try clear c67
   try clear hcz37_0
   try clear hcz37_1
   try clear hcz40_0
   try clear hcz40_1
   try clear hcz47_0
   try clear hcz47_1
   try clear hcz48_0
   try clear hcz48_1
   try clear hcz49_0
   try clear hcz49_1
   try clear hcz57_0
   try clear hcz57_1
   try clear hcz58_0
   try clear hcz58_1
   try clear hcz59_0
   try clear hcz59_1
   try clear hcz68_0
   try clear hcz68_1
   try clear hcz76_0
   try clear hcz76_1
   try clear hcz77_0
   try clear hcz77_1
   try clear hcz78_0
   try clear hcz78_1
   try clear hfz37_0
   try clear hfz37_1
   try clear hfz40_0
   try clear hfz40_1
   try clear hfz47_0
   try clear hfz47_1
   try clear hfz48_0
   try clear hfz48_1
   try clear hfz49_0
   try clear hfz49_1
   try clear hfz57_0
   try clear hfz57_1
   try clear hfz58_0
   try clear hfz58_1
   try clear hfz59_0
   try clear hfz59_1
   try clear hfz68_0
   try clear hfz68_1
   try clear hfz76_0
   try clear hfz76_1
   try clear hfz77_0
   try clear hfz77_1
   try clear hfz78_0
   try clear hfz78_1
   obtain ⟨x16_1, rfl, HA, HK1, HO_13, HO_14, HO_15, BX, HB⟩ := hrel
   cases gk with
   | zero => exact absurd HA.out (by simp [whittlelaw2_ValueNumbers.l0])
   | succ k1 =>
    have H := HA.out
    clear HA
    simp only [whittlelaw2_ValueNumbers.l0] at H
    by_cases c83 : x16_1 < 3
    ·rw [if_pos c83] at H
     have c83b0 : decide (x16_1 < 3) = true := decide_eq_true c83
     clear c83
     by_cases c84 : 0 ≤ x16_1
     ·rw [if_pos c84] at H
      have c84b0 : decide (0 ≤ x16_1) = true := decide_eq_true c84
      clear c84
      by_cases c85 : x16_1 < (y1418.length : Int)
      ·rw [if_pos c85] at H
       have c85b0 : decide (x16_1 < (y1418.length : Int)) = true := decide_eq_true c85
       clear c85
       obtain ⟨bq86, hbq86⟩ : ∃ b_ : Bool, b_ = (rdOf false y1418 x16_1) := ⟨_, rfl⟩
       replace H : (if bq86 = true then (if x16_1 < (y1412.length : Int) then (if x16_1 < (y1415.length : Int) then ((value_Number.f k1 ((rd_T23 y1415 x16_1).f0) ((rd_T23 y1415 x16_1).f1)).bind fun bt1424 => (if (!(((rd_T25 y1412 x16_1).f0) == bt1424.1) || ((!(((rd_T25 y1412 x16_1).f1.f0) == bt1424.2.1) || (!(((rd_T25 y1412 x16_1).f1.f1) == bt1424.2.2.1))) || (!((((rd_T25 y1412 x16_1).f2).toList) == bt1424.2.2.2.1.toList) || (!(((rd_T25 y1412 x16_1).f3) == bt1424.2.2.2.2.1) || (!(((rd_T25 y1412 x16_1).f4) == bt1424.2.2.2.2.2)))))) = true then (some false) else (whittlelaw2_ValueNumbers.l0 k1 y1412 y1415 y1418 (wrap64 (x16_1 + 1)) a0_0 a0_1 t1368 t1369 t1370 t1371 t1372 t1373))) else (none)) else (none)) else (if x16_1 < (y1412.length : Int) then ((value_Fault.f 4).bind fun bt1433 => (if (!(((rd_T25 y1412 x16_1).f0) == bt1433.1) || ((!(((rd_T25 y1412 x16_1).f1.f0) == bt1433.2.1) || (!(((rd_T25 y1412 x16_1).f1.f1) == bt1433.2.2.1))) || (!((((rd_T25 y1412 x16_1).f2).toList) == bt1433.2.2.2.1.toList) || (!(((rd_T25 y1412 x16_1).f3) == bt1433.2.2.2.2.1) || (!(((rd_T25 y1412 x16_1).f4) == bt1433.2.2.2.2.2)))))) = true then (some false) else (whittlelaw2_ValueNumbers.l0 k1 y1412 y1415 y1418 (wrap64 (x16_1 + 1)) a0_0 a0_1 t1368 t1369 t1370 t1371 t1372 t1373))) else (none))) = some r := by rw [← hbq86] at H; exact H
       have Nbq86 := Aside0.mk hbq86
       clear hbq86
       by_cases c87 : bq86 = true
       ·subst c87
        have H1 : (if x16_1 < (y1412.length : Int) then (if x16_1 < (y1415.length : Int) then ((value_Number.f k1 ((rd_T23 y1415 x16_1).f0) ((rd_T23 y1415 x16_1).f1)).bind fun bt1424 => (if (!(((rd_T25 y1412 x16_1).f0) == bt1424.1) || ((!(((rd_T25 y1412 x16_1).f1.f0) == bt1424.2.1) || (!(((rd_T25 y1412 x16_1).f1.f1) == bt1424.2.2.1))) || (!((((rd_T25 y1412 x16_1).f2).toList) == bt1424.2.2.2.1.toList) || (!(((rd_T25 y1412 x16_1).f3) == bt1424.2.2.2.2.1) || (!(((rd_T25 y1412 x16_1).f4) == bt1424.2.2.2.2.2)))))) = true then (some false) else (whittlelaw2_ValueNumbers.l0 k1 y1412 y1415 y1418 (wrap64 (x16_1 + 1)) a0_0 a0_1 t1368 t1369 t1370 t1371 t1372 t1373))) else (none)) else (none)) = some r := by rw [if_pos rfl] at H; exact H
        clear H
        have H := H1
        clear H1
        by_cases c88 : x16_1 < (y1412.length : Int)
        ·rw [if_pos c88] at H
         have c88b0 : decide (x16_1 < (y1412.length : Int)) = true := decide_eq_true c88
         clear c88
         by_cases c89 : x16_1 < (y1415.length : Int)
         ·rw [if_pos c89] at H
          have c89b0 : decide (x16_1 < (y1415.length : Int)) = true := decide_eq_true c89
          clear c89
          replace H := Option.bind_eq_some_iff.mp H
          obtain ⟨⟨t1424, t1425, t1426, t1427, t1428, t1429⟩, A900, H⟩ := H
          replace H : (if (!(((rd_T25 y1412 x16_1).f0) == t1424) || ((!(((rd_T25 y1412 x16_1).f1.f0) == t1425) || (!(((rd_T25 y1412 x16_1).f1.f1) == t1426))) || (!((((rd_T25 y1412 x16_1).f2).toList) == t1427.toList) || (!(((rd_T25 y1412 x16_1).f3) == t1428) || (!(((rd_T25 y1412 x16_1).f4) == t1429)))))) = true then (some false) else (whittlelaw2_ValueNumbers.l0 k1 y1412 y1415 y1418 (wrap64 (x16_1 + 1)) a0_0 a0_1 t1368 t1369 t1370 t1371 t1372 t1373)) = some r := H
          have A90 := Aside0.mk A900
          clear A900
          by_cases c91 : (!(((rd_T25 y1412 x16_1).f0) == t1424) || ((!(((rd_T25 y1412 x16_1).f1.f0) == t1425) || (!(((rd_T25 y1412 x16_1).f1.f1) == t1426))) || (!((((rd_T25 y1412 x16_1).f2).toList) == t1427.toList) || (!(((rd_T25 y1412 x16_1).f3) == t1428) || (!(((rd_T25 y1412 x16_1).f4) == t1429)))))) = true
          ·rw [if_pos c91] at H
           have c91b0 : (!(((rd_T25 y1412 x16_1).f0) == t1424) || ((!(((rd_T25 y1412 x16_1).f1.f0) == t1425) || (!(((rd_T25 y1412 x16_1).f1.f1) == t1426))) || (!((((rd_T25 y1412 x16_1).f2).toList) == t1427.toList) || (!(((rd_T25 y1412 x16_1).f3) == t1428) || (!(((rd_T25 y1412 x16_1).f4) == t1429)))))) = true := c91
           clear c91
           exact absurd (Option.some.inj H) (by rw [HR.out]; decide)
          ·rw [if_neg c91] at H
           have c91b0 : (!(((rd_T25 y1412 x16_1).f0) == t1424) || ((!(((rd_T25 y1412 x16_1).f1.f0) == t1425) || (!(((rd_T25 y1412 x16_1).f1.f1) == t1426))) || (!((((rd_T25 y1412 x16_1).f2).toList) == t1427.toList) || (!(((rd_T25 y1412 x16_1).f3) == t1428) || (!(((rd_T25 y1412 x16_1).f4) == t1429)))))) = false := by simpa using c91
           clear c91
           have H' := Aside0.mk H
           clear H
           try go_wp2
           have n0_ := Aside0.mk (boxes_drew BX.out)
           have n1_ := Aside0.mk (Kd.R_drew HO_13.out)
           have n2_ := Aside0.mk (Kd.R_drew HO_14.out)
           have n3_ := Aside0.mk (Kd.R_drew HO_15.out)
           have n4_ := Aside0.mk (below_drew1 HB.out)
           clear BX HO_13 HO_14 HO_15 HB
           have BX := n0_
           have HO_13 := n1_
           have HO_14 := n2_
           have HO_15 := n3_
           have HB := n4_
           clear n0_ n1_ n2_ n3_ n4_
           obtain ⟨Ao93, co93, eo93⟩ := Kd.R_slice HO_15.out
           (first | subst eo93 | (injection eo93 with f1_ f2_ f3_; have f4_ := f1_.symm; have f5_ := f3_.symm; clear f1_ f2_ f3_; subst f4_; subst f5_))
           have p1421 : 0 ≤ (x16_1 : Int) := of_decide_eq_true (by first | (with_reducible assumption) | assumption)
           have q1421 : x16_1 < (y1418.length : Int) := of_decide_eq_true (by first | (with_reducible assumption) | assumption)
           obtain ⟨ad1421, e1421, hx1421_0⟩ := Kd.at_bool (Kd.R_reads' HO_15.out).2.2 x16_1 p1421 q1421
           (try rw [← Nbq86.out] at hx1421_0)
           cases e1421
           replace p1421 := eq_true p1421
           replace q1421 := eq_true q1421
           obtain ⟨Ao94, co94, eo94⟩ := Kd.R_slice HO_13.out
           (first | subst eo94 | (injection eo94 with f1_ f2_ f3_; have f4_ := f1_.symm; have f5_ := f3_.symm; clear f1_ f2_ f3_; subst f4_; subst f5_))
           have p1422 : 0 ≤ (x16_1 : Int) := of_decide_eq_true (by first | (with_reducible assumption) | assumption)
           have q1422 : x16_1 < (y1412.length : Int) := of_decide_eq_true (by first | (with_reducible assumption) | assumption)
           obtain ⟨ad1422, e1422, hx1422_0, hx1422_1, hx1422_2, hx1422_3, hx1422_4, hx1422_5⟩ := at_T25 (Kd.R_reads' HO_13.out).2.2 x16_1 p1422 q1422
           (try rw [← Nbq86.out] at hx1422_4)
           cases e1422
           replace p1422 := eq_true p1422
           replace q1422 := eq_true q1422
           obtain ⟨Ao95, co95, eo95⟩ := Kd.R_slice HO_14.out
           (first | subst eo95 | (injection eo95 with f1_ f2_ f3_; have f4_ := f1_.symm; have f5_ := f3_.symm; clear f1_ f2_ f3_; subst f4_; subst f5_))
           have p1423 : 0 ≤ (x16_1 : Int) := of_decide_eq_true (by first | (with_reducible assumption) | assumption)
           have q1423 : x16_1 < (y1415.length : Int) := of_decide_eq_true (by first | (with_reducible assumption) | assumption)
           obtain ⟨ad1423, e1423, hx1423_0, hx1423_1⟩ := at_T23 (Kd.R_reads' HO_14.out).2.2 x16_1 p1423 q1423
           cases e1423
           replace p1423 := eq_true p1423
           replace q1423 := eq_true q1423
           have p1430 : 0 ≤ (x16_1 : Int) := of_decide_eq_true (by first | (with_reducible assumption) | assumption)
           have q1430 : x16_1 < (y1418.length : Int) := of_decide_eq_true (by first | (with_reducible assumption) | assumption)
           obtain ⟨ad1430, e1430, hx1430_0⟩ := Kd.at_bool (Kd.R_reads' HO_15.out).2.2 x16_1 p1430 q1430
           (try rw [← Nbq86.out] at hx1430_0)
           obtain rfl : ad1421 = ad1430 := (by injection e1430)
           replace p1430 := eq_true p1430
           replace q1430 := eq_true q1430
           refine start_ (n := 31) (S := fun w' => w'.cell? (ad1421.add (x16_1).toNat) = some (.bool true) ∧ w'.cell? (ad1422.add ((x16_1).toNat * 6)) = some (.int .i64 ((rd_T25 y1412 x16_1).f0)) ∧ w'.cell? ⟨(ad1422.add ((x16_1).toNat * 6)).block, (ad1422.add ((x16_1).toNat * 6)).off + 1, none⟩ = some (.int .i64 ((rd_T25 y1412 x16_1).f1.f0)) ∧ w'.cell? ⟨(ad1422.add ((x16_1).toNat * 6)).block, (ad1422.add ((x16_1).toNat * 6)).off + 2, none⟩ = some (.int .i64 ((rd_T25 y1412 x16_1).f1.f1)) ∧ w'.cell? ⟨(ad1422.add ((x16_1).toNat * 6)).block, (ad1422.add ((x16_1).toNat * 6)).off + 3, none⟩ = some (.string ((rd_T25 y1412 x16_1).f2)) ∧ w'.cell? ⟨(ad1422.add ((x16_1).toNat * 6)).block, (ad1422.add ((x16_1).toNat * 6)).off + 4, none⟩ = some (.bool ((rd_T25 y1412 x16_1).f3)) ∧ w'.cell? ⟨(ad1422.add ((x16_1).toNat * 6)).block, (ad1422.add ((x16_1).toNat * 6)).off + 5, none⟩ = some (.int .i64 ((rd_T25 y1412 x16_1).f4)) ∧ w'.cell? (ad1423.add ((x16_1).toNat * 2)) = some (.int .i64 ((rd_T23 y1415 x16_1).f0)) ∧ w'.cell? ⟨(ad1423.add ((x16_1).toNat * 2)).block, (ad1423.add ((x16_1).toNat * 2)).off + 1, none⟩ = some (.int .i64 ((rd_T23 y1415 x16_1).f1)) ∧ w'.cell? (ad1421.add (x16_1).toNat) = some (.bool (true))) (ds := []) #[false, false, false, false, false, false, false, false, false, false, false, false, false, false, false, false, false, false, false, false, false, false, false, false, false, false, false, false, false, false, false] (by kernel_rfl) rfl rfl ⟨hx1421_0, hx1422_0, hx1422_1, hx1422_2, hx1422_3, hx1422_4, hx1422_5, hx1423_0, hx1423_1, hx1430_0⟩ (fun hHeld => ?_); refine with_tabW whittlelaw2_ValueNumbers.tab13 whittlelaw2_ValueNumbers.bits13 (fun HT_ HW_ => ?_)
           generalize wr.drew = w92 at HO_13 HO_14 HO_15 BX HB hx1421_0 hx1422_0 hx1422_1 hx1422_2 hx1422_3 hx1422_4 hx1422_5 hx1423_0 hx1423_1 hx1430_0 hHeld ⊢
           refine pure_ (i := 0) (N := some 65) (v := ?_) (a' := ?_) #[true, false, false, false, false, false, false, false, false, false, false, false, false, false, false, false, false, false, false, false, false, false, false, false, false, false, false, false, false, false, false] rfl rfl (any_of HT_.out (by kernel_rfl)) (fun _ _ _ h => h) (Or.inl ⟨by rfl, ?_⟩) ?_ ?_
           rotate_left
           ·intro w'
            go_simp
            with_reducible rfl
           rotate_left
           ·simp only [Act.put, List.setIfInBounds_toArray, List.set_cons_zero, List.set_cons_succ, i64_w, i32_w]
            rfl
           refine pure_ (i := 1) (N := some 66) (v := ?_) (a' := ?_) #[true, true, false, false, false, false, false, false, false, false, false, false, false, false, false, false, false, false, false, false, false, false, false, false, false, false, false, false, false, false, false] rfl rfl (any_of HT_.out (by kernel_rfl)) (fun _ _ _ h => h) (Or.inl ⟨by rfl, ?_⟩) ?_ ?_
           rotate_left
           ·intro w'
            go_simp
            with_reducible rfl
           rotate_left
           ·simp only [Act.put, List.setIfInBounds_toArray, List.set_cons_zero, List.set_cons_succ, i64_w, i32_w]
            rfl
           refine pure_ (i := 2) (N := some 67) (v := ?_) (a' := ?_) #[true, true, true, false, false, false, false, false, false, false, false, false, false, false, false, false, false, false, false, false, false, false, false, false, false, false, false, false, false, false, false] rfl rfl (any_of HT_.out (by kernel_rfl)) (fun _ _ _ h => h) (Or.inl ⟨by rfl, ?_⟩) ?_ ?_
           rotate_left
           ·intro w'
            go_simp
            with_reducible rfl
           rotate_left
           ·simp only [Act.put, List.setIfInBounds_toArray, List.set_cons_zero, List.set_cons_succ, i64_w, i32_w]
            rfl
           refine take_ (i := 3) (N := some 68) (v := ?_) (a' := ?_) #[true, true, true, true, false, false, false, false, false, false, false, false, false, false, false, false, false, false, false, false, false, false, false, false, false, false, false, false, false, false, false] rfl rfl (take_ofW HT_.out HW_.out (by kernel_rfl)) (fun _ _ _ h => h) (Or.inl ⟨by rfl, ?_⟩) hHeld ?_ ?_
           rotate_left
           ·rintro w' ⟨s0, s1, s2, s3, s4, s5, s6, s7, s8, s9⟩
            go_simp
            with_reducible rfl
           rotate_left
           ·simp only [Act.put, List.setIfInBounds_toArray, List.set_cons_zero, List.set_cons_succ, i64_w, i32_w]
            rfl
           refine pure_ (i := 4) (N := some 69) (v := ?_) (a' := ?_) #[true, true, true, true, true, false, false, false, false, false, false, false, false, false, false, false, false, false, false, false, false, false, false, false, false, false, false, false, false, false, false] rfl rfl (any_of HT_.out (by kernel_rfl)) (fun _ _ _ h => h) (Or.inl ⟨by rfl, ?_⟩) ?_ ?_
           rotate_left
           ·intro w'
            go_simp
            with_reducible rfl
           rotate_left
           ·simp only [Act.put, List.setIfInBounds_toArray, List.set_cons_zero, List.set_cons_succ, i64_w, i32_w]
            rfl
           refine pure_ (i := 5) (N := some 70) (v := ?_) (a' := ?_) #[true, true, true, true, true, true, false, false, false, false, false, false, false, false, false, false, false, false, false, false, false, false, false, false, false, false, false, false, false, false, false] rfl rfl (any_of HT_.out (by kernel_rfl)) (fun _ _ _ h => h) (Or.inl ⟨by rfl, ?_⟩) ?_ ?_
           rotate_left
           ·intro w'
            go_simp
            with_reducible rfl
           rotate_left
           ·simp only [Act.put, List.setIfInBounds_toArray, List.set_cons_zero, List.set_cons_succ, i64_w, i32_w]
            rfl
           refine pure_ (i := 6) (N := some 71) (v := ?_) (a' := ?_) #[true, true, true, true, true, true, true, false, false, false, false, false, false, false, false, false, false, false, false, false, false, false, false, false, false, false, false, false, false, false, false] rfl rfl (any_of HT_.out (by kernel_rfl)) (fun _ _ _ h => h) (Or.inl ⟨by rfl, ?_⟩) ?_ ?_
           rotate_left
           ·intro w'
            go_simp
            with_reducible rfl
           rotate_left
           ·simp only [Act.put, List.setIfInBounds_toArray, List.set_cons_zero, List.set_cons_succ, i64_w, i32_w]
            rfl
           refine pure_ (i := 7) (N := some 72) (v := ?_) (a' := ?_) #[true, true, true, true, true, true, true, true, false, false, false, false, false, false, false, false, false, false, false, false, false, false, false, false, false, false, false, false, false, false, false] rfl rfl (any_of HT_.out (by kernel_rfl)) (fun _ _ _ h => h) (Or.inl ⟨by rfl, ?_⟩) ?_ ?_
           rotate_left
           ·intro w'
            go_simp
            with_reducible rfl
           rotate_left
           ·simp only [Act.put, List.setIfInBounds_toArray, List.set_cons_zero, List.set_cons_succ, i64_w, i32_w]
            rfl
           refine pure_ (i := 9) (N := some 74) (v := ?_) (a' := ?_) #[true, true, true, true, true, true, true, true, false, true, false, false, false, false, false, false, false, false, false, false, false, false, false, false, false, false, false, false, false, false, false] rfl rfl (any_of HT_.out (by kernel_rfl)) (fun _ _ _ h => h) (Or.inl ⟨by rfl, ?_⟩) ?_ ?_
           rotate_left
           ·intro w'
            go_simp
            with_reducible rfl
           rotate_left
           ·simp only [Act.put, List.setIfInBounds_toArray, List.set_cons_zero, List.set_cons_succ, i64_w, i32_w]
            rfl
           refine pure_ (i := 10) (N := some 75) (v := ?_) (a' := ?_) #[true, true, true, true, true, true, true, true, false, true, true, false, false, false, false, false, false, false, false, false, false, false, false, false, false, false, false, false, false, false, false] rfl rfl (any_of HT_.out (by kernel_rfl)) (fun _ _ _ h => h) (Or.inl ⟨by rfl, ?_⟩) ?_ ?_
           rotate_left
           ·intro w'
            go_simp
            with_reducible rfl
           rotate_left
           ·simp only [Act.put, List.setIfInBounds_toArray, List.set_cons_zero, List.set_cons_succ, i64_w, i32_w]
            rfl
           refine pure_ (i := 11) (N := some 76) (v := ?_) (a' := ?_) #[true, true, true, true, true, true, true, true, false, true, true, true, false, false, false, false, false, false, false, false, false, false, false, false, false, false, false, false, false, false, false] rfl rfl (any_of HT_.out (by kernel_rfl)) (fun _ _ _ h => h) (Or.inl ⟨by rfl, ?_⟩) ?_ ?_
           rotate_left
           ·intro w'
            go_simp
            with_reducible rfl
           rotate_left
           ·simp only [Act.put, List.setIfInBounds_toArray, List.set_cons_zero, List.set_cons_succ, i64_w, i32_w]
            rfl
           refine take_ (i := 8) (N := some 73) (v := ?_) (a' := ?_) #[true, true, true, true, true, true, true, true, true, true, true, true, false, false, false, false, false, false, false, false, false, false, false, false, false, false, false, false, false, false, false] rfl rfl (take_ofW HT_.out HW_.out (by kernel_rfl)) (fun _ _ _ h => h) (Or.inl ⟨by rfl, ?_⟩) hHeld ?_ ?_
           rotate_left
           ·rintro w' ⟨s0, s1, s2, s3, s4, s5, s6, s7, s8, s9⟩
            go_simp
            with_reducible rfl
           rotate_left
           ·simp only [Act.put, List.setIfInBounds_toArray, List.set_cons_zero, List.set_cons_succ, i64_w, i32_w]
            rfl
           refine take_ (i := 12) (N := some 77) (v := ?_) (a' := ?_) #[true, true, true, true, true, true, true, true, true, true, true, true, true, false, false, false, false, false, false, false, false, false, false, false, false, false, false, false, false, false, false] rfl rfl (take_ofW HT_.out HW_.out (by kernel_rfl)) (fun _ _ _ h => h) (Or.inl ⟨by rfl, ?_⟩) hHeld ?_ ?_
           rotate_left
           ·rintro w' ⟨s0, s1, s2, s3, s4, s5, s6, s7, s8, s9⟩
            go_simp
            with_reducible rfl
           rotate_left
           ·simp only [Act.put, List.setIfInBounds_toArray, List.set_cons_zero, List.set_cons_succ, i64_w, i32_w]
            rfl
           refine one_ (i := 13) (N := some 78) #[true, true, true, true, true, true, true, true, true, true, true, true, true, true, false, false, false, false, false, false, false, false, false, false, false, false, false, false, false, false, false] rfl rfl (one_of HT_.out (by kernel_rfl)) (by decide) (fun K hK => ?_)
           refine goes_ Tryd.func19 (by kernel_rfl) rfl #[.agg #[.int .i64 ((rd_T23 y1415 x16_1).f0), .int .i64 ((rd_T23 y1415 x16_1).f1)]] (by rfl) rfl rfl (by (try simp only [List.map_toArray, List.map_cons, List.map_nil]); first | done | rfl | (simp only [List.length_drop, List.length_take]; rfl)) ?_
           with_reducible refine (value_Number.calls k1 ((rd_T23 y1415 x16_1).f0) ((rd_T23 y1415 x16_1).f1) t1424 t1425 t1426 t1427 t1428 t1429 _ A90.out).mono ?_
           rintro e w96 ⟨rfl, hb⟩
           have HS0_ := (hb.cell (World.block_lt_of_cell? _ _ (hHeld.1))).trans (hHeld.1)
           have HS1_ := (hb.cell (World.block_lt_of_cell? _ _ (hHeld.2.1))).trans (hHeld.2.1)
           have HS2_ := (hb.cell (World.block_lt_of_cell? _ _ (hHeld.2.2.1))).trans (hHeld.2.2.1)
           have HS3_ := (hb.cell (World.block_lt_of_cell? _ _ (hHeld.2.2.2.1))).trans (hHeld.2.2.2.1)
           have HS4_ := (hb.cell (World.block_lt_of_cell? _ _ (hHeld.2.2.2.2.1))).trans (hHeld.2.2.2.2.1)
           have HS5_ := (hb.cell (World.block_lt_of_cell? _ _ (hHeld.2.2.2.2.2.1))).trans (hHeld.2.2.2.2.2.1)
           have HS6_ := (hb.cell (World.block_lt_of_cell? _ _ (hHeld.2.2.2.2.2.2.1))).trans (hHeld.2.2.2.2.2.2.1)
           have HS7_ := (hb.cell (World.block_lt_of_cell? _ _ (hHeld.2.2.2.2.2.2.2.1))).trans (hHeld.2.2.2.2.2.2.2.1)
           have HS8_ := (hb.cell (World.block_lt_of_cell? _ _ (hHeld.2.2.2.2.2.2.2.2.1))).trans (hHeld.2.2.2.2.2.2.2.2.1)
           have HS9_ := (hb.cell (World.block_lt_of_cell? _ _ (hHeld.2.2.2.2.2.2.2.2.2))).trans (hHeld.2.2.2.2.2.2.2.2.2)
           refine ⟨_, rfl, ?_⟩
           have n0_ := Aside0.mk (Boxes.below (by (with_reducible repeat (first | apply boxes_drewN | apply boxes_drew | apply boxes_alloc)); exact BX.out) hb)
           have n1_ := Aside0.mk (Kd.R_below (by (with_reducible repeat (first | apply Kd.R_alloc | apply Kd.R_drewN | apply Kd.R_drew)); exact HO_13.out) hb)
           have n2_ := Aside0.mk (Kd.R_below (by (with_reducible repeat (first | apply Kd.R_alloc | apply Kd.R_drewN | apply Kd.R_drew)); exact HO_14.out) hb)
           have n3_ := Aside0.mk (Kd.R_below (by (with_reducible repeat (first | apply Kd.R_alloc | apply Kd.R_drewN | apply Kd.R_drew)); exact HO_15.out) hb)
           have n4_ := Aside0.mk (below_step (by repeat (first | (with_reducible first | exact HB.out | apply below_alloc | apply pw_below_drewN | apply below_drew1 | refine below_set ?_ (Aside0.out (by assumption))) | exact HB.out)) hb)
           clear BX HO_13 HO_14 HO_15 HB
           have BX := n0_
           have HO_13 := n1_
           have HO_14 := n2_
           have HO_15 := n3_
           have HB := n4_
           clear n0_ n1_ n2_ n3_ n4_
           (try clear hb)
           (try clear hb2)
           (try clear hk)
           (try clear hi)
           refine hK.out _ _ ⟨HS0_, HS1_, HS2_, HS3_, HS4_, HS5_, HS6_, HS7_, HS8_, HS9_⟩ (fun hHeld => ?_)
           clear hK K
           refine norm_ (a' := ?_) ?_ ?_
           rotate_left
           ·show Act.put _ (some 78) _ = _
            simp only [Act.put, List.setIfInBounds_toArray, List.set_cons_zero, List.set_cons_succ, i64_w, i32_w]
            rfl
           refine pure_ (i := 14) (N := some 79) (v := ?_) (a' := ?_) #[true, true, true, true, true, true, true, true, true, true, true, true, true, true, true, false, false, false, false, false, false, false, false, false, false, false, false, false, false, false, false] rfl rfl (any_of HT_.out (by kernel_rfl)) (fun _ _ _ h => h) (Or.inl ⟨by rfl, ?_⟩) ?_ ?_
           rotate_left
           ·intro w'
            go_simp
            with_reducible rfl
           rotate_left
           ·simp only [Act.put, List.setIfInBounds_toArray, List.set_cons_zero, List.set_cons_succ, i64_w, i32_w]
            rfl
           refine pure_ (i := 15) (N := some 80) (v := ?_) (a' := ?_) #[true, true, true, true, true, true, true, true, true, true, true, true, true, true, true, true, false, false, false, false, false, false, false, false, false, false, false, false, false, false, false] rfl rfl (any_of HT_.out (by kernel_rfl)) (fun _ _ _ h => h) (Or.inl ⟨by rfl, ?_⟩) ?_ ?_
           rotate_left
           ·intro w'
            go_simp
            with_reducible rfl
           rotate_left
           ·simp only [Act.put, List.setIfInBounds_toArray, List.set_cons_zero, List.set_cons_succ, i64_w, i32_w]
            rfl
           refine pure_ (i := 16) (N := some 81) (v := ?_) (a' := ?_) #[true, true, true, true, true, true, true, true, true, true, true, true, true, true, true, true, true, false, false, false, false, false, false, false, false, false, false, false, false, false, false] rfl rfl (any_of HT_.out (by kernel_rfl)) (fun _ _ _ h => h) (Or.inl ⟨by rfl, ?_⟩) ?_ ?_
           rotate_left
           ·intro w'
            go_simp
            with_reducible rfl
           rotate_left
           ·simp only [Act.put, List.setIfInBounds_toArray, List.set_cons_zero, List.set_cons_succ, i64_w, i32_w]
            rfl
           refine pure_ (i := 17) (N := some 82) (v := ?_) (a' := ?_) #[true, true, true, true, true, true, true, true, true, true, true, true, true, true, true, true, true, true, false, false, false, false, false, false, false, false, false, false, false, false, false] rfl rfl (any_of HT_.out (by kernel_rfl)) (fun _ _ _ h => h) (Or.inl ⟨by rfl, ?_⟩) ?_ ?_
           rotate_left
           ·intro w'
            go_simp
            with_reducible rfl
           rotate_left
           ·simp only [Act.put, List.setIfInBounds_toArray, List.set_cons_zero, List.set_cons_succ, i64_w, i32_w]
            rfl
           refine pure_ (i := 18) (N := some 83) (v := ?_) (a' := ?_) #[true, true, true, true, true, true, true, true, true, true, true, true, true, true, true, true, true, true, true, false, false, false, false, false, false, false, false, false, false, false, false] rfl rfl (any_of HT_.out (by kernel_rfl)) (fun _ _ _ h => h) (Or.inl ⟨by rfl, ?_⟩) ?_ ?_
           rotate_left
           ·intro w'
            go_simp
            with_reducible rfl
           rotate_left
           ·simp only [Act.put, List.setIfInBounds_toArray, List.set_cons_zero, List.set_cons_succ, i64_w, i32_w]
            rfl
           refine pure_ (i := 19) (N := some 84) (v := ?_) (a' := ?_) #[true, true, true, true, true, true, true, true, true, true, true, true, true, true, true, true, true, true, true, true, false, false, false, false, false, false, false, false, false, false, false] rfl rfl (any_of HT_.out (by kernel_rfl)) (fun _ _ _ h => h) (Or.inl ⟨by rfl, ?_⟩) ?_ ?_
           rotate_left
           ·intro w'
            go_simp
            with_reducible rfl
           rotate_left
           ·simp only [Act.put, List.setIfInBounds_toArray, List.set_cons_zero, List.set_cons_succ, i64_w, i32_w]
            rfl
           refine take_ (i := 20) (N := some 85) (v := ?_) (a' := ?_) #[true, true, true, true, true, true, true, true, true, true, true, true, true, true, true, true, true, true, true, true, true, false, false, false, false, false, false, false, false, false, false] rfl rfl (take_ofW HT_.out HW_.out (by kernel_rfl)) (fun _ _ _ h => h) (Or.inl ⟨by rfl, ?_⟩) hHeld ?_ ?_
           rotate_left
           ·rintro w' ⟨s0, s1, s2, s3, s4, s5, s6, s7, s8, s9⟩
            go_simp
            with_reducible rfl
           rotate_left
           ·simp only [Act.put, List.setIfInBounds_toArray, List.set_cons_zero, List.set_cons_succ, i64_w, i32_w]
            rfl
           refine pure_ (i := 21) (N := some 86) (v := ?_) (a' := ?_) #[true, true, true, true, true, true, true, true, true, true, true, true, true, true, true, true, true, true, true, true, true, true, false, false, false, false, false, false, false, false, false] rfl rfl (any_of HT_.out (by kernel_rfl)) (fun _ _ _ h => h) (Or.inl ⟨by rfl, ?_⟩) ?_ ?_
           rotate_left
           ·intro w'
            go_simp
            with_reducible rfl
           rotate_left
           ·simp only [Act.put, List.setIfInBounds_toArray, List.set_cons_zero, List.set_cons_succ, i64_w, i32_w]
            rfl
           refine pure_ (i := 22) (N := some 87) (v := ?_) (a' := ?_) #[true, true, true, true, true, true, true, true, true, true, true, true, true, true, true, true, true, true, true, true, true, true, true, false, false, false, false, false, false, false, false] rfl rfl (any_of HT_.out (by kernel_rfl)) (fun _ _ _ h => h) (Or.inl ⟨by rfl, ?_⟩) ?_ ?_
           rotate_left
           ·intro w'
            go_simp
            with_reducible rfl
           rotate_left
           ·simp only [Act.put, List.setIfInBounds_toArray, List.set_cons_zero, List.set_cons_succ, i64_w, i32_w]
            rfl
           refine pure_ (i := 23) (N := some 88) (v := undef) (a' := ?_) #[true, true, true, true, true, true, true, true, true, true, true, true, true, true, true, true, true, true, true, true, true, true, true, true, false, false, false, false, false, false, false] rfl rfl (any_of HT_.out (by kernel_rfl)) (fun _ _ _ h => h) (Or.inr ⟨by rfl, rfl⟩) ?_ ?_
           rotate_left
           ·simp only [Act.put, List.setIfInBounds_toArray, List.set_cons_zero, List.set_cons_succ, i64_w, i32_w]
            rfl
           refine pure_ (i := 24) (N := some 89) (v := undef) (a' := ?_) #[true, true, true, true, true, true, true, true, true, true, true, true, true, true, true, true, true, true, true, true, true, true, true, true, true, false, false, false, false, false, false] rfl rfl (any_of HT_.out (by kernel_rfl)) (fun _ _ _ h => h) (Or.inr ⟨by rfl, rfl⟩) ?_ ?_
           rotate_left
           ·simp only [Act.put, List.setIfInBounds_toArray, List.set_cons_zero, List.set_cons_succ, i64_w, i32_w]
            rfl
           refine pure_ (i := 25) (N := some 90) (v := undef) (a' := ?_) #[true, true, true, true, true, true, true, true, true, true, true, true, true, true, true, true, true, true, true, true, true, true, true, true, true, true, false, false, false, false, false] rfl rfl (any_of HT_.out (by kernel_rfl)) (fun _ _ _ h => h) (Or.inr ⟨by rfl, rfl⟩) ?_ ?_
           rotate_left
           ·simp only [Act.put, List.setIfInBounds_toArray, List.set_cons_zero, List.set_cons_succ, i64_w, i32_w]
            rfl
           refine pure_ (i := 26) (N := some 91) (v := undef) (a' := ?_) #[true, true, true, true, true, true, true, true, true, true, true, true, true, true, true, true, true, true, true, true, true, true, true, true, true, true, true, false, false, false, false] rfl rfl (any_of HT_.out (by kernel_rfl)) (fun _ _ _ h => h) (Or.inr ⟨by rfl, rfl⟩) ?_ ?_
           rotate_left
           ·simp only [Act.put, List.setIfInBounds_toArray, List.set_cons_zero, List.set_cons_succ, i64_w, i32_w]
            rfl
           refine pure_ (i := 27) (N := some 92) (v := undef) (a' := ?_) #[true, true, true, true, true, true, true, true, true, true, true, true, true, true, true, true, true, true, true, true, true, true, true, true, true, true, true, true, false, false, false] rfl rfl (any_of HT_.out (by kernel_rfl)) (fun _ _ _ h => h) (Or.inr ⟨by rfl, rfl⟩) ?_ ?_
           rotate_left
           ·simp only [Act.put, List.setIfInBounds_toArray, List.set_cons_zero, List.set_cons_succ, i64_w, i32_w]
            rfl
           refine pure_ (i := 28) (N := some 93) (v := undef) (a' := ?_) #[true, true, true, true, true, true, true, true, true, true, true, true, true, true, true, true, true, true, true, true, true, true, true, true, true, true, true, true, true, false, false] rfl rfl (any_of HT_.out (by kernel_rfl)) (fun _ _ _ h => h) (Or.inr ⟨by rfl, rfl⟩) ?_ ?_
           rotate_left
           ·simp only [Act.put, List.setIfInBounds_toArray, List.set_cons_zero, List.set_cons_succ, i64_w, i32_w]
            rfl
           refine pure_ (i := 29) (N := some 94) (v := ?_) (a' := ?_) #[true, true, true, true, true, true, true, true, true, true, true, true, true, true, true, true, true, true, true, true, true, true, true, true, true, true, true, true, true, true, false] rfl rfl (any_of HT_.out (by kernel_rfl)) (fun _ _ _ h => h) (Or.inl ⟨by rfl, ?_⟩) ?_ ?_
           rotate_left
           ·intro w'
            go_simp
            with_reducible rfl
           rotate_left
           ·simp only [Act.put, List.setIfInBounds_toArray, List.set_cons_zero, List.set_cons_succ, i64_w, i32_w]
            rfl
           refine pure_ (i := 30) (N := some 95) (v := ?_) (a' := ?_) #[true, true, true, true, true, true, true, true, true, true, true, true, true, true, true, true, true, true, true, true, true, true, true, true, true, true, true, true, true, true, true] rfl rfl (any_of HT_.out (by kernel_rfl)) (fun _ _ _ h => h) (Or.inl ⟨by rfl, ?_⟩) ?_ ?_
           rotate_left
           ·intro w'
            go_simp
            with_reducible rfl
           rotate_left
           ·simp only [Act.put, List.setIfInBounds_toArray, List.set_cons_zero, List.set_cons_succ, i64_w, i32_w]
            rfl
           refine done_ (done_of HT_.out (by kernel_rfl)) ?_
           try go_wp2
           go_roundg k1
           case measure => have := HK1.out; omega
           case rel => exact ⟨(wrap64 (x16_1 + 1)), (by first | rfl | (simp; done) | (simp [*]; done) | (simp [bne_nil]; done)), H', ⟨by have := HK1.out; omega⟩, ⟨by (with_reducible repeat (first | apply Kd.R_alloc | apply Kd.R_drewN | apply Kd.R_drew)); exact HO_13.out⟩, ⟨by (with_reducible repeat (first | apply Kd.R_alloc | apply Kd.R_drewN | apply Kd.R_drew)); exact HO_14.out⟩, ⟨by (with_reducible repeat (first | apply Kd.R_alloc | apply Kd.R_drewN | apply Kd.R_drew)); exact HO_15.out⟩, ⟨by (with_reducible repeat (first | apply boxes_drewN | apply boxes_drew | apply boxes_alloc)); exact BX.out⟩, ⟨by repeat (first | (with_reducible first | exact HB.out | apply below_alloc | apply pw_below_drewN | apply below_drew1 | refine below_set ?_ (Aside0.out (by assumption))) | exact HB.out)⟩⟩
         ·rw [if_neg c89] at H
          exact absurd H (by simp)
        ·rw [if_neg c88] at H
         exact absurd H (by simp)
       ·replace c87 := Bool.eq_false_iff.mpr c87
        subst c87
        have H1 : (if x16_1 < (y1412.length : Int) then ((value_Fault.f 4).bind fun bt1433 => (if (!(((rd_T25 y1412 x16_1).f0) == bt1433.1) || ((!(((rd_T25 y1412 x16_1).f1.f0) == bt1433.2.1) || (!(((rd_T25 y1412 x16_1).f1.f1) == bt1433.2.2.1))) || (!((((rd_T25 y1412 x16_1).f2).toList) == bt1433.2.2.2.1.toList) || (!(((rd_T25 y1412 x16_1).f3) == bt1433.2.2.2.2.1) || (!(((rd_T25 y1412 x16_1).f4) == bt1433.2.2.2.2.2)))))) = true then (some false) else (whittlelaw2_ValueNumbers.l0 k1 y1412 y1415 y1418 (wrap64 (x16_1 + 1)) a0_0 a0_1 t1368 t1369 t1370 t1371 t1372 t1373))) else (none)) = some r := by rw [if_neg (show ¬ (false = true) by decide)] at H; exact H
        clear H
        have H := H1
        clear H1
        by_cases c97 : x16_1 < (y1412.length : Int)
        ·rw [if_pos c97] at H
         have c97b0 : decide (x16_1 < (y1412.length : Int)) = true := decide_eq_true c97
         clear c97
         replace H := Option.bind_eq_some_iff.mp H
         obtain ⟨⟨t1433, t1434, t1435, t1436, t1437, t1438⟩, A980, H⟩ := H
         replace H : (if (!(((rd_T25 y1412 x16_1).f0) == t1433) || ((!(((rd_T25 y1412 x16_1).f1.f0) == t1434) || (!(((rd_T25 y1412 x16_1).f1.f1) == t1435))) || (!((((rd_T25 y1412 x16_1).f2).toList) == t1436.toList) || (!(((rd_T25 y1412 x16_1).f3) == t1437) || (!(((rd_T25 y1412 x16_1).f4) == t1438)))))) = true then (some false) else (whittlelaw2_ValueNumbers.l0 k1 y1412 y1415 y1418 (wrap64 (x16_1 + 1)) a0_0 a0_1 t1368 t1369 t1370 t1371 t1372 t1373)) = some r := H
         have A98 := Aside0.mk A980
         clear A980
         by_cases c99 : (!(((rd_T25 y1412 x16_1).f0) == t1433) || ((!(((rd_T25 y1412 x16_1).f1.f0) == t1434) || (!(((rd_T25 y1412 x16_1).f1.f1) == t1435))) || (!((((rd_T25 y1412 x16_1).f2).toList) == t1436.toList) || (!(((rd_T25 y1412 x16_1).f3) == t1437) || (!(((rd_T25 y1412 x16_1).f4) == t1438)))))) = true
         ·rw [if_pos c99] at H
          have c99b0 : (!(((rd_T25 y1412 x16_1).f0) == t1433) || ((!(((rd_T25 y1412 x16_1).f1.f0) == t1434) || (!(((rd_T25 y1412 x16_1).f1.f1) == t1435))) || (!((((rd_T25 y1412 x16_1).f2).toList) == t1436.toList) || (!(((rd_T25 y1412 x16_1).f3) == t1437) || (!(((rd_T25 y1412 x16_1).f4) == t1438)))))) = true := c99
          clear c99
          exact absurd (Option.some.inj H) (by rw [HR.out]; decide)
         ·rw [if_neg c99] at H
          have c99b0 : (!(((rd_T25 y1412 x16_1).f0) == t1433) || ((!(((rd_T25 y1412 x16_1).f1.f0) == t1434) || (!(((rd_T25 y1412 x16_1).f1.f1) == t1435))) || (!((((rd_T25 y1412 x16_1).f2).toList) == t1436.toList) || (!(((rd_T25 y1412 x16_1).f3) == t1437) || (!(((rd_T25 y1412 x16_1).f4) == t1438)))))) = false := by simpa using c99
          clear c99
          have H' := Aside0.mk H
          clear H
          try go_wp2
          have n0_ := Aside0.mk (boxes_drew BX.out)
          have n1_ := Aside0.mk (Kd.R_drew HO_13.out)
          have n2_ := Aside0.mk (Kd.R_drew HO_14.out)
          have n3_ := Aside0.mk (Kd.R_drew HO_15.out)
          have n4_ := Aside0.mk (below_drew1 HB.out)
          clear BX HO_13 HO_14 HO_15 HB
          have BX := n0_
          have HO_13 := n1_
          have HO_14 := n2_
          have HO_15 := n3_
          have HB := n4_
          clear n0_ n1_ n2_ n3_ n4_
          obtain ⟨Ao101, co101, eo101⟩ := Kd.R_slice HO_15.out
          (first | subst eo101 | (injection eo101 with f1_ f2_ f3_; have f4_ := f1_.symm; have f5_ := f3_.symm; clear f1_ f2_ f3_; subst f4_; subst f5_))
          have p1421 : 0 ≤ (x16_1 : Int) := of_decide_eq_true (by first | (with_reducible assumption) | assumption)
          have q1421 : x16_1 < (y1418.length : Int) := of_decide_eq_true (by first | (with_reducible assumption) | assumption)
          obtain ⟨ad1421, e1421, hx1421_0⟩ := Kd.at_bool (Kd.R_reads' HO_15.out).2.2 x16_1 p1421 q1421
          (try rw [← Nbq86.out] at hx1421_0)
          cases e1421
          replace p1421 := eq_true p1421
          replace q1421 := eq_true q1421
          have p1431 : 0 ≤ (x16_1 : Int) := of_decide_eq_true (by first | (with_reducible assumption) | assumption)
          have q1431 : x16_1 < (y1418.length : Int) := of_decide_eq_true (by first | (with_reducible assumption) | assumption)
          obtain ⟨ad1431, e1431, hx1431_0⟩ := Kd.at_bool (Kd.R_reads' HO_15.out).2.2 x16_1 p1431 q1431
          (try rw [← Nbq86.out] at hx1431_0)
          obtain rfl : ad1421 = ad1431 := (by injection e1431)
          replace p1431 := eq_true p1431
          replace q1431 := eq_true q1431
          obtain ⟨Ao102, co102, eo102⟩ := Kd.R_slice HO_13.out
          (first | subst eo102 | (injection eo102 with f1_ f2_ f3_; have f4_ := f1_.symm; have f5_ := f3_.symm; clear f1_ f2_ f3_; subst f4_; subst f5_))
          have p1432 : 0 ≤ (x16_1 : Int) := of_decide_eq_true (by first | (with_reducible assumption) | assumption)
          have q1432 : x16_1 < (y1412.length : Int) := of_decide_eq_true (by first | (with_reducible assumption) | assumption)
          obtain ⟨ad1432, e1432, hx1432_0, hx1432_1, hx1432_2, hx1432_3, hx1432_4, hx1432_5⟩ := at_T25 (Kd.R_reads' HO_13.out).2.2 x16_1 p1432 q1432
          (try rw [← Nbq86.out] at hx1432_4)
          cases e1432
          replace p1432 := eq_true p1432
          replace q1432 := eq_true q1432
          refine start_ (n := 31) (S := fun w' => w'.cell? (ad1421.add (x16_1).toNat) = some (.bool false) ∧ w'.cell? (ad1421.add (x16_1).toNat) = some (.bool (false)) ∧ w'.cell? (ad1432.add ((x16_1).toNat * 6)) = some (.int .i64 ((rd_T25 y1412 x16_1).f0)) ∧ w'.cell? ⟨(ad1432.add ((x16_1).toNat * 6)).block, (ad1432.add ((x16_1).toNat * 6)).off + 1, none⟩ = some (.int .i64 ((rd_T25 y1412 x16_1).f1.f0)) ∧ w'.cell? ⟨(ad1432.add ((x16_1).toNat * 6)).block, (ad1432.add ((x16_1).toNat * 6)).off + 2, none⟩ = some (.int .i64 ((rd_T25 y1412 x16_1).f1.f1)) ∧ w'.cell? ⟨(ad1432.add ((x16_1).toNat * 6)).block, (ad1432.add ((x16_1).toNat * 6)).off + 3, none⟩ = some (.string ((rd_T25 y1412 x16_1).f2)) ∧ w'.cell? ⟨(ad1432.add ((x16_1).toNat * 6)).block, (ad1432.add ((x16_1).toNat * 6)).off + 4, none⟩ = some (.bool ((rd_T25 y1412 x16_1).f3)) ∧ w'.cell? ⟨(ad1432.add ((x16_1).toNat * 6)).block, (ad1432.add ((x16_1).toNat * 6)).off + 5, none⟩ = some (.int .i64 ((rd_T25 y1412 x16_1).f4))) (ds := []) #[false, false, false, false, false, false, false, false, false, false, false, false, false, false, false, false, false, false, false, false, false, false, false, false, false, false, false, false, false, false, false] (by kernel_rfl) rfl rfl ⟨hx1421_0, hx1431_0, hx1432_0, hx1432_1, hx1432_2, hx1432_3, hx1432_4, hx1432_5⟩ (fun hHeld => ?_); refine with_tabW whittlelaw2_ValueNumbers.tab13 whittlelaw2_ValueNumbers.bits13 (fun HT_ HW_ => ?_)
          generalize wr.drew = w100 at HO_13 HO_14 HO_15 BX HB hx1421_0 hx1431_0 hx1432_0 hx1432_1 hx1432_2 hx1432_3 hx1432_4 hx1432_5 hHeld ⊢
          refine pure_ (i := 0) (N := some 65) (v := ?_) (a' := ?_) #[true, false, false, false, false, false, false, false, false, false, false, false, false, false, false, false, false, false, false, false, false, false, false, false, false, false, false, false, false, false, false] rfl rfl (any_of HT_.out (by kernel_rfl)) (fun _ _ _ h => h) (Or.inl ⟨by rfl, ?_⟩) ?_ ?_
          rotate_left
          ·intro w'
           go_simp
           with_reducible rfl
          rotate_left
          ·simp only [Act.put, List.setIfInBounds_toArray, List.set_cons_zero, List.set_cons_succ, i64_w, i32_w]
           rfl
          refine pure_ (i := 1) (N := some 66) (v := ?_) (a' := ?_) #[true, true, false, false, false, false, false, false, false, false, false, false, false, false, false, false, false, false, false, false, false, false, false, false, false, false, false, false, false, false, false] rfl rfl (any_of HT_.out (by kernel_rfl)) (fun _ _ _ h => h) (Or.inl ⟨by rfl, ?_⟩) ?_ ?_
          rotate_left
          ·intro w'
           go_simp
           with_reducible rfl
          rotate_left
          ·simp only [Act.put, List.setIfInBounds_toArray, List.set_cons_zero, List.set_cons_succ, i64_w, i32_w]
           rfl
          refine pure_ (i := 2) (N := some 67) (v := ?_) (a' := ?_) #[true, true, true, false, false, false, false, false, false, false, false, false, false, false, false, false, false, false, false, false, false, false, false, false, false, false, false, false, false, false, false] rfl rfl (any_of HT_.out (by kernel_rfl)) (fun _ _ _ h => h) (Or.inl ⟨by rfl, ?_⟩) ?_ ?_
          rotate_left
          ·intro w'
           go_simp
           with_reducible rfl
          rotate_left
          ·simp only [Act.put, List.setIfInBounds_toArray, List.set_cons_zero, List.set_cons_succ, i64_w, i32_w]
           rfl
          refine take_ (i := 3) (N := some 68) (v := ?_) (a' := ?_) #[true, true, true, true, false, false, false, false, false, false, false, false, false, false, false, false, false, false, false, false, false, false, false, false, false, false, false, false, false, false, false] rfl rfl (take_ofW HT_.out HW_.out (by kernel_rfl)) (fun _ _ _ h => h) (Or.inl ⟨by rfl, ?_⟩) hHeld ?_ ?_
          rotate_left
          ·rintro w' ⟨s0, s1, s2, s3, s4, s5, s6, s7⟩
           go_simp
           with_reducible rfl
          rotate_left
          ·simp only [Act.put, List.setIfInBounds_toArray, List.set_cons_zero, List.set_cons_succ, i64_w, i32_w]
           rfl
          refine pure_ (i := 4) (N := some 69) (v := ?_) (a' := ?_) #[true, true, true, true, true, false, false, false, false, false, false, false, false, false, false, false, false, false, false, false, false, false, false, false, false, false, false, false, false, false, false] rfl rfl (any_of HT_.out (by kernel_rfl)) (fun _ _ _ h => h) (Or.inl ⟨by rfl, ?_⟩) ?_ ?_
          rotate_left
          ·intro w'
           go_simp
           with_reducible rfl
          rotate_left
          ·simp only [Act.put, List.setIfInBounds_toArray, List.set_cons_zero, List.set_cons_succ, i64_w, i32_w]
           rfl
          refine pure_ (i := 5) (N := some 70) (v := undef) (a' := ?_) #[true, true, true, true, true, true, false, false, false, false, false, false, false, false, false, false, false, false, false, false, false, false, false, false, false, false, false, false, false, false, false] rfl rfl (any_of HT_.out (by kernel_rfl)) (fun _ _ _ h => h) (Or.inr ⟨by rfl, rfl⟩) ?_ ?_
          rotate_left
          ·simp only [Act.put, List.setIfInBounds_toArray, List.set_cons_zero, List.set_cons_succ, i64_w, i32_w]
           rfl
          refine pure_ (i := 6) (N := some 71) (v := undef) (a' := ?_) #[true, true, true, true, true, true, true, false, false, false, false, false, false, false, false, false, false, false, false, false, false, false, false, false, false, false, false, false, false, false, false] rfl rfl (any_of HT_.out (by kernel_rfl)) (fun _ _ _ h => h) (Or.inr ⟨by rfl, rfl⟩) ?_ ?_
          rotate_left
          ·simp only [Act.put, List.setIfInBounds_toArray, List.set_cons_zero, List.set_cons_succ, i64_w, i32_w]
           rfl
          refine pure_ (i := 7) (N := some 72) (v := undef) (a' := ?_) #[true, true, true, true, true, true, true, true, false, false, false, false, false, false, false, false, false, false, false, false, false, false, false, false, false, false, false, false, false, false, false] rfl rfl (any_of HT_.out (by kernel_rfl)) (fun _ _ _ h => h) (Or.inr ⟨by rfl, rfl⟩) ?_ ?_
          rotate_left
          ·simp only [Act.put, List.setIfInBounds_toArray, List.set_cons_zero, List.set_cons_succ, i64_w, i32_w]
           rfl
          refine pure_ (i := 8) (N := some 73) (v := undef) (a' := ?_) #[true, true, true, true, true, true, true, true, true, false, false, false, false, false, false, false, false, false, false, false, false, false, false, false, false, false, false, false, false, false, false] rfl rfl (any_of HT_.out (by kernel_rfl)) (fun _ _ _ h => h) (Or.inr ⟨by rfl, rfl⟩) ?_ ?_
          rotate_left
          ·simp only [Act.put, List.setIfInBounds_toArray, List.set_cons_zero, List.set_cons_succ, i64_w, i32_w]
           rfl
          refine pure_ (i := 9) (N := some 74) (v := undef) (a' := ?_) #[true, true, true, true, true, true, true, true, true, true, false, false, false, false, false, false, false, false, false, false, false, false, false, false, false, false, false, false, false, false, false] rfl rfl (any_of HT_.out (by kernel_rfl)) (fun _ _ _ h => h) (Or.inr ⟨by rfl, rfl⟩) ?_ ?_
          rotate_left
          ·simp only [Act.put, List.setIfInBounds_toArray, List.set_cons_zero, List.set_cons_succ, i64_w, i32_w]
           rfl
          refine pure_ (i := 10) (N := some 75) (v := undef) (a' := ?_) #[true, true, true, true, true, true, true, true, true, true, true, false, false, false, false, false, false, false, false, false, false, false, false, false, false, false, false, false, false, false, false] rfl rfl (any_of HT_.out (by kernel_rfl)) (fun _ _ _ h => h) (Or.inr ⟨by rfl, rfl⟩) ?_ ?_
          rotate_left
          ·simp only [Act.put, List.setIfInBounds_toArray, List.set_cons_zero, List.set_cons_succ, i64_w, i32_w]
           rfl
          refine pure_ (i := 11) (N := some 76) (v := undef) (a' := ?_) #[true, true, true, true, true, true, true, true, true, true, true, true, false, false, false, false, false, false, false, false, false, false, false, false, false, false, false, false, false, false, false] rfl rfl (any_of HT_.out (by kernel_rfl)) (fun _ _ _ h => h) (Or.inr ⟨by rfl, rfl⟩) ?_ ?_
          rotate_left
          ·simp only [Act.put, List.setIfInBounds_toArray, List.set_cons_zero, List.set_cons_succ, i64_w, i32_w]
           rfl
          refine pure_ (i := 12) (N := some 77) (v := undef) (a' := ?_) #[true, true, true, true, true, true, true, true, true, true, true, true, true, false, false, false, false, false, false, false, false, false, false, false, false, false, false, false, false, false, false] rfl rfl (any_of HT_.out (by kernel_rfl)) (fun _ _ _ h => h) (Or.inr ⟨by rfl, rfl⟩) ?_ ?_
          rotate_left
          ·simp only [Act.put, List.setIfInBounds_toArray, List.set_cons_zero, List.set_cons_succ, i64_w, i32_w]
           rfl
          refine pure_ (i := 13) (N := some 78) (v := undef) (a' := ?_) #[true, true, true, true, true, true, true, true, true, true, true, true, true, true, false, false, false, false, false, false, false, false, false, false, false, false, false, false, false, false, false] rfl rfl (any_of HT_.out (by kernel_rfl)) (fun _ _ _ h => h) (Or.inr ⟨by rfl, rfl⟩) ?_ ?_
          rotate_left
          ·simp only [Act.put, List.setIfInBounds_toArray, List.set_cons_zero, List.set_cons_succ, i64_w, i32_w]
           rfl
          refine pure_ (i := 14) (N := some 79) (v := undef) (a' := ?_) #[true, true, true, true, true, true, true, true, true, true, true, true, true, true, true, false, false, false, false, false, false, false, false, false, false, false, false, false, false, false, false] rfl rfl (any_of HT_.out (by kernel_rfl)) (fun _ _ _ h => h) (Or.inr ⟨by rfl, rfl⟩) ?_ ?_
          rotate_left
          ·simp only [Act.put, List.setIfInBounds_toArray, List.set_cons_zero, List.set_cons_succ, i64_w, i32_w]
           rfl
          refine pure_ (i := 15) (N := some 80) (v := ?_) (a' := ?_) #[true, true, true, true, true, true, true, true, true, true, true, true, true, true, true, true, false, false, false, false, false, false, false, false, false, false, false, false, false, false, false] rfl rfl (any_of HT_.out (by kernel_rfl)) (fun _ _ _ h => h) (Or.inl ⟨by rfl, ?_⟩) ?_ ?_
          rotate_left
          ·intro w'
           go_simp
           with_reducible rfl
          rotate_left
          ·simp only [Act.put, List.setIfInBounds_toArray, List.set_cons_zero, List.set_cons_succ, i64_w, i32_w]
           rfl
          refine pure_ (i := 16) (N := some 81) (v := ?_) (a' := ?_) #[true, true, true, true, true, true, true, true, true, true, true, true, true, true, true, true, true, false, false, false, false, false, false, false, false, false, false, false, false, false, false] rfl rfl (any_of HT_.out (by kernel_rfl)) (fun _ _ _ h => h) (Or.inl ⟨by rfl, ?_⟩) ?_ ?_
          rotate_left
          ·intro w'
           go_simp
           with_reducible rfl
          rotate_left
          ·simp only [Act.put, List.setIfInBounds_toArray, List.set_cons_zero, List.set_cons_succ, i64_w, i32_w]
           rfl
          refine pure_ (i := 17) (N := some 82) (v := ?_) (a' := ?_) #[true, true, true, true, true, true, true, true, true, true, true, true, true, true, true, true, true, true, false, false, false, false, false, false, false, false, false, false, false, false, false] rfl rfl (any_of HT_.out (by kernel_rfl)) (fun _ _ _ h => h) (Or.inl ⟨by rfl, ?_⟩) ?_ ?_
          rotate_left
          ·intro w'
           go_simp
           with_reducible rfl
          rotate_left
          ·simp only [Act.put, List.setIfInBounds_toArray, List.set_cons_zero, List.set_cons_succ, i64_w, i32_w]
           rfl
          refine pure_ (i := 18) (N := some 83) (v := ?_) (a' := ?_) #[true, true, true, true, true, true, true, true, true, true, true, true, true, true, true, true, true, true, true, false, false, false, false, false, false, false, false, false, false, false, false] rfl rfl (any_of HT_.out (by kernel_rfl)) (fun _ _ _ h => h) (Or.inl ⟨by rfl, ?_⟩) ?_ ?_
          rotate_left
          ·intro w'
           go_simp
           with_reducible rfl
          rotate_left
          ·simp only [Act.put, List.setIfInBounds_toArray, List.set_cons_zero, List.set_cons_succ, i64_w, i32_w]
           rfl
          refine pure_ (i := 19) (N := some 84) (v := ?_) (a' := ?_) #[true, true, true, true, true, true, true, true, true, true, true, true, true, true, true, true, true, true, true, true, false, false, false, false, false, false, false, false, false, false, false] rfl rfl (any_of HT_.out (by kernel_rfl)) (fun _ _ _ h => h) (Or.inl ⟨by rfl, ?_⟩) ?_ ?_
          rotate_left
          ·intro w'
           go_simp
           with_reducible rfl
          rotate_left
          ·simp only [Act.put, List.setIfInBounds_toArray, List.set_cons_zero, List.set_cons_succ, i64_w, i32_w]
           rfl
          refine take_ (i := 20) (N := some 85) (v := ?_) (a' := ?_) #[true, true, true, true, true, true, true, true, true, true, true, true, true, true, true, true, true, true, true, true, true, false, false, false, false, false, false, false, false, false, false] rfl rfl (take_ofW HT_.out HW_.out (by kernel_rfl)) (fun _ _ _ h => h) (Or.inl ⟨by rfl, ?_⟩) hHeld ?_ ?_
          rotate_left
          ·rintro w' ⟨s0, s1, s2, s3, s4, s5, s6, s7⟩
           go_simp
           with_reducible rfl
          rotate_left
          ·simp only [Act.put, List.setIfInBounds_toArray, List.set_cons_zero, List.set_cons_succ, i64_w, i32_w]
           rfl
          refine pure_ (i := 21) (N := some 86) (v := ?_) (a' := ?_) #[true, true, true, true, true, true, true, true, true, true, true, true, true, true, true, true, true, true, true, true, true, true, false, false, false, false, false, false, false, false, false] rfl rfl (any_of HT_.out (by kernel_rfl)) (fun _ _ _ h => h) (Or.inl ⟨by rfl, ?_⟩) ?_ ?_
          rotate_left
          ·intro w'
           go_simp
           with_reducible rfl
          rotate_left
          ·simp only [Act.put, List.setIfInBounds_toArray, List.set_cons_zero, List.set_cons_succ, i64_w, i32_w]
           rfl
          refine pure_ (i := 22) (N := some 87) (v := ?_) (a' := ?_) #[true, true, true, true, true, true, true, true, true, true, true, true, true, true, true, true, true, true, true, true, true, true, true, false, false, false, false, false, false, false, false] rfl rfl (any_of HT_.out (by kernel_rfl)) (fun _ _ _ h => h) (Or.inl ⟨by rfl, ?_⟩) ?_ ?_
          rotate_left
          ·intro w'
           go_simp
           with_reducible rfl
          rotate_left
          ·simp only [Act.put, List.setIfInBounds_toArray, List.set_cons_zero, List.set_cons_succ, i64_w, i32_w]
           rfl
          refine pure_ (i := 23) (N := some 88) (v := ?_) (a' := ?_) #[true, true, true, true, true, true, true, true, true, true, true, true, true, true, true, true, true, true, true, true, true, true, true, true, false, false, false, false, false, false, false] rfl rfl (any_of HT_.out (by kernel_rfl)) (fun _ _ _ h => h) (Or.inl ⟨by rfl, ?_⟩) ?_ ?_
          rotate_left
          ·intro w'
           go_simp
           with_reducible rfl
          rotate_left
          ·simp only [Act.put, List.setIfInBounds_toArray, List.set_cons_zero, List.set_cons_succ, i64_w, i32_w]
           rfl
          refine pure_ (i := 24) (N := some 89) (v := ?_) (a' := ?_) #[true, true, true, true, true, true, true, true, true, true, true, true, true, true, true, true, true, true, true, true, true, true, true, true, true, false, false, false, false, false, false] rfl rfl (any_of HT_.out (by kernel_rfl)) (fun _ _ _ h => h) (Or.inl ⟨by rfl, ?_⟩) ?_ ?_
          rotate_left
          ·intro w'
           go_simp
           with_reducible rfl
          rotate_left
          ·simp only [Act.put, List.setIfInBounds_toArray, List.set_cons_zero, List.set_cons_succ, i64_w, i32_w]
           rfl
          refine pure_ (i := 25) (N := some 90) (v := ?_) (a' := ?_) #[true, true, true, true, true, true, true, true, true, true, true, true, true, true, true, true, true, true, true, true, true, true, true, true, true, true, false, false, false, false, false] rfl rfl (any_of HT_.out (by kernel_rfl)) (fun _ _ _ h => h) (Or.inl ⟨by rfl, ?_⟩) ?_ ?_
          rotate_left
          ·intro w'
           go_simp
           with_reducible rfl
          rotate_left
          ·simp only [Act.put, List.setIfInBounds_toArray, List.set_cons_zero, List.set_cons_succ, i64_w, i32_w]
           rfl
          refine take_ (i := 26) (N := some 91) (v := ?_) (a' := ?_) #[true, true, true, true, true, true, true, true, true, true, true, true, true, true, true, true, true, true, true, true, true, true, true, true, true, true, true, false, false, false, false] rfl rfl (take_ofW HT_.out HW_.out (by kernel_rfl)) (fun _ _ _ h => h) (Or.inl ⟨by rfl, ?_⟩) hHeld ?_ ?_
          rotate_left
          ·rintro w' ⟨s0, s1, s2, s3, s4, s5, s6, s7⟩
           go_simp
           with_reducible rfl
          rotate_left
          ·simp only [Act.put, List.setIfInBounds_toArray, List.set_cons_zero, List.set_cons_succ, i64_w, i32_w]
           rfl
          refine one_ (i := 27) (N := some 92) #[true, true, true, true, true, true, true, true, true, true, true, true, true, true, true, true, true, true, true, true, true, true, true, true, true, true, true, true, false, false, false] rfl rfl (one_of HT_.out (by kernel_rfl)) (by decide) (fun K hK => ?_)
          refine goes_ Tryd.func25 (by kernel_rfl) rfl #[.int .i64 4] (by rfl) rfl rfl (by (try simp only [List.map_toArray, List.map_cons, List.map_nil]); first | done | rfl | (simp only [List.length_drop, List.length_take]; rfl)) ?_
          with_reducible refine (value_Fault.calls 4 t1433 t1434 t1435 t1436 t1437 t1438 _ A98.out).mono ?_
          rintro e w103 ⟨rfl, hb⟩
          have HS0_ := (hb.cell (World.block_lt_of_cell? _ _ (hHeld.1))).trans (hHeld.1)
          have HS1_ := (hb.cell (World.block_lt_of_cell? _ _ (hHeld.2.1))).trans (hHeld.2.1)
          have HS2_ := (hb.cell (World.block_lt_of_cell? _ _ (hHeld.2.2.1))).trans (hHeld.2.2.1)
          have HS3_ := (hb.cell (World.block_lt_of_cell? _ _ (hHeld.2.2.2.1))).trans (hHeld.2.2.2.1)
          have HS4_ := (hb.cell (World.block_lt_of_cell? _ _ (hHeld.2.2.2.2.1))).trans (hHeld.2.2.2.2.1)
          have HS5_ := (hb.cell (World.block_lt_of_cell? _ _ (hHeld.2.2.2.2.2.1))).trans (hHeld.2.2.2.2.2.1)
          have HS6_ := (hb.cell (World.block_lt_of_cell? _ _ (hHeld.2.2.2.2.2.2.1))).trans (hHeld.2.2.2.2.2.2.1)
          have HS7_ := (hb.cell (World.block_lt_of_cell? _ _ (hHeld.2.2.2.2.2.2.2))).trans (hHeld.2.2.2.2.2.2.2)
          refine ⟨_, rfl, ?_⟩
          have n0_ := Aside0.mk (Boxes.below (by (with_reducible repeat (first | apply boxes_drewN | apply boxes_drew | apply boxes_alloc)); exact BX.out) hb)
          have n1_ := Aside0.mk (Kd.R_below (by (with_reducible repeat (first | apply Kd.R_alloc | apply Kd.R_drewN | apply Kd.R_drew)); exact HO_13.out) hb)
          have n2_ := Aside0.mk (Kd.R_below (by (with_reducible repeat (first | apply Kd.R_alloc | apply Kd.R_drewN | apply Kd.R_drew)); exact HO_14.out) hb)
          have n3_ := Aside0.mk (Kd.R_below (by (with_reducible repeat (first | apply Kd.R_alloc | apply Kd.R_drewN | apply Kd.R_drew)); exact HO_15.out) hb)
          have n4_ := Aside0.mk (below_step (by repeat (first | (with_reducible first | exact HB.out | apply below_alloc | apply pw_below_drewN | apply below_drew1 | refine below_set ?_ (Aside0.out (by assumption))) | exact HB.out)) hb)
          clear BX HO_13 HO_14 HO_15 HB
          have BX := n0_
          have HO_13 := n1_
          have HO_14 := n2_
          have HO_15 := n3_
          have HB := n4_
          clear n0_ n1_ n2_ n3_ n4_
          (try clear hb)
          (try clear hb2)
          (try clear hk)
          (try clear hi)
          refine hK.out _ _ ⟨HS0_, HS1_, HS2_, HS3_, HS4_, HS5_, HS6_, HS7_⟩ (fun hHeld => ?_)
          clear hK K
          refine norm_ (a' := ?_) ?_ ?_
          rotate_left
          ·show Act.put _ (some 92) _ = _
           simp only [Act.put, List.setIfInBounds_toArray, List.set_cons_zero, List.set_cons_succ, i64_w, i32_w]
           rfl
          refine pure_ (i := 28) (N := some 93) (v := ?_) (a' := ?_) #[true, true, true, true, true, true, true, true, true, true, true, true, true, true, true, true, true, true, true, true, true, true, true, true, true, true, true, true, true, false, false] rfl rfl (any_of HT_.out (by kernel_rfl)) (fun _ _ _ h => h) (Or.inl ⟨by rfl, ?_⟩) ?_ ?_
          rotate_left
          ·intro w'
           go_simp
           with_reducible rfl
          rotate_left
          ·simp only [Act.put, List.setIfInBounds_toArray, List.set_cons_zero, List.set_cons_succ, i64_w, i32_w]
           rfl
          refine pure_ (i := 29) (N := some 94) (v := ?_) (a' := ?_) #[true, true, true, true, true, true, true, true, true, true, true, true, true, true, true, true, true, true, true, true, true, true, true, true, true, true, true, true, true, true, false] rfl rfl (any_of HT_.out (by kernel_rfl)) (fun _ _ _ h => h) (Or.inl ⟨by rfl, ?_⟩) ?_ ?_
          rotate_left
          ·intro w'
           go_simp
           with_reducible rfl
          rotate_left
          ·simp only [Act.put, List.setIfInBounds_toArray, List.set_cons_zero, List.set_cons_succ, i64_w, i32_w]
           rfl
          refine pure_ (i := 30) (N := some 95) (v := ?_) (a' := ?_) #[true, true, true, true, true, true, true, true, true, true, true, true, true, true, true, true, true, true, true, true, true, true, true, true, true, true, true, true, true, true, true] rfl rfl (any_of HT_.out (by kernel_rfl)) (fun _ _ _ h => h) (Or.inl ⟨by rfl, ?_⟩) ?_ ?_
          rotate_left
          ·intro w'
           go_simp
           with_reducible rfl
          rotate_left
          ·simp only [Act.put, List.setIfInBounds_toArray, List.set_cons_zero, List.set_cons_succ, i64_w, i32_w]
           rfl
          refine done_ (done_of HT_.out (by kernel_rfl)) ?_
          try go_wp2
          go_roundg k1
          case measure => have := HK1.out; omega
          case rel => exact ⟨(wrap64 (x16_1 + 1)), (by first | rfl | (simp; done) | (simp [*]; done) | (simp [bne_nil]; done)), H', ⟨by have := HK1.out; omega⟩, ⟨by (with_reducible repeat (first | apply Kd.R_alloc | apply Kd.R_drewN | apply Kd.R_drew)); exact HO_13.out⟩, ⟨by (with_reducible repeat (first | apply Kd.R_alloc | apply Kd.R_drewN | apply Kd.R_drew)); exact HO_14.out⟩, ⟨by (with_reducible repeat (first | apply Kd.R_alloc | apply Kd.R_drewN | apply Kd.R_drew)); exact HO_15.out⟩, ⟨by (with_reducible repeat (first | apply boxes_drewN | apply boxes_drew | apply boxes_alloc)); exact BX.out⟩, ⟨by repeat (first | (with_reducible first | exact HB.out | apply below_alloc | apply pw_below_drewN | apply below_drew1 | refine below_set ?_ (Aside0.out (by assumption))) | exact HB.out)⟩⟩
        ·rw [if_neg c97] at H
         exact absurd H (by simp)
      ·rw [if_neg c85] at H
       exact absurd H (by simp)
     ·rw [if_neg c84] at H
      exact absurd H (by simp)
    ·rw [if_neg c83] at H
     have c83b0 : decide (x16_1 < 3) = false := decide_eq_false c83
     clear c83
     replace H := Option.bind_eq_some_iff.mp H
     obtain ⟨⟨t1439, t1440, t1441, t1442, t1443, t1444, t1445, t1446⟩, A1040, H⟩ := H
     have A104 := Aside0.mk A1040
     clear A1040
     replace H := Option.bind_eq_some_iff.mp H
     obtain ⟨⟨t1449, t1450, t1451, t1452, t1453, t1454⟩, A1050, H⟩ := H
     have A105 := Aside0.mk A1050
     clear A1050
     replace H := Option.bind_eq_some_iff.mp H
     obtain ⟨⟨t1455, t1456⟩, A1060, H⟩ := H
     have A106 := Aside0.mk A1060
     clear A1060
     replace H := Option.bind_eq_some_iff.mp H
     obtain ⟨⟨t1457, t1458, t1459, t1460, t1461, t1462⟩, A1070, H⟩ := H
     replace H : (if (t1449 == t1457 && ((t1450 == t1458 && (t1451 == t1459)) && (t1452.toList == t1460.toList && (t1453 == t1461 && (t1454 == t1462))))) = true then (if (t1441 == 0 && ((t1442 == 0 && (t1443 == 0)) && (t1444.toList == ([] : List UInt8) && (!t1445 && (t1446 == 0))))) = true then ((value_Number.f k1 t1439 t1440).bind fun bt1463 => (some (bt1463.1 == t1368 && ((bt1463.2.1 == t1369 && (bt1463.2.2.1 == t1370)) && (bt1463.2.2.2.1.toList == t1371.toList && (bt1463.2.2.2.2.1 == t1372 && (bt1463.2.2.2.2.2 == t1373))))))) else (some false)) else (some false)) = some r := H
     have A107 := Aside0.mk A1070
     clear A1070
     by_cases c108 : (t1449 == t1457 && ((t1450 == t1458 && (t1451 == t1459)) && (t1452.toList == t1460.toList && (t1453 == t1461 && (t1454 == t1462))))) = true
     ·rw [if_pos c108] at H
      have c108b0 : (t1449 == t1457 && ((t1450 == t1458 && (t1451 == t1459)) && (t1452.toList == t1460.toList && (t1453 == t1461 && (t1454 == t1462))))) = true := c108
      (try (have c108b1 : decide (t1449 = t1457 && ((t1450 == t1458 && (t1451 == t1459)) && (t1452.toList == t1460.toList && (t1453 == t1461 && (t1454 == t1462))))) = true := by simpa using c108))
      (try (have c108b2 : (t1449 == t1457 && ((t1450 == t1458 && (t1451 == t1459)) && (t1452.toList == t1460.toList && (t1453 == t1461 && (t1454 == t1462))))) = true := by simpa using c108))
      clear c108
      by_cases c109 : (t1441 == 0 && ((t1442 == 0 && (t1443 == 0)) && (t1444.toList == ([] : List UInt8) && (!t1445 && (t1446 == 0))))) = true
      ·rw [if_pos c109] at H
       have c109b0 : (t1441 == 0 && ((t1442 == 0 && (t1443 == 0)) && (t1444.toList == ([] : List UInt8) && (!t1445 && (t1446 == 0))))) = true := c109
       have c109be : (t1441 == 0 && ((t1442 == 0 && (t1443 == 0)) && (t1444.toList.isEmpty && (!t1445 && (t1446 == 0))))) = true := by have h_ := c109b0; simp only [beq_nil] at h_; exact h_
       (try (have c109b1 : decide (t1441 = 0 && ((t1442 == 0 && (t1443 == 0)) && (t1444.toList == ([] : List UInt8) && (!t1445 && (t1446 == 0))))) = true := by simpa using c109))
       (try (have c109b2 : (t1441 == 0 && ((t1442 == 0 && (t1443 == 0)) && (t1444.toList == ([] : List UInt8) && (!t1445 && (t1446 == 0))))) = true := by simpa using c109))
       clear c109
       replace H := Option.bind_eq_some_iff.mp H
       obtain ⟨⟨t1463, t1464, t1465, t1466, t1467, t1468⟩, A1100, H⟩ := H
       replace H : (some (t1463 == t1368 && ((t1464 == t1369 && (t1465 == t1370)) && (t1466.toList == t1371.toList && (t1467 == t1372 && (t1468 == t1373)))))) = some r := H
       have A110 := Aside0.mk A1100
       clear A1100
       clear HR
       obtain rfl := Option.some.inj H
       have hnb111 := (BX.out.ne 4 6 rfl rfl (by decide))
       have hnc111 := (BX.out.ne 6 4 rfl rfl (by decide))
       have hnb112 := (BX.out.ne 4 5 rfl rfl (by decide))
       have hnc112 := (BX.out.ne 5 4 rfl rfl (by decide))
       have hnb113 := (BX.out.ne 4 3 rfl rfl (by decide))
       have hnc113 := (BX.out.ne 3 4 rfl rfl (by decide))
       have hnb114 := (BX.out.ne 4 2 rfl rfl (by decide))
       have hnc114 := (BX.out.ne 2 4 rfl rfl (by decide))
       have hnb115 := (BX.out.ne 4 1 rfl rfl (by decide))
       have hnc115 := (BX.out.ne 1 4 rfl rfl (by decide))
       have hnb116 := (BX.out.ne 4 0 rfl rfl (by decide))
       have hnc116 := (BX.out.ne 0 4 rfl rfl (by decide))
       have hcz117_0 : wr.cell? ⟨gb1380, 0, none⟩ = some (.int .i64 t1368) := (blk_cell (BX.out.get 4 rfl) 0).trans rfl
       have hcz117_1 : wr.cell? ⟨gb1380, 1, none⟩ = some (.int .i64 t1369) := (blk_cell (BX.out.get 4 rfl) 1).trans rfl
       have hcz117_2 : wr.cell? ⟨gb1380, 2, none⟩ = some (.int .i64 t1370) := (blk_cell (BX.out.get 4 rfl) 2).trans rfl
       have hcz117_3 : wr.cell? ⟨gb1380, 3, none⟩ = some (.string t1371) := (blk_cell (BX.out.get 4 rfl) 3).trans rfl
       have hcz117_4 : wr.cell? ⟨gb1380, 4, none⟩ = some (.bool t1372) := (blk_cell (BX.out.get 4 rfl) 4).trans rfl
       have hcz117_5 : wr.cell? ⟨gb1380, 5, none⟩ = some (.int .i64 t1373) := (blk_cell (BX.out.get 4 rfl) 5).trans rfl
       have hfz117_0 := blk_frozen (BX.out.get 4 rfl) 0
       have hfz117_1 := blk_frozen (BX.out.get 4 rfl) 1
       have hfz117_2 := blk_frozen (BX.out.get 4 rfl) 2
       have hfz117_3 := blk_frozen (BX.out.get 4 rfl) 3
       have hfz117_4 := blk_frozen (BX.out.get 4 rfl) 4
       have hfz117_5 := blk_frozen (BX.out.get 4 rfl) 5
       try go_wp2_with (first | ((with_reducible refine gate_callee (f := 37) rfl ?_); refine goesL_ (some 98) rfl rfl Tryd.func37 (by kernel_rfl) rfl #[.agg #[.int .i64 t1368, .int .i64 t1369, .int .i64 t1370, .string t1371, .bool t1372, .int .i64 t1373]] rfl (by (try simp only [List.map_toArray, List.map_cons, List.map_nil]); first | done | rfl | (simp only [List.length_drop, List.length_take]; rfl)) ?_; (with_reducible refine (value_AsNumber.calls k1 t1368 t1369 t1370 t1371 t1372 t1373 t1439 t1440 t1441 t1442 t1443 t1444 t1445 t1446 _ A104.out).mono ?_); rintro e w118 ⟨rfl, hb⟩; refine ⟨_, rfl, ?_⟩; have n0_ := Aside0.mk (Boxes.below (by (with_reducible repeat (first | apply boxes_drewN | apply boxes_drew | apply boxes_alloc)); exact BX.out) hb); have n1_ := Aside0.mk (Kd.R_below (by (with_reducible repeat (first | apply Kd.R_alloc | apply Kd.R_drewN | apply Kd.R_drew)); exact HO_13.out) hb); have n2_ := Aside0.mk (Kd.R_below (by (with_reducible repeat (first | apply Kd.R_alloc | apply Kd.R_drewN | apply Kd.R_drew)); exact HO_14.out) hb); have n3_ := Aside0.mk (Kd.R_below (by (with_reducible repeat (first | apply Kd.R_alloc | apply Kd.R_drewN | apply Kd.R_drew)); exact HO_15.out) hb); have n4_ := Aside0.mk (below_step (by repeat (first | (with_reducible first | exact HB.out | apply below_alloc | apply pw_below_drewN | apply below_drew1 | refine below_set ?_ (Aside0.out (by assumption))) | exact HB.out)) hb); clear BX HO_13 HO_14 HO_15 HB; have BX := n0_; have HO_13 := n1_; have HO_14 := n2_; have HO_15 := n3_; have HB := n4_; clear n0_ n1_ n2_ n3_ n4_; (try clear hb); (try clear hb2); (try clear hk); (try clear hi)) | ((with_reducible refine gate_dst (N := 17) rfl ?_); refine box_event ?hg (N := 17) ?hd (cs := #[.int .i64 0, .int .i64 0]) (t := 23) ?hr ?_; (case hd => rfl); (case hg => rfl); (case hr => first | (go_simp; done) | (go_simp; rfl)); intro gb1447 hg w119 hbox hb; have n0_ := Aside0.mk (Boxes.new (by (with_reducible repeat (first | apply boxes_drewN | apply boxes_drew | apply boxes_alloc)); exact BX.out) hg hbox hb (below_size (by repeat (first | (with_reducible first | exact HB.out | apply below_alloc | apply pw_below_drewN | apply below_drew1 | refine below_set ?_ (Aside0.out (by assumption))) | exact HB.out)))); have n1_ := Aside0.mk (Kd.R_below (by (with_reducible repeat (first | apply Kd.R_alloc | apply Kd.R_drewN | apply Kd.R_drew)); exact HO_13.out) hb); have n2_ := Aside0.mk (Kd.R_below (Kd.R_elderB (by (with_reducible repeat (first | apply Kd.R_alloc | apply Kd.R_drewN | apply Kd.R_drew)); exact HO_14.out) gb1447 (Nat.le_of_eq hg.symm)) hb); have n3_ := Aside0.mk (Kd.R_below (by (with_reducible repeat (first | apply Kd.R_alloc | apply Kd.R_drewN | apply Kd.R_drew)); exact HO_15.out) hb); have n4_ := Aside0.mk (below_step (by repeat (first | (with_reducible first | exact HB.out | apply below_alloc | apply pw_below_drewN | apply below_drew1 | refine below_set ?_ (Aside0.out (by assumption))) | exact HB.out)) hb); have n5_ := Aside0.mk ((by rw [hg]; exact (below_size (by repeat (first | (with_reducible first | exact HB.out | apply below_alloc | apply pw_below_drewN | apply below_drew1 | refine below_set ?_ (Aside0.out (by assumption))) | exact HB.out))) : w.heap.size ≤ gb1447)); clear BX HO_13 HO_14 HO_15 HB; have BX := n0_; have HO_13 := n1_; have HO_14 := n2_; have HO_15 := n3_; have HB := n4_; have GE1447 := n5_; clear n0_ n1_ n2_ n3_ n4_ n5_; clear hb hbox hg) | ((with_reducible refine gate_dst (N := 18) rfl ?_); refine box_event ?hg (N := 18) ?hd (cs := #[.int .i64 0, .int .i64 0, .int .i64 0, .string (⟨#[]⟩ : ByteArray), .bool false, .int .i64 0]) (t := 25) ?hr ?_; (case hd => rfl); (case hg => rfl); (case hr => first | (go_simp; done) | (go_simp; rfl)); intro gb1448 hg w120 hbox hb; have n0_ := Aside0.mk (Boxes.new (by (with_reducible repeat (first | apply boxes_drewN | apply boxes_drew | apply boxes_alloc)); exact BX.out) hg hbox hb (below_size (by repeat (first | (with_reducible first | exact HB.out | apply below_alloc | apply pw_below_drewN | apply below_drew1 | refine below_set ?_ (Aside0.out (by assumption))) | exact HB.out)))); have n1_ := Aside0.mk (Kd.R_below (Kd.R_elderB (by (with_reducible repeat (first | apply Kd.R_alloc | apply Kd.R_drewN | apply Kd.R_drew)); exact HO_13.out) gb1448 (Nat.le_of_eq hg.symm)) hb); have n2_ := Aside0.mk (Kd.R_below (by (with_reducible repeat (first | apply Kd.R_alloc | apply Kd.R_drewN | apply Kd.R_drew)); exact HO_14.out) hb); have n3_ := Aside0.mk (Kd.R_below (by (with_reducible repeat (first | apply Kd.R_alloc | apply Kd.R_drewN | apply Kd.R_drew)); exact HO_15.out) hb); have n4_ := Aside0.mk (below_step (by repeat (first | (with_reducible first | exact HB.out | apply below_alloc | apply pw_below_drewN | apply below_drew1 | refine below_set ?_ (Aside0.out (by assumption))) | exact HB.out)) hb); have n5_ := Aside0.mk ((by rw [hg]; exact (below_size (by repeat (first | (with_reducible first | exact HB.out | apply below_alloc | apply pw_below_drewN | apply below_drew1 | refine below_set ?_ (Aside0.out (by assumption))) | exact HB.out))) : w.heap.size ≤ gb1448)); clear BX HO_13 HO_14 HO_15 HB; have BX := n0_; have HO_13 := n1_; have HO_14 := n2_; have HO_15 := n3_; have HB := n4_; have GE1448 := n5_; clear n0_ n1_ n2_ n3_ n4_ n5_; clear hb hbox hg; have hnb121 := (BX.out.ne 1 8 rfl rfl (by decide)); have hnc121 := (BX.out.ne 8 1 rfl rfl (by decide)); have hnb122 := (BX.out.ne 1 7 rfl rfl (by decide)); have hnc122 := (BX.out.ne 7 1 rfl rfl (by decide)); have hnb123 := (BX.out.ne 1 6 rfl rfl (by decide)); have hnc123 := (BX.out.ne 6 1 rfl rfl (by decide)); have hnb124 := (BX.out.ne 1 5 rfl rfl (by decide)); have hnc124 := (BX.out.ne 5 1 rfl rfl (by decide)); have hnb125 := (BX.out.ne 1 4 rfl rfl (by decide)); have hnc125 := (BX.out.ne 4 1 rfl rfl (by decide)); have hnb126 := (BX.out.ne 1 3 rfl rfl (by decide)); have hnc126 := (BX.out.ne 3 1 rfl rfl (by decide)); have hnb127 := (BX.out.ne 1 2 rfl rfl (by decide)); have hnc127 := (BX.out.ne 2 1 rfl rfl (by decide)); have hnb128 := (BX.out.ne 1 0 rfl rfl (by decide)); have hnc128 := (BX.out.ne 0 1 rfl rfl (by decide)); have hcz129_0 : w120.cell? ⟨gb1447, 0, none⟩ = some (.int .i64 0) := (blk_cell (BX.out.get 1 rfl) 0).trans rfl; have hcz129_1 : w120.cell? ⟨gb1447, 1, none⟩ = some (.int .i64 0) := (blk_cell (BX.out.get 1 rfl) 1).trans rfl; have hfz129_0 := blk_frozen (BX.out.get 1 rfl) 0; have hfz129_1 := blk_frozen (BX.out.get 1 rfl) 1; have hnb130 := (BX.out.ne 0 8 rfl rfl (by decide)); have hnc130 := (BX.out.ne 8 0 rfl rfl (by decide)); have hnb131 := (BX.out.ne 0 7 rfl rfl (by decide)); have hnc131 := (BX.out.ne 7 0 rfl rfl (by decide)); have hnb132 := (BX.out.ne 0 6 rfl rfl (by decide)); have hnc132 := (BX.out.ne 6 0 rfl rfl (by decide)); have hnb133 := (BX.out.ne 0 5 rfl rfl (by decide)); have hnc133 := (BX.out.ne 5 0 rfl rfl (by decide)); have hnb134 := (BX.out.ne 0 4 rfl rfl (by decide)); have hnc134 := (BX.out.ne 4 0 rfl rfl (by decide)); have hnb135 := (BX.out.ne 0 3 rfl rfl (by decide)); have hnc135 := (BX.out.ne 3 0 rfl rfl (by decide)); have hnb136 := (BX.out.ne 0 2 rfl rfl (by decide)); have hnc136 := (BX.out.ne 2 0 rfl rfl (by decide)); have hcz137_0 : w120.cell? ⟨gb1448, 0, none⟩ = some (.int .i64 0) := (blk_cell (BX.out.get 0 rfl) 0).trans rfl; have hcz137_1 : w120.cell? ⟨gb1448, 1, none⟩ = some (.int .i64 0) := (blk_cell (BX.out.get 0 rfl) 1).trans rfl; have hcz137_2 : w120.cell? ⟨gb1448, 2, none⟩ = some (.int .i64 0) := (blk_cell (BX.out.get 0 rfl) 2).trans rfl; have hcz137_3 : w120.cell? ⟨gb1448, 3, none⟩ = some (.string (⟨#[]⟩ : ByteArray)) := (blk_cell (BX.out.get 0 rfl) 3).trans rfl; have hcz137_4 : w120.cell? ⟨gb1448, 4, none⟩ = some (.bool false) := (blk_cell (BX.out.get 0 rfl) 4).trans rfl; have hcz137_5 : w120.cell? ⟨gb1448, 5, none⟩ = some (.int .i64 0) := (blk_cell (BX.out.get 0 rfl) 5).trans rfl; have hfz137_0 := blk_frozen (BX.out.get 0 rfl) 0; have hfz137_1 := blk_frozen (BX.out.get 0 rfl) 1; have hfz137_2 := blk_frozen (BX.out.get 0 rfl) 2; have hfz137_3 := blk_frozen (BX.out.get 0 rfl) 3; have hfz137_4 := blk_frozen (BX.out.get 0 rfl) 4; have hfz137_5 := blk_frozen (BX.out.get 0 rfl) 5))
       have n0_ : Aside0 (Boxes w.heap.size ((((((((w120.setCell ⟨gb1447, 0, none⟩ (.int .i64 t1439)).setCell ⟨gb1447, 1, none⟩ (.int .i64 t1440)).setCell ⟨gb1448, 0, none⟩ (.int .i64 t1441)).setCell ⟨gb1448, 1, none⟩ (.int .i64 t1442)).setCell ⟨gb1448, 2, none⟩ (.int .i64 t1443)).setCell ⟨gb1448, 3, none⟩ (.string t1444)).setCell ⟨gb1448, 4, none⟩ (.bool t1445)).setCell ⟨gb1448, 5, none⟩ (.int .i64 t1446)) ((gb1448, 25, #[.int .i64 t1441, .int .i64 t1442, .int .i64 t1443, .string t1444, .bool t1445, .int .i64 t1446]) :: (gb1447, 23, #[.int .i64 t1439, .int .i64 t1440]) :: _)) := ⟨by (with_reducible repeat (first | apply boxes_drewN | apply boxes_drew | apply boxes_alloc)); apply boxes_put 0; (with_reducible repeat (first | apply boxes_drewN | apply boxes_drew | apply boxes_alloc)); apply boxes_put 0; (with_reducible repeat (first | apply boxes_drewN | apply boxes_drew | apply boxes_alloc)); apply boxes_put 0; (with_reducible repeat (first | apply boxes_drewN | apply boxes_drew | apply boxes_alloc)); apply boxes_put 0; (with_reducible repeat (first | apply boxes_drewN | apply boxes_drew | apply boxes_alloc)); apply boxes_put 0; (with_reducible repeat (first | apply boxes_drewN | apply boxes_drew | apply boxes_alloc)); apply boxes_put 0; (with_reducible repeat (first | apply boxes_drewN | apply boxes_drew | apply boxes_alloc)); apply boxes_put 1; (with_reducible repeat (first | apply boxes_drewN | apply boxes_drew | apply boxes_alloc)); apply boxes_put 1; (with_reducible repeat (first | apply boxes_drewN | apply boxes_drew | apply boxes_alloc)); exact BX.out; (any_goals rfl)⟩
       have n1_ : Aside0 (Kd.R k25 25 ((((((((w120.setCell ⟨gb1447, 0, none⟩ (.int .i64 t1439)).setCell ⟨gb1447, 1, none⟩ (.int .i64 t1440)).setCell ⟨gb1448, 0, none⟩ (.int .i64 t1441)).setCell ⟨gb1448, 1, none⟩ (.int .i64 t1442)).setCell ⟨gb1448, 2, none⟩ (.int .i64 t1443)).setCell ⟨gb1448, 3, none⟩ (.string t1444)).setCell ⟨gb1448, 4, none⟩ (.bool t1445)).setCell ⟨gb1448, 5, none⟩ (.int .i64 t1446)) w.heap.size (fun k_ => k_ ≠ gb1380 ∧ k_ ≠ gb1381 ∧ k_ ≠ gb1448) v1413 y1412) := ⟨by (with_reducible repeat (first | apply Kd.R_alloc | apply Kd.R_drewN | apply Kd.R_drew)); exact Kd.R_mono (Kd.R_far (p := ⟨gb1448, 5, none⟩) (Kd.R_far (p := ⟨gb1448, 4, none⟩) (Kd.R_far (p := ⟨gb1448, 3, none⟩) (Kd.R_far (p := ⟨gb1448, 2, none⟩) (Kd.R_far (p := ⟨gb1448, 1, none⟩) (Kd.R_far (p := ⟨gb1448, 0, none⟩) (Kd.R_far (p := ⟨gb1447, 1, none⟩) (Kd.R_far (p := ⟨gb1447, 0, none⟩) (Kd.R_mono (Kd.R_types HO_13.out (BX.out.get 1 rfl) (by decide)) (fun k_ hk => (⟨hk, hk.1.2⟩ : _ ∧ k_ ≠ gb1448))) (fun _ hk => hk.1.2) (.int .i64 t1439)) (fun _ hk => hk.1.2) (.int .i64 t1440)) (fun _ hk => hk.2) (.int .i64 t1441)) (fun _ hk => hk.2) (.int .i64 t1442)) (fun _ hk => hk.2) (.int .i64 t1443)) (fun _ hk => hk.2) (.string t1444)) (fun _ hk => hk.2) (.bool t1445)) (fun _ hk => hk.2) (.int .i64 t1446)) (fun _ hk => ⟨hk.1.1.1.1, ⟨hk.1.1.1.2, hk.1.1.2⟩⟩)⟩
       have n2_ : Aside0 (Kd.R k23 23 ((((((((w120.setCell ⟨gb1447, 0, none⟩ (.int .i64 t1439)).setCell ⟨gb1447, 1, none⟩ (.int .i64 t1440)).setCell ⟨gb1448, 0, none⟩ (.int .i64 t1441)).setCell ⟨gb1448, 1, none⟩ (.int .i64 t1442)).setCell ⟨gb1448, 2, none⟩ (.int .i64 t1443)).setCell ⟨gb1448, 3, none⟩ (.string t1444)).setCell ⟨gb1448, 4, none⟩ (.bool t1445)).setCell ⟨gb1448, 5, none⟩ (.int .i64 t1446)) w.heap.size (fun k_ => k_ ≠ gb1365 ∧ k_ ≠ gb1366 ∧ k_ ≠ gb1385 ∧ k_ ≠ gb1389 ∧ k_ ≠ gb1393 ∧ k_ ≠ gb1447) v1416 y1415) := ⟨by (with_reducible repeat (first | apply Kd.R_alloc | apply Kd.R_drewN | apply Kd.R_drew)); exact Kd.R_mono (Kd.R_far (p := ⟨gb1448, 5, none⟩) (Kd.R_far (p := ⟨gb1448, 4, none⟩) (Kd.R_far (p := ⟨gb1448, 3, none⟩) (Kd.R_far (p := ⟨gb1448, 2, none⟩) (Kd.R_far (p := ⟨gb1448, 1, none⟩) (Kd.R_far (p := ⟨gb1448, 0, none⟩) (Kd.R_far (p := ⟨gb1447, 1, none⟩) (Kd.R_far (p := ⟨gb1447, 0, none⟩) (Kd.R_types (Kd.R_mono HO_14.out (fun k_ hk => (⟨hk, hk.2⟩ : _ ∧ k_ ≠ gb1447))) (BX.out.get 0 rfl) (by decide)) (fun _ hk => hk.1.2) (.int .i64 t1439)) (fun _ hk => hk.1.2) (.int .i64 t1440)) (fun _ hk => hk.2) (.int .i64 t1441)) (fun _ hk => hk.2) (.int .i64 t1442)) (fun _ hk => hk.2) (.int .i64 t1443)) (fun _ hk => hk.2) (.string t1444)) (fun _ hk => hk.2) (.bool t1445)) (fun _ hk => hk.2) (.int .i64 t1446)) (fun _ hk => ⟨hk.1.1.1.1, ⟨hk.1.1.1.2.1, ⟨hk.1.1.1.2.2.1, ⟨hk.1.1.1.2.2.2.1, ⟨hk.1.1.1.2.2.2.2, hk.1.1.2⟩⟩⟩⟩⟩)⟩
       have n3_ : Aside0 (Kd.R Kd.bool 4 ((((((((w120.setCell ⟨gb1447, 0, none⟩ (.int .i64 t1439)).setCell ⟨gb1447, 1, none⟩ (.int .i64 t1440)).setCell ⟨gb1448, 0, none⟩ (.int .i64 t1441)).setCell ⟨gb1448, 1, none⟩ (.int .i64 t1442)).setCell ⟨gb1448, 2, none⟩ (.int .i64 t1443)).setCell ⟨gb1448, 3, none⟩ (.string t1444)).setCell ⟨gb1448, 4, none⟩ (.bool t1445)).setCell ⟨gb1448, 5, none⟩ (.int .i64 t1446)) w.heap.size (fun _ => True) v1419 y1418) := ⟨by (with_reducible repeat (first | apply Kd.R_alloc | apply Kd.R_drewN | apply Kd.R_drew)); exact Kd.R_mono (Kd.R_far (p := ⟨gb1448, 5, none⟩) (Kd.R_far (p := ⟨gb1448, 4, none⟩) (Kd.R_far (p := ⟨gb1448, 3, none⟩) (Kd.R_far (p := ⟨gb1448, 2, none⟩) (Kd.R_far (p := ⟨gb1448, 1, none⟩) (Kd.R_far (p := ⟨gb1448, 0, none⟩) (Kd.R_far (p := ⟨gb1447, 1, none⟩) (Kd.R_far (p := ⟨gb1447, 0, none⟩) (Kd.R_types (Kd.R_types HO_15.out (BX.out.get 1 rfl) (by decide)) (BX.out.get 0 rfl) (by decide)) (fun _ hk => hk.1.2) (.int .i64 t1439)) (fun _ hk => hk.1.2) (.int .i64 t1440)) (fun _ hk => hk.2) (.int .i64 t1441)) (fun _ hk => hk.2) (.int .i64 t1442)) (fun _ hk => hk.2) (.int .i64 t1443)) (fun _ hk => hk.2) (.string t1444)) (fun _ hk => hk.2) (.bool t1445)) (fun _ hk => hk.2) (.int .i64 t1446)) (fun _ hk => trivial)⟩
       have n4_ : Aside0 (Below w.heap.size w ((((((((w120.setCell ⟨gb1447, 0, none⟩ (.int .i64 t1439)).setCell ⟨gb1447, 1, none⟩ (.int .i64 t1440)).setCell ⟨gb1448, 0, none⟩ (.int .i64 t1441)).setCell ⟨gb1448, 1, none⟩ (.int .i64 t1442)).setCell ⟨gb1448, 2, none⟩ (.int .i64 t1443)).setCell ⟨gb1448, 3, none⟩ (.string t1444)).setCell ⟨gb1448, 4, none⟩ (.bool t1445)).setCell ⟨gb1448, 5, none⟩ (.int .i64 t1446))) := ⟨by repeat (first | (with_reducible first | exact HB.out | apply below_alloc | apply pw_below_drewN | apply below_drew1 | refine below_set ?_ (Aside0.out (by assumption))) | exact HB.out)⟩
       (try clear BX)
       (try clear HO_13)
       (try clear HO_14)
       (try clear HO_15)
       (try clear HB)
       generalize ((((((((w120.setCell ⟨gb1447, 0, none⟩ (.int .i64 t1439)).setCell ⟨gb1447, 1, none⟩ (.int .i64 t1440)).setCell ⟨gb1448, 0, none⟩ (.int .i64 t1441)).setCell ⟨gb1448, 1, none⟩ (.int .i64 t1442)).setCell ⟨gb1448, 2, none⟩ (.int .i64 t1443)).setCell ⟨gb1448, 3, none⟩ (.string t1444)).setCell ⟨gb1448, 4, none⟩ (.bool t1445)).setCell ⟨gb1448, 5, none⟩ (.int .i64 t1446)) = w138 at n0_ n1_ n2_ n3_ n4_ ⊢
       have BX := n0_
       have HO_13 := n1_
       have HO_14 := n2_
       have HO_15 := n3_
       have HB := n4_
       clear n0_ n1_ n2_ n3_ n4_
       have n0_ := Aside0.mk (boxes_drew BX.out)
       have n1_ := Aside0.mk (Kd.R_drew HO_13.out)
       have n2_ := Aside0.mk (Kd.R_drew HO_14.out)
       have n3_ := Aside0.mk (Kd.R_drew HO_15.out)
       have n4_ := Aside0.mk (below_drew1 HB.out)
       clear BX HO_13 HO_14 HO_15 HB
       have BX := n0_
       have HO_13 := n1_
       have HO_14 := n2_
       have HO_15 := n3_
       have HB := n4_
       clear n0_ n1_ n2_ n3_ n4_
       refine start_ (n := 18) (S := fun w' => w'.cell? ⟨gb1380, 0, none⟩ = some (.int .i64 t1368) ∧ w'.cell? ⟨gb1380, 1, none⟩ = some (.int .i64 t1369) ∧ w'.cell? ⟨gb1380, 2, none⟩ = some (.int .i64 t1370) ∧ w'.cell? ⟨gb1380, 3, none⟩ = some (.string t1371) ∧ w'.cell? ⟨gb1380, 4, none⟩ = some (.bool t1372) ∧ w'.cell? ⟨gb1380, 5, none⟩ = some (.int .i64 t1373) ∧ w'.cell? ⟨gb1365, 0, none⟩ = some (.int .i64 a0_0) ∧ w'.cell? ⟨gb1365, 1, none⟩ = some (.int .i64 a0_1) ∧ w'.cell? ⟨gb1448, 0, none⟩ = some (.int .i64 t1441) ∧ w'.cell? ⟨gb1448, 1, none⟩ = some (.int .i64 t1442) ∧ w'.cell? ⟨gb1448, 2, none⟩ = some (.int .i64 t1443) ∧ w'.cell? ⟨gb1448, 3, none⟩ = some (.string t1444) ∧ w'.cell? ⟨gb1448, 4, none⟩ = some (.bool t1445) ∧ w'.cell? ⟨gb1448, 5, none⟩ = some (.int .i64 t1446) ∧ w'.cell? ⟨gb1447, 0, none⟩ = some (.int .i64 t1439) ∧ w'.cell? ⟨gb1447, 1, none⟩ = some (.int .i64 t1440)) (ds := []) #[false, false, false, false, false, false, false, false, false, false, false, false, false, false, false, false, false, false] (by kernel_rfl) rfl rfl ⟨(blk_cell (BX.out.get 6 rfl) 0).trans rfl, (blk_cell (BX.out.get 6 rfl) 1).trans rfl, (blk_cell (BX.out.get 6 rfl) 2).trans rfl, (blk_cell (BX.out.get 6 rfl) 3).trans rfl, (blk_cell (BX.out.get 6 rfl) 4).trans rfl, (blk_cell (BX.out.get 6 rfl) 5).trans rfl, (blk_cell (BX.out.get 8 rfl) 0).trans rfl, (blk_cell (BX.out.get 8 rfl) 1).trans rfl, (blk_cell (BX.out.get 0 rfl) 0).trans rfl, (blk_cell (BX.out.get 0 rfl) 1).trans rfl, (blk_cell (BX.out.get 0 rfl) 2).trans rfl, (blk_cell (BX.out.get 0 rfl) 3).trans rfl, (blk_cell (BX.out.get 0 rfl) 4).trans rfl, (blk_cell (BX.out.get 0 rfl) 5).trans rfl, (blk_cell (BX.out.get 1 rfl) 0).trans rfl, (blk_cell (BX.out.get 1 rfl) 1).trans rfl⟩ (fun hHeld => ?_); refine with_tabW whittlelaw2_ValueNumbers.tab16 whittlelaw2_ValueNumbers.bits16 (fun HT_ HW_ => ?_)
       generalize w138.drew = w139 at HO_13 HO_14 HO_15 BX HB hHeld ⊢
       refine take_ (i := 0) (N := some 101) (v := ?_) (a' := ?_) #[true, false, false, false, false, false, false, false, false, false, false, false, false, false, false, false, false, false] rfl rfl (take_ofW HT_.out HW_.out (by kernel_rfl)) (fun _ _ _ h => h) (Or.inl ⟨by rfl, ?_⟩) hHeld ?_ ?_
       rotate_left
       ·rintro w' ⟨s0, s1, s2, s3, s4, s5, s6, s7, s8, s9, s10, s11, s12, s13, s14, s15⟩
        go_simp
        with_reducible rfl
       rotate_left
       ·simp only [Act.put, List.setIfInBounds_toArray, List.set_cons_zero, List.set_cons_succ, i64_w, i32_w]
        rfl
       refine take_ (i := 2) (N := some 103) (v := ?_) (a' := ?_) #[true, false, true, false, false, false, false, false, false, false, false, false, false, false, false, false, false, false] rfl rfl (take_ofW HT_.out HW_.out (by kernel_rfl)) (fun _ _ _ h => h) (Or.inl ⟨by rfl, ?_⟩) hHeld ?_ ?_
       rotate_left
       ·rintro w' ⟨s0, s1, s2, s3, s4, s5, s6, s7, s8, s9, s10, s11, s12, s13, s14, s15⟩
        go_simp
        with_reducible rfl
       rotate_left
       ·simp only [Act.put, List.setIfInBounds_toArray, List.set_cons_zero, List.set_cons_succ, i64_w, i32_w]
        rfl
       refine one_ (i := 1) (N := some 102) #[true, true, true, false, false, false, false, false, false, false, false, false, false, false, false, false, false, false] rfl rfl (one_of HT_.out (by kernel_rfl)) (by decide) (fun K hK => ?_)
       refine goes_ Tryd.func43 (by kernel_rfl) rfl #[.int .i64 1, .agg #[.int .i64 t1368, .int .i64 t1369, .int .i64 t1370, .string t1371, .bool t1372, .int .i64 t1373]] (by rfl) rfl rfl (by (try simp only [List.map_toArray, List.map_cons, List.map_nil]); first | done | rfl | (simp only [List.length_drop, List.length_take]; rfl)) ?_
       with_reducible refine (value_Un.calls k1 1 t1368 t1369 t1370 t1371 t1372 t1373 t1449 t1450 t1451 t1452 t1453 t1454 _ A105.out).mono ?_
       rintro e w140 ⟨rfl, hb⟩
       refine ⟨_, rfl, ?_⟩
       have n0_ := Aside0.mk (Boxes.below (by (with_reducible repeat (first | apply boxes_drewN | apply boxes_drew | apply boxes_alloc)); exact BX.out) hb)
       have n1_ := Aside0.mk (Kd.R_below (by (with_reducible repeat (first | apply Kd.R_alloc | apply Kd.R_drewN | apply Kd.R_drew)); exact HO_13.out) hb)
       have n2_ := Aside0.mk (Kd.R_below (by (with_reducible repeat (first | apply Kd.R_alloc | apply Kd.R_drewN | apply Kd.R_drew)); exact HO_14.out) hb)
       have n3_ := Aside0.mk (Kd.R_below (by (with_reducible repeat (first | apply Kd.R_alloc | apply Kd.R_drewN | apply Kd.R_drew)); exact HO_15.out) hb)
       have n4_ := Aside0.mk (below_step (by repeat (first | (with_reducible first | exact HB.out | apply below_alloc | apply pw_below_drewN | apply below_drew1 | refine below_set ?_ (Aside0.out (by assumption))) | exact HB.out)) hb)
       clear BX HO_13 HO_14 HO_15 HB
       have BX := n0_
       have HO_13 := n1_
       have HO_14 := n2_
       have HO_15 := n3_
       have HB := n4_
       clear n0_ n1_ n2_ n3_ n4_
       (try clear hb)
       (try clear hb2)
       (try clear hk)
       (try clear hi)
       refine hK.out _ _ ⟨(blk_cell (BX.out.get 6 rfl) 0).trans rfl, (blk_cell (BX.out.get 6 rfl) 1).trans rfl, (blk_cell (BX.out.get 6 rfl) 2).trans rfl, (blk_cell (BX.out.get 6 rfl) 3).trans rfl, (blk_cell (BX.out.get 6 rfl) 4).trans rfl, (blk_cell (BX.out.get 6 rfl) 5).trans rfl, (blk_cell (BX.out.get 8 rfl) 0).trans rfl, (blk_cell (BX.out.get 8 rfl) 1).trans rfl, (blk_cell (BX.out.get 0 rfl) 0).trans rfl, (blk_cell (BX.out.get 0 rfl) 1).trans rfl, (blk_cell (BX.out.get 0 rfl) 2).trans rfl, (blk_cell (BX.out.get 0 rfl) 3).trans rfl, (blk_cell (BX.out.get 0 rfl) 4).trans rfl, (blk_cell (BX.out.get 0 rfl) 5).trans rfl, (blk_cell (BX.out.get 1 rfl) 0).trans rfl, (blk_cell (BX.out.get 1 rfl) 1).trans rfl⟩ (fun hHeld => ?_)
       clear hK K
       refine norm_ (a' := ?_) ?_ ?_
       rotate_left
       ·show Act.put _ (some 102) _ = _
        simp only [Act.put, List.setIfInBounds_toArray, List.set_cons_zero, List.set_cons_succ, i64_w, i32_w]
        rfl
       refine one_ (i := 3) (N := some 104) #[true, true, true, true, false, false, false, false, false, false, false, false, false, false, false, false, false, false] rfl rfl (one_of HT_.out (by kernel_rfl)) (by decide) (fun K hK => ?_)
       refine goes_ Tryd.func48 (by kernel_rfl) rfl #[.agg #[.int .i64 a0_0, .int .i64 a0_1]] (by rfl) rfl rfl (by (try simp only [List.map_toArray, List.map_cons, List.map_nil]); first | done | rfl | (simp only [List.length_drop, List.length_take]; rfl)) ?_
       with_reducible refine (num_Neg.calls k1 a0_0 a0_1 t1455 t1456 _ A106.out).mono ?_
       rintro e w141 ⟨rfl, hb⟩
       refine ⟨_, rfl, ?_⟩
       have n0_ := Aside0.mk (Boxes.below (by (with_reducible repeat (first | apply boxes_drewN | apply boxes_drew | apply boxes_alloc)); exact BX.out) hb)
       have n1_ := Aside0.mk (Kd.R_below (by (with_reducible repeat (first | apply Kd.R_alloc | apply Kd.R_drewN | apply Kd.R_drew)); exact HO_13.out) hb)
       have n2_ := Aside0.mk (Kd.R_below (by (with_reducible repeat (first | apply Kd.R_alloc | apply Kd.R_drewN | apply Kd.R_drew)); exact HO_14.out) hb)
       have n3_ := Aside0.mk (Kd.R_below (by (with_reducible repeat (first | apply Kd.R_alloc | apply Kd.R_drewN | apply Kd.R_drew)); exact HO_15.out) hb)
       have n4_ := Aside0.mk (below_step (by repeat (first | (with_reducible first | exact HB.out | apply below_alloc | apply pw_below_drewN | apply below_drew1 | refine below_set ?_ (Aside0.out (by assumption))) | exact HB.out)) hb)
       clear BX HO_13 HO_14 HO_15 HB
       have BX := n0_
       have HO_13 := n1_
       have HO_14 := n2_
       have HO_15 := n3_
       have HB := n4_
       clear n0_ n1_ n2_ n3_ n4_
       (try clear hb)
       (try clear hb2)
       (try clear hk)
       (try clear hi)
       refine hK.out _ _ ⟨(blk_cell (BX.out.get 6 rfl) 0).trans rfl, (blk_cell (BX.out.get 6 rfl) 1).trans rfl, (blk_cell (BX.out.get 6 rfl) 2).trans rfl, (blk_cell (BX.out.get 6 rfl) 3).trans rfl, (blk_cell (BX.out.get 6 rfl) 4).trans rfl, (blk_cell (BX.out.get 6 rfl) 5).trans rfl, (blk_cell (BX.out.get 8 rfl) 0).trans rfl, (blk_cell (BX.out.get 8 rfl) 1).trans rfl, (blk_cell (BX.out.get 0 rfl) 0).trans rfl, (blk_cell (BX.out.get 0 rfl) 1).trans rfl, (blk_cell (BX.out.get 0 rfl) 2).trans rfl, (blk_cell (BX.out.get 0 rfl) 3).trans rfl, (blk_cell (BX.out.get 0 rfl) 4).trans rfl, (blk_cell (BX.out.get 0 rfl) 5).trans rfl, (blk_cell (BX.out.get 1 rfl) 0).trans rfl, (blk_cell (BX.out.get 1 rfl) 1).trans rfl⟩ (fun hHeld => ?_)
       clear hK K
       refine norm_ (a' := ?_) ?_ ?_
       rotate_left
       ·show Act.put _ (some 104) _ = _
        simp only [Act.put, List.setIfInBounds_toArray, List.set_cons_zero, List.set_cons_succ, i64_w, i32_w]
        rfl
       refine one_ (i := 4) (N := some 105) #[true, true, true, true, true, false, false, false, false, false, false, false, false, false, false, false, false, false] rfl rfl (one_of HT_.out (by kernel_rfl)) (by decide) (fun K hK => ?_)
       refine goes_ Tryd.func19 (by kernel_rfl) rfl #[.agg #[.int .i64 t1455, .int .i64 t1456]] (by rfl) rfl rfl (by (try simp only [List.map_toArray, List.map_cons, List.map_nil]); first | done | rfl | (simp only [List.length_drop, List.length_take]; rfl)) ?_
       with_reducible refine (value_Number.calls k1 t1455 t1456 t1457 t1458 t1459 t1460 t1461 t1462 _ A107.out).mono ?_
       rintro e w142 ⟨rfl, hb⟩
       refine ⟨_, rfl, ?_⟩
       have n0_ := Aside0.mk (Boxes.below (by (with_reducible repeat (first | apply boxes_drewN | apply boxes_drew | apply boxes_alloc)); exact BX.out) hb)
       have n1_ := Aside0.mk (Kd.R_below (by (with_reducible repeat (first | apply Kd.R_alloc | apply Kd.R_drewN | apply Kd.R_drew)); exact HO_13.out) hb)
       have n2_ := Aside0.mk (Kd.R_below (by (with_reducible repeat (first | apply Kd.R_alloc | apply Kd.R_drewN | apply Kd.R_drew)); exact HO_14.out) hb)
       have n3_ := Aside0.mk (Kd.R_below (by (with_reducible repeat (first | apply Kd.R_alloc | apply Kd.R_drewN | apply Kd.R_drew)); exact HO_15.out) hb)
       have n4_ := Aside0.mk (below_step (by repeat (first | (with_reducible first | exact HB.out | apply below_alloc | apply pw_below_drewN | apply below_drew1 | refine below_set ?_ (Aside0.out (by assumption))) | exact HB.out)) hb)
       clear BX HO_13 HO_14 HO_15 HB
       have BX := n0_
       have HO_13 := n1_
       have HO_14 := n2_
       have HO_15 := n3_
       have HB := n4_
       clear n0_ n1_ n2_ n3_ n4_
       (try clear hb)
       (try clear hb2)
       (try clear hk)
       (try clear hi)
       refine hK.out _ _ ⟨(blk_cell (BX.out.get 6 rfl) 0).trans rfl, (blk_cell (BX.out.get 6 rfl) 1).trans rfl, (blk_cell (BX.out.get 6 rfl) 2).trans rfl, (blk_cell (BX.out.get 6 rfl) 3).trans rfl, (blk_cell (BX.out.get 6 rfl) 4).trans rfl, (blk_cell (BX.out.get 6 rfl) 5).trans rfl, (blk_cell (BX.out.get 8 rfl) 0).trans rfl, (blk_cell (BX.out.get 8 rfl) 1).trans rfl, (blk_cell (BX.out.get 0 rfl) 0).trans rfl, (blk_cell (BX.out.get 0 rfl) 1).trans rfl, (blk_cell (BX.out.get 0 rfl) 2).trans rfl, (blk_cell (BX.out.get 0 rfl) 3).trans rfl, (blk_cell (BX.out.get 0 rfl) 4).trans rfl, (blk_cell (BX.out.get 0 rfl) 5).trans rfl, (blk_cell (BX.out.get 1 rfl) 0).trans rfl, (blk_cell (BX.out.get 1 rfl) 1).trans rfl⟩ (fun hHeld => ?_)
       clear hK K
       refine norm_ (a' := ?_) ?_ ?_
       rotate_left
       ·show Act.put _ (some 105) _ = _
        simp only [Act.put, List.setIfInBounds_toArray, List.set_cons_zero, List.set_cons_succ, i64_w, i32_w]
        rfl
       refine pure_ (i := 5) (N := some 106) (v := ?_) (a' := ?_) #[true, true, true, true, true, true, false, false, false, false, false, false, false, false, false, false, false, false] rfl rfl (any_of HT_.out (by kernel_rfl)) (fun _ _ _ h => h) (Or.inl ⟨by rfl, ?_⟩) ?_ ?_
       rotate_left
       ·intro w'
        go_simp
        with_reducible rfl
       rotate_left
       ·simp only [Act.put, List.setIfInBounds_toArray, List.set_cons_zero, List.set_cons_succ, i64_w, i32_w]
        rfl
       refine pure_ (i := 6) (N := some 107) (v := ?_) (a' := ?_) #[true, true, true, true, true, true, true, false, false, false, false, false, false, false, false, false, false, false] rfl rfl (any_of HT_.out (by kernel_rfl)) (fun _ _ _ h => h) (Or.inl ⟨by rfl, ?_⟩) ?_ ?_
       rotate_left
       ·intro w'
        go_simp
        with_reducible rfl
       rotate_left
       ·simp only [Act.put, List.setIfInBounds_toArray, List.set_cons_zero, List.set_cons_succ, i64_w, i32_w]
        rfl
       refine pure_ (i := 8) (N := some 109) (v := ?_) (a' := ?_) #[true, true, true, true, true, true, true, false, true, false, false, false, false, false, false, false, false, false] rfl rfl (any_of HT_.out (by kernel_rfl)) (fun _ _ _ h => h) (Or.inl ⟨by rfl, ?_⟩) ?_ ?_
       rotate_left
       ·intro w'
        go_simp
        with_reducible rfl
       rotate_left
       ·simp only [Act.put, List.setIfInBounds_toArray, List.set_cons_zero, List.set_cons_succ, i64_w, i32_w]
        rfl
       refine take_ (i := 7) (N := some 108) (v := ?_) (a' := ?_) #[true, true, true, true, true, true, true, true, true, false, false, false, false, false, false, false, false, false] rfl rfl (take_ofW HT_.out HW_.out (by kernel_rfl)) (fun _ _ _ h => h) (Or.inl ⟨by rfl, ?_⟩) hHeld ?_ ?_
       rotate_left
       ·rintro w' ⟨s0, s1, s2, s3, s4, s5, s6, s7, s8, s9, s10, s11, s12, s13, s14, s15⟩
        go_simp
        with_reducible rfl
       rotate_left
       ·simp only [Act.put, List.setIfInBounds_toArray, List.set_cons_zero, List.set_cons_succ, i64_w, i32_w]
        rfl
       refine pure_ (i := 9) (N := some 110) (v := ?_) (a' := ?_) #[true, true, true, true, true, true, true, true, true, true, false, false, false, false, false, false, false, false] rfl rfl (any_of HT_.out (by kernel_rfl)) (fun _ _ _ h => h) (Or.inl ⟨by rfl, ?_⟩) ?_ ?_
       rotate_left
       ·intro w'
        go_simp
        with_reducible rfl
       rotate_left
       ·simp only [Act.put, List.setIfInBounds_toArray, List.set_cons_zero, List.set_cons_succ, i64_w, i32_w]
        rfl
       refine pure_ (i := 10) (N := some 111) (v := ?_) (a' := ?_) #[true, true, true, true, true, true, true, true, true, true, true, false, false, false, false, false, false, false] rfl rfl (any_of HT_.out (by kernel_rfl)) (fun _ _ _ h => h) (Or.inl ⟨by rfl, ?_⟩) ?_ ?_
       rotate_left
       ·intro w'
        go_simp
        with_reducible rfl
       rotate_left
       ·simp only [Act.put, List.setIfInBounds_toArray, List.set_cons_zero, List.set_cons_succ, i64_w, i32_w]
        rfl
       refine pure_ (i := 11) (N := some 112) (v := ?_) (a' := ?_) #[true, true, true, true, true, true, true, true, true, true, true, true, false, false, false, false, false, false] rfl rfl (any_of HT_.out (by kernel_rfl)) (fun _ _ _ h => h) (Or.inl ⟨by rfl, ?_⟩) ?_ ?_
       rotate_left
       ·intro w'
        go_simp
        with_reducible rfl
       rotate_left
       ·simp only [Act.put, List.setIfInBounds_toArray, List.set_cons_zero, List.set_cons_succ, i64_w, i32_w]
        rfl
       refine take_ (i := 12) (N := some 113) (v := ?_) (a' := ?_) #[true, true, true, true, true, true, true, true, true, true, true, true, true, false, false, false, false, false] rfl rfl (take_ofW HT_.out HW_.out (by kernel_rfl)) (fun _ _ _ h => h) (Or.inl ⟨by rfl, ?_⟩) hHeld ?_ ?_
       rotate_left
       ·rintro w' ⟨s0, s1, s2, s3, s4, s5, s6, s7, s8, s9, s10, s11, s12, s13, s14, s15⟩
        go_simp
        with_reducible rfl
       rotate_left
       ·simp only [Act.put, List.setIfInBounds_toArray, List.set_cons_zero, List.set_cons_succ, i64_w, i32_w]
        rfl
       refine take_ (i := 14) (N := some 115) (v := ?_) (a' := ?_) #[true, true, true, true, true, true, true, true, true, true, true, true, true, false, true, false, false, false] rfl rfl (take_ofW HT_.out HW_.out (by kernel_rfl)) (fun _ _ _ h => h) (Or.inl ⟨by rfl, ?_⟩) hHeld ?_ ?_
       rotate_left
       ·rintro w' ⟨s0, s1, s2, s3, s4, s5, s6, s7, s8, s9, s10, s11, s12, s13, s14, s15⟩
        go_simp
        with_reducible rfl
       rotate_left
       ·simp only [Act.put, List.setIfInBounds_toArray, List.set_cons_zero, List.set_cons_succ, i64_w, i32_w]
        rfl
       refine one_ (i := 13) (N := some 114) #[true, true, true, true, true, true, true, true, true, true, true, true, true, true, true, false, false, false] rfl rfl (one_of HT_.out (by kernel_rfl)) (by decide) (fun K hK => ?_)
       refine goes_ Tryd.func19 (by kernel_rfl) rfl #[.agg #[.int .i64 t1439, .int .i64 t1440]] (by rfl) rfl rfl (by (try simp only [List.map_toArray, List.map_cons, List.map_nil]); first | done | rfl | (simp only [List.length_drop, List.length_take]; rfl)) ?_
       with_reducible refine (value_Number.calls k1 t1439 t1440 t1463 t1464 t1465 t1466 t1467 t1468 _ A110.out).mono ?_
       rintro e w143 ⟨rfl, hb⟩
       refine ⟨_, rfl, ?_⟩
       have n0_ := Aside0.mk (Boxes.below (by (with_reducible repeat (first | apply boxes_drewN | apply boxes_drew | apply boxes_alloc)); exact BX.out) hb)
       have n1_ := Aside0.mk (Kd.R_below (by (with_reducible repeat (first | apply Kd.R_alloc | apply Kd.R_drewN | apply Kd.R_drew)); exact HO_13.out) hb)
       have n2_ := Aside0.mk (Kd.R_below (by (with_reducible repeat (first | apply Kd.R_alloc | apply Kd.R_drewN | apply Kd.R_drew)); exact HO_14.out) hb)
       have n3_ := Aside0.mk (Kd.R_below (by (with_reducible repeat (first | apply Kd.R_alloc | apply Kd.R_drewN | apply Kd.R_drew)); exact HO_15.out) hb)
       have n4_ := Aside0.mk (below_step (by repeat (first | (with_reducible first | exact HB.out | apply below_alloc | apply pw_below_drewN | apply below_drew1 | refine below_set ?_ (Aside0.out (by assumption))) | exact HB.out)) hb)
       clear BX HO_13 HO_14 HO_15 HB
       have BX := n0_
       have HO_13 := n1_
       have HO_14 := n2_
       have HO_15 := n3_
       have HB := n4_
       clear n0_ n1_ n2_ n3_ n4_
       (try clear hb)
       (try clear hb2)
       (try clear hk)
       (try clear hi)
       refine hK.out _ _ ⟨(blk_cell (BX.out.get 6 rfl) 0).trans rfl, (blk_cell (BX.out.get 6 rfl) 1).trans rfl, (blk_cell (BX.out.get 6 rfl) 2).trans rfl, (blk_cell (BX.out.get 6 rfl) 3).trans rfl, (blk_cell (BX.out.get 6 rfl) 4).trans rfl, (blk_cell (BX.out.get 6 rfl) 5).trans rfl, (blk_cell (BX.out.get 8 rfl) 0).trans rfl, (blk_cell (BX.out.get 8 rfl) 1).trans rfl, (blk_cell (BX.out.get 0 rfl) 0).trans rfl, (blk_cell (BX.out.get 0 rfl) 1).trans rfl, (blk_cell (BX.out.get 0 rfl) 2).trans rfl, (blk_cell (BX.out.get 0 rfl) 3).trans rfl, (blk_cell (BX.out.get 0 rfl) 4).trans rfl, (blk_cell (BX.out.get 0 rfl) 5).trans rfl, (blk_cell (BX.out.get 1 rfl) 0).trans rfl, (blk_cell (BX.out.get 1 rfl) 1).trans rfl⟩ (fun hHeld => ?_)
       clear hK K
       refine norm_ (a' := ?_) ?_ ?_
       rotate_left
       ·show Act.put _ (some 114) _ = _
        simp only [Act.put, List.setIfInBounds_toArray, List.set_cons_zero, List.set_cons_succ, i64_w, i32_w]
        rfl
       refine pure_ (i := 15) (N := some 116) (v := ?_) (a' := ?_) #[true, true, true, true, true, true, true, true, true, true, true, true, true, true, true, true, false, false] rfl rfl (any_of HT_.out (by kernel_rfl)) (fun _ _ _ h => h) (Or.inl ⟨by rfl, ?_⟩) ?_ ?_
       rotate_left
       ·intro w'
        go_simp
        with_reducible rfl
       rotate_left
       ·simp only [Act.put, List.setIfInBounds_toArray, List.set_cons_zero, List.set_cons_succ, i64_w, i32_w]
        rfl
       refine pure_ (i := 16) (N := some 117) (v := ?_) (a' := ?_) #[true, true, true, true, true, true, true, true, true, true, true, true, true, true, true, true, true, false] rfl rfl (any_of HT_.out (by kernel_rfl)) (fun _ _ _ h => h) (Or.inl ⟨by rfl, ?_⟩) ?_ ?_
       rotate_left
       ·intro w'
        go_simp
        with_reducible rfl
       rotate_left
       ·simp only [Act.put, List.setIfInBounds_toArray, List.set_cons_zero, List.set_cons_succ, i64_w, i32_w]
        rfl
       refine pure_ (i := 17) (N := some 4) (v := ?_) (a' := ?_) #[true, true, true, true, true, true, true, true, true, true, true, true, true, true, true, true, true, true] rfl rfl (any_of HT_.out (by kernel_rfl)) (fun _ _ _ h => h) (Or.inl ⟨by rfl, ?_⟩) ?_ ?_
       rotate_left
       ·intro w'
        go_simp
        with_reducible rfl
       rotate_left
       ·simp only [Act.put, List.setIfInBounds_toArray, List.set_cons_zero, List.set_cons_succ, i64_w, i32_w]
        rfl
       refine done_ (done_of HT_.out (by kernel_rfl)) ?_
       try go_wp2
       go_ret
       exact ⟨by first | rfl | (simp [errW_none, errW_some] <;> rfl) | (simp [*, errW_none, errW_some] <;> rfl), by repeat (first | (with_reducible first | exact HB.out | apply below_alloc | apply pw_below_drewN | apply below_drew1 | refine below_set ?_ (Aside0.out (by assumption))) | exact HB.out)⟩
      ·rw [if_neg c109] at H
       have c109b0 : (t1441 == 0 && ((t1442 == 0 && (t1443 == 0)) && (t1444.toList == ([] : List UInt8) && (!t1445 && (t1446 == 0))))) = false := by simpa using c109
       have c109be : (t1441 == 0 && ((t1442 == 0 && (t1443 == 0)) && (t1444.toList.isEmpty && (!t1445 && (t1446 == 0))))) = false := by have h_ := c109b0; simp only [beq_nil] at h_; exact h_
       (try (have c109b1 : decide (t1441 = 0 && ((t1442 == 0 && (t1443 == 0)) && (t1444.toList == ([] : List UInt8) && (!t1445 && (t1446 == 0))))) = false := by simpa using c109))
       (try (have c109b2 : (t1441 == 0 && ((t1442 == 0 && (t1443 == 0)) && (t1444.toList == ([] : List UInt8) && (!t1445 && (t1446 == 0))))) = false := by simpa using c109))
       (try (have c109b3 : ¬ (t1441 = 0 && ((t1442 == 0 && (t1443 == 0)) && (t1444.toList == ([] : List UInt8) && (!t1445 && (t1446 == 0))))) := by simpa using c109))
       clear c109
       exact absurd (Option.some.inj H) (by rw [HR.out]; decide)
     ·rw [if_neg c108] at H
      have c108b0 : (t1449 == t1457 && ((t1450 == t1458 && (t1451 == t1459)) && (t1452.toList == t1460.toList && (t1453 == t1461 && (t1454 == t1462))))) = false := by simpa using c108
      (try (have c108b1 : decide (t1449 = t1457 && ((t1450 == t1458 && (t1451 == t1459)) && (t1452.toList == t1460.toList && (t1453 == t1461 && (t1454 == t1462))))) = false := by simpa using c108))
      (try (have c108b2 : (t1449 == t1457 && ((t1450 == t1458 && (t1451 == t1459)) && (t1452.toList == t1460.toList && (t1453 == t1461 && (t1454 == t1462))))) = false := by simpa using c108))
      (try (have c108b3 : ¬ (t1449 = t1457 && ((t1450 == t1458 && (t1451 == t1459)) && (t1452.toList == t1460.toList && (t1453 == t1461 && (t1454 == t1462))))) := by simpa using c108))
      clear c108
      exact absurd (Option.some.inj H) (by rw [HR.out]; decide)
 ·replace c4 := Bool.eq_false_iff.mpr c4
  subst c4
  have H1 : (some false) = some r := by rw [if_neg (show ¬ (false = true) by decide)] at H; exact H
  clear H
  have H := H1
  clear H1
  exact absurd (Option.some.inj H) (by rw [HR.out]; decide)

end Go.Proofs.YtmakkdlkgfgaoaaDoor.F
