-- Laid by program (wip/tools/gen.sh of this repo) out of the translation; Lean checks it.
import Derived.Test.YtlcjfabbnclalaaDoorB0
import Derived.Test.YtlcjfabbnclalaaDoorF0
import Derived.Test.YtlcjfabbnclalaaDoorF1
import Derived.Test.YtlcjfabbnclalaaDoorF3
import Derived.Test.YtlcjfabbnclalaaDoorF5
import Derived.Test.YtlcjfabbnclalaaDoorF6
import Derived.Test.YtlcjfabbnclalaaDoorF15
import Derived.Test.YtlcjfabbnclalaaDoorF17
import Derived.Test.YtlcjfabbnclalaaDoorF29
import Derived.Test.YtlcjfabbnclalaaDoorG1
namespace Go.Proofs.YtlcjfabbnclalaaDoor.F
open Go.RowKit Go.Proofs.YtlcjfabbnclalaaDoorW.PrintWords Go.Proofs.YtlcjfabbnclalaaDoorW.PrintLast Go.Proofs.YtlcjfabbnclalaaDoorW.PrintMore
attribute [local go_sem] max2_int min2_int max_two min_two max_three min_three max_four min_four   -- for this text's walks alone
set_option linter.unusedVariables false
set_option linter.unusedSimpArgs false

attribute [local go_sem high] eqA23
/-! ### whittlelaw1_NumRounds: function 14 -/
mutual
def whittlelaw1_NumRounds.j0 : Nat → Int → Bool → Int → Int → Int → Int → Option (Bool)
 | 0, _, _, _, _, _, _ => none
 | k + 1, x2, x29, x204000, x204001, x205000, x205001 => if x29 = true then ((whittlelaw1_able.f k).bind fun t208 => (some t208)) else ((num_Round.f k x204000 x204001 x2).bind fun bt209 => ((num_Round.f k x205000 x205001 x2).bind fun bt213 => (if x2 < (-12) then (whittlelaw1_NumRounds.j1 k x2 bt209.2.2 bt213.2.2 true x204000 x204001 x205000 x205001 bt209.1 bt209.2.1 bt213.1 bt213.2.1) else (whittlelaw1_NumRounds.j1 k x2 bt209.2.2 bt213.2.2 (decide (x2 > 6)) x204000 x204001 x205000 x205001 bt209.1 bt209.2.1 bt213.1 bt213.2.1))))
def whittlelaw1_NumRounds.j1 : Nat → Int → Bool → Bool → Bool → Int → Int → Int → Int → Int → Int → Int → Int → Option (Bool)
 | 0, _, _, _, _, _, _, _, _, _, _, _, _ => none
 | k + 1, x2, x8, x10, x48, x204000, x204001, x205000, x205001, x213000, x213001, x217000, x217001 => if x48 = true then (if x8 = true then (some false) else (some (!x10))) else ((num_Neg.f k x204000 x204001).bind fun bt217 => ((num_Round.f k bt217.1 bt217.2 x2).bind fun bt219 => (if (bt219.2.2 != x8) = true then (whittlelaw1_NumRounds.j2 k x2 x8 x10 true x204000 x204001 x205000 x205001 x213000 x213001 x217000 x217001) else (if x8 = true then ((num_Neg.f k x213000 x213001).bind fun bt223 => (whittlelaw1_NumRounds.j2 k x2 x8 x10 (!(bt219.1 == bt223.1) || (!(bt219.2.1 == bt223.2))) x204000 x204001 x205000 x205001 x213000 x213001 x217000 x217001)) else (whittlelaw1_NumRounds.j2 k x2 x8 x10 false x204000 x204001 x205000 x205001 x213000 x213001 x217000 x217001)))))
def whittlelaw1_NumRounds.j2 : Nat → Int → Bool → Bool → Bool → Int → Int → Int → Int → Int → Int → Int → Int → Option (Bool)
 | 0, _, _, _, _, _, _, _, _, _, _, _, _ => none
 | k + 1, x2, x8, x10, x73, x204000, x204001, x205000, x205001, x213000, x213001, x217000, x217001 => if x73 = true then (some false) else (if x8 = true then ((num_Round.f k x213000 x213001 x2).bind fun bt225 => (if bt225.2.2 = true then (if (!(bt225.1 == x213000) || (!(bt225.2.1 == x213001))) = true then (some false) else ((whittlelaw1_right.f k x213000 x213001).bind fun t229 => (if t229 = true then (whittlelaw1_NumRounds.j3 k x2 x8 x10 x204000 x204001 x205000 x205001 x213000 x213001 x217000 x217001) else (some false)))) else (some false))) else (whittlelaw1_NumRounds.j3 k x2 x8 x10 x204000 x204001 x205000 x205001 x213000 x213001 x217000 x217001))
def whittlelaw1_NumRounds.j3 : Nat → Int → Bool → Bool → Int → Int → Int → Int → Int → Int → Int → Int → Option (Bool)
 | 0, _, _, _, _, _, _, _, _, _, _, _ => none
 | k + 1, x2, x8, x10, x204000, x204001, x205000, x205001, x213000, x213001, x217000, x217001 => if x8 = true then (if x10 = true then ((num_Cmp.f k x204000 x204001 x205000 x205001).bind fun t230 => (if t230 ≤ 0 then ((num_Cmp.f k x213000 x213001 x217000 x217001).bind fun t231 => (whittlelaw1_NumRounds.j4 k x2 x8 (decide (t231 > 0)) x204000 x204001 x213000 x213001)) else (whittlelaw1_NumRounds.j4 k x2 x8 false x204000 x204001 x213000 x213001))) else (whittlelaw1_NumRounds.j4 k x2 x8 false x204000 x204001 x213000 x213001)) else (whittlelaw1_NumRounds.j4 k x2 x8 false x204000 x204001 x213000 x213001)
def whittlelaw1_NumRounds.j4 : Nat → Int → Bool → Bool → Int → Int → Int → Int → Option (Bool)
 | 0, _, _, _, _, _, _, _ => none
 | k + 1, x2, x8, x108, x204000, x204001, x213000, x213001 => if x108 = true then (some false) else (if x2 = 0 then ((num_Floor.f k x204000 x204001).bind fun bt232 => ((whittlelaw1_one.f).bind fun bt235 => ((num_Add.f k bt232.1 bt232.2 bt235.1 bt235.2).bind fun bt237 => (if x8 = true then (if (x213000 == bt232.1 && (x213001 == bt232.2)) = true then (if x204001 > 1 then (some true) else (some (x213000 == x204000 && (x213001 == x204001)))) else (if bt237.2.2 = true then (if (x213000 == bt237.1 && (x213001 == bt237.2.1)) = true then (if x204001 > 1 then (some true) else (some (x213000 == x204000 && (x213001 == x204001)))) else (some false)) else (some false))) else (some false))))) else (some true))
end
def whittlelaw1_NumRounds.f (k : Nat) (a0_0 : Int) (a0_1 : Int) (a1_0 : Int) (a1_1 : Int) (a2 : Int) : Option (Bool) := (whittlelaw1_able.f k).bind fun t205 => (if t205 = true then ((whittlelaw1_right.f k a0_0 a0_1).bind fun t206 => (if t206 = true then ((whittlelaw1_right.f k a1_0 a1_1).bind fun t207 => (whittlelaw1_NumRounds.j0 k a2 (!t207) a0_0 a0_1 a1_0 a1_1)) else (whittlelaw1_NumRounds.j0 k a2 true a0_0 a0_1 a1_0 a1_1))) else (whittlelaw1_NumRounds.j0 k a2 true a0_0 a0_1 a1_0 a1_1))
theorem whittlelaw1_NumRounds.mono_l : ∀ k, (∀ y0 y1 y2 y3 y4 y5, LeO (whittlelaw1_NumRounds.j0 k y0 y1 y2 y3 y4 y5) (whittlelaw1_NumRounds.j0 (k + 1) y0 y1 y2 y3 y4 y5)) ∧ (∀ y0 y1 y2 y3 y4 y5 y6 y7 y8 y9 y10 y11, LeO (whittlelaw1_NumRounds.j1 k y0 y1 y2 y3 y4 y5 y6 y7 y8 y9 y10 y11) (whittlelaw1_NumRounds.j1 (k + 1) y0 y1 y2 y3 y4 y5 y6 y7 y8 y9 y10 y11)) ∧ (∀ y0 y1 y2 y3 y4 y5 y6 y7 y8 y9 y10 y11, LeO (whittlelaw1_NumRounds.j2 k y0 y1 y2 y3 y4 y5 y6 y7 y8 y9 y10 y11) (whittlelaw1_NumRounds.j2 (k + 1) y0 y1 y2 y3 y4 y5 y6 y7 y8 y9 y10 y11)) ∧ (∀ y0 y1 y2 y3 y4 y5 y6 y7 y8 y9 y10, LeO (whittlelaw1_NumRounds.j3 k y0 y1 y2 y3 y4 y5 y6 y7 y8 y9 y10) (whittlelaw1_NumRounds.j3 (k + 1) y0 y1 y2 y3 y4 y5 y6 y7 y8 y9 y10)) ∧ (∀ y0 y1 y2 y3 y4 y5 y6, LeO (whittlelaw1_NumRounds.j4 k y0 y1 y2 y3 y4 y5 y6) (whittlelaw1_NumRounds.j4 (k + 1) y0 y1 y2 y3 y4 y5 y6))
 | 0 => ⟨fun _ _ _ _ _ _ r h => by simp [whittlelaw1_NumRounds.j0] at h, fun _ _ _ _ _ _ _ _ _ _ _ _ r h => by simp [whittlelaw1_NumRounds.j1] at h, fun _ _ _ _ _ _ _ _ _ _ _ _ r h => by simp [whittlelaw1_NumRounds.j2] at h, fun _ _ _ _ _ _ _ _ _ _ _ r h => by simp [whittlelaw1_NumRounds.j3] at h, fun _ _ _ _ _ _ _ r h => by simp [whittlelaw1_NumRounds.j4] at h⟩
 | k + 1 => by
  obtain ⟨ih0, ih1, ih2, ih3, ih4⟩ := whittlelaw1_NumRounds.mono_l k
  refine ⟨?_, ?_, ?_, ?_, ?_⟩
  ·intro y0 y1 y2 y3 y4 y5
   unfold whittlelaw1_NumRounds.j0
   repeat' first
   | (with_reducible exact ih0 _ _ _ _ _ _)
   | (with_reducible exact ih1 _ _ _ _ _ _ _ _ _ _ _ _)
   | (with_reducible exact ih2 _ _ _ _ _ _ _ _ _ _ _ _)
   | (with_reducible exact ih3 _ _ _ _ _ _ _ _ _ _ _)
   | (with_reducible exact ih4 _ _ _ _ _ _ _)
   | (with_reducible exact num_Add.mono _ _ _ _ _)
   | (with_reducible exact num_Cmp.mono _ _ _ _ _)
   | (with_reducible exact num_Floor.mono _ _ _)
   | (with_reducible exact num_Neg.mono _ _ _)
   | (with_reducible exact num_Round.mono _ _ _ _)
   | (with_reducible exact whittlelaw1_able.mono _)
   | (with_reducible exact whittlelaw1_right.mono _ _ _)
   | (with_reducible exact LeO.refl _)
   | (with_reducible exact LeO.none _)
   | (with_reducible refine LeO.ite ?_ ?_)
   | (with_reducible refine LeO.bind ?_ (fun _ => ?_))
   | exact ih0 _ _ _ _ _ _
   | exact ih1 _ _ _ _ _ _ _ _ _ _ _ _
   | exact ih2 _ _ _ _ _ _ _ _ _ _ _ _
   | exact ih3 _ _ _ _ _ _ _ _ _ _ _
   | exact ih4 _ _ _ _ _ _ _
   | exact num_Add.mono _ _ _ _ _
   | exact num_Cmp.mono _ _ _ _ _
   | exact num_Floor.mono _ _ _
   | exact num_Neg.mono _ _ _
   | exact num_Round.mono _ _ _ _
   | exact whittlelaw1_able.mono _
   | exact whittlelaw1_right.mono _ _ _
   | exact LeO.none _
   | refine LeO.ite ?_ ?_
   | refine LeO.bind ?_ (fun _ => ?_)
  ·intro y0 y1 y2 y3 y4 y5 y6 y7 y8 y9 y10 y11
   unfold whittlelaw1_NumRounds.j1
   repeat' first
   | (with_reducible exact ih0 _ _ _ _ _ _)
   | (with_reducible exact ih1 _ _ _ _ _ _ _ _ _ _ _ _)
   | (with_reducible exact ih2 _ _ _ _ _ _ _ _ _ _ _ _)
   | (with_reducible exact ih3 _ _ _ _ _ _ _ _ _ _ _)
   | (with_reducible exact ih4 _ _ _ _ _ _ _)
   | (with_reducible exact num_Add.mono _ _ _ _ _)
   | (with_reducible exact num_Cmp.mono _ _ _ _ _)
   | (with_reducible exact num_Floor.mono _ _ _)
   | (with_reducible exact num_Neg.mono _ _ _)
   | (with_reducible exact num_Round.mono _ _ _ _)
   | (with_reducible exact whittlelaw1_able.mono _)
   | (with_reducible exact whittlelaw1_right.mono _ _ _)
   | (with_reducible exact LeO.refl _)
   | (with_reducible exact LeO.none _)
   | (with_reducible refine LeO.ite ?_ ?_)
   | (with_reducible refine LeO.bind ?_ (fun _ => ?_))
   | exact ih0 _ _ _ _ _ _
   | exact ih1 _ _ _ _ _ _ _ _ _ _ _ _
   | exact ih2 _ _ _ _ _ _ _ _ _ _ _ _
   | exact ih3 _ _ _ _ _ _ _ _ _ _ _
   | exact ih4 _ _ _ _ _ _ _
   | exact num_Add.mono _ _ _ _ _
   | exact num_Cmp.mono _ _ _ _ _
   | exact num_Floor.mono _ _ _
   | exact num_Neg.mono _ _ _
   | exact num_Round.mono _ _ _ _
   | exact whittlelaw1_able.mono _
   | exact whittlelaw1_right.mono _ _ _
   | exact LeO.none _
   | refine LeO.ite ?_ ?_
   | refine LeO.bind ?_ (fun _ => ?_)
  ·intro y0 y1 y2 y3 y4 y5 y6 y7 y8 y9 y10 y11
   unfold whittlelaw1_NumRounds.j2
   repeat' first
   | (with_reducible exact ih0 _ _ _ _ _ _)
   | (with_reducible exact ih1 _ _ _ _ _ _ _ _ _ _ _ _)
   | (with_reducible exact ih2 _ _ _ _ _ _ _ _ _ _ _ _)
   | (with_reducible exact ih3 _ _ _ _ _ _ _ _ _ _ _)
   | (with_reducible exact ih4 _ _ _ _ _ _ _)
   | (with_reducible exact num_Add.mono _ _ _ _ _)
   | (with_reducible exact num_Cmp.mono _ _ _ _ _)
   | (with_reducible exact num_Floor.mono _ _ _)
   | (with_reducible exact num_Neg.mono _ _ _)
   | (with_reducible exact num_Round.mono _ _ _ _)
   | (with_reducible exact whittlelaw1_able.mono _)
   | (with_reducible exact whittlelaw1_right.mono _ _ _)
   | (with_reducible exact LeO.refl _)
   | (with_reducible exact LeO.none _)
   | (with_reducible refine LeO.ite ?_ ?_)
   | (with_reducible refine LeO.bind ?_ (fun _ => ?_))
   | exact ih0 _ _ _ _ _ _
   | exact ih1 _ _ _ _ _ _ _ _ _ _ _ _
   | exact ih2 _ _ _ _ _ _ _ _ _ _ _ _
   | exact ih3 _ _ _ _ _ _ _ _ _ _ _
   | exact ih4 _ _ _ _ _ _ _
   | exact num_Add.mono _ _ _ _ _
   | exact num_Cmp.mono _ _ _ _ _
   | exact num_Floor.mono _ _ _
   | exact num_Neg.mono _ _ _
   | exact num_Round.mono _ _ _ _
   | exact whittlelaw1_able.mono _
   | exact whittlelaw1_right.mono _ _ _
   | exact LeO.none _
   | refine LeO.ite ?_ ?_
   | refine LeO.bind ?_ (fun _ => ?_)
  ·intro y0 y1 y2 y3 y4 y5 y6 y7 y8 y9 y10
   unfold whittlelaw1_NumRounds.j3
   repeat' first
   | (with_reducible exact ih0 _ _ _ _ _ _)
   | (with_reducible exact ih1 _ _ _ _ _ _ _ _ _ _ _ _)
   | (with_reducible exact ih2 _ _ _ _ _ _ _ _ _ _ _ _)
   | (with_reducible exact ih3 _ _ _ _ _ _ _ _ _ _ _)
   | (with_reducible exact ih4 _ _ _ _ _ _ _)
   | (with_reducible exact num_Add.mono _ _ _ _ _)
   | (with_reducible exact num_Cmp.mono _ _ _ _ _)
   | (with_reducible exact num_Floor.mono _ _ _)
   | (with_reducible exact num_Neg.mono _ _ _)
   | (with_reducible exact num_Round.mono _ _ _ _)
   | (with_reducible exact whittlelaw1_able.mono _)
   | (with_reducible exact whittlelaw1_right.mono _ _ _)
   | (with_reducible exact LeO.refl _)
   | (with_reducible exact LeO.none _)
   | (with_reducible refine LeO.ite ?_ ?_)
   | (with_reducible refine LeO.bind ?_ (fun _ => ?_))
   | exact ih0 _ _ _ _ _ _
   | exact ih1 _ _ _ _ _ _ _ _ _ _ _ _
   | exact ih2 _ _ _ _ _ _ _ _ _ _ _ _
   | exact ih3 _ _ _ _ _ _ _ _ _ _ _
   | exact ih4 _ _ _ _ _ _ _
   | exact num_Add.mono _ _ _ _ _
   | exact num_Cmp.mono _ _ _ _ _
   | exact num_Floor.mono _ _ _
   | exact num_Neg.mono _ _ _
   | exact num_Round.mono _ _ _ _
   | exact whittlelaw1_able.mono _
   | exact whittlelaw1_right.mono _ _ _
   | exact LeO.none _
   | refine LeO.ite ?_ ?_
   | refine LeO.bind ?_ (fun _ => ?_)
  ·intro y0 y1 y2 y3 y4 y5 y6
   unfold whittlelaw1_NumRounds.j4
   repeat' first
   | (with_reducible exact ih0 _ _ _ _ _ _)
   | (with_reducible exact ih1 _ _ _ _ _ _ _ _ _ _ _ _)
   | (with_reducible exact ih2 _ _ _ _ _ _ _ _ _ _ _ _)
   | (with_reducible exact ih3 _ _ _ _ _ _ _ _ _ _ _)
   | (with_reducible exact ih4 _ _ _ _ _ _ _)
   | (with_reducible exact num_Add.mono _ _ _ _ _)
   | (with_reducible exact num_Cmp.mono _ _ _ _ _)
   | (with_reducible exact num_Floor.mono _ _ _)
   | (with_reducible exact num_Neg.mono _ _ _)
   | (with_reducible exact num_Round.mono _ _ _ _)
   | (with_reducible exact whittlelaw1_able.mono _)
   | (with_reducible exact whittlelaw1_right.mono _ _ _)
   | (with_reducible exact LeO.refl _)
   | (with_reducible exact LeO.none _)
   | (with_reducible refine LeO.ite ?_ ?_)
   | (with_reducible refine LeO.bind ?_ (fun _ => ?_))
   | exact ih0 _ _ _ _ _ _
   | exact ih1 _ _ _ _ _ _ _ _ _ _ _ _
   | exact ih2 _ _ _ _ _ _ _ _ _ _ _ _
   | exact ih3 _ _ _ _ _ _ _ _ _ _ _
   | exact ih4 _ _ _ _ _ _ _
   | exact num_Add.mono _ _ _ _ _
   | exact num_Cmp.mono _ _ _ _ _
   | exact num_Floor.mono _ _ _
   | exact num_Neg.mono _ _ _
   | exact num_Round.mono _ _ _ _
   | exact whittlelaw1_able.mono _
   | exact whittlelaw1_right.mono _ _ _
   | exact LeO.none _
   | refine LeO.ite ?_ ?_
   | refine LeO.bind ?_ (fun _ => ?_)
theorem whittlelaw1_NumRounds.mono : ∀ a0 a1 a2 a3 a4 k, LeO (whittlelaw1_NumRounds.f k a0 a1 a2 a3 a4) (whittlelaw1_NumRounds.f (k + 1) a0 a1 a2 a3 a4) := by
 intro a0 a1 a2 a3 a4 k
 obtain ⟨ih0, ih1, ih2, ih3, ih4⟩ := whittlelaw1_NumRounds.mono_l k
 unfold whittlelaw1_NumRounds.f
 repeat' first
   | (with_reducible exact ih0 _ _ _ _ _ _)
   | (with_reducible exact ih1 _ _ _ _ _ _ _ _ _ _ _ _)
   | (with_reducible exact ih2 _ _ _ _ _ _ _ _ _ _ _ _)
   | (with_reducible exact ih3 _ _ _ _ _ _ _ _ _ _ _)
   | (with_reducible exact ih4 _ _ _ _ _ _ _)
   | (with_reducible exact num_Add.mono _ _ _ _ _)
   | (with_reducible exact num_Cmp.mono _ _ _ _ _)
   | (with_reducible exact num_Floor.mono _ _ _)
   | (with_reducible exact num_Neg.mono _ _ _)
   | (with_reducible exact num_Round.mono _ _ _ _)
   | (with_reducible exact whittlelaw1_able.mono _)
   | (with_reducible exact whittlelaw1_right.mono _ _ _)
   | (with_reducible exact LeO.refl _)
   | (with_reducible exact LeO.none _)
   | (with_reducible refine LeO.ite ?_ ?_)
   | (with_reducible refine LeO.bind ?_ (fun _ => ?_))
   | exact ih0 _ _ _ _ _ _
   | exact ih1 _ _ _ _ _ _ _ _ _ _ _ _
   | exact ih2 _ _ _ _ _ _ _ _ _ _ _ _
   | exact ih3 _ _ _ _ _ _ _ _ _ _ _
   | exact ih4 _ _ _ _ _ _ _
   | exact num_Add.mono _ _ _ _ _
   | exact num_Cmp.mono _ _ _ _ _
   | exact num_Floor.mono _ _ _
   | exact num_Neg.mono _ _ _
   | exact num_Round.mono _ _ _ _
   | exact whittlelaw1_able.mono _
   | exact whittlelaw1_right.mono _ _ _
   | exact LeO.none _
   | refine LeO.ite ?_ ?_
   | refine LeO.bind ?_ (fun _ => ?_)
def whittlelaw1_NumRounds.T8 : Bool × List (List Nat × List Nat) := (true, [([], []), ([], []), ([0, 1], [0, 1]), ([2], [2]), ([3], [3]), ([4, 3, 3], [3, 4]), ([5], [5]), ([5], [5]), ([7, 5, 5], [5, 7]), ([6, 8, 5], [5, 6, 8]), ([5, 9, 3], [3, 5, 9]), ([3, 10], [3, 10])])
def whittlelaw1_NumRounds.B8 : List Nat := [0, 0, 3, 7, 15, 31, 63, 63, 191, 511, 1023, 2047]
theorem whittlelaw1_NumRounds.tab8 : rtab .any (opsOf Tryd.f14 8) = whittlelaw1_NumRounds.T8 := by kernel_rfl
theorem whittlelaw1_NumRounds.bits8 : waitsOk whittlelaw1_NumRounds.T8.2 whittlelaw1_NumRounds.B8 = true := by kernel_rfl
def whittlelaw1_NumRounds.T19 : Bool × List (List Nat × List Nat) := (true, [([], []), ([], []), ([0, 1, 1], [0, 1]), ([2], [2]), ([3], [3]), ([3], [3]), ([], []), ([6, 4, 2, 0, 1, 2, 3, 4, 6], [4, 6]), ([5, 7, 0, 1, 2, 3, 4, 5, 6, 7], [5])])
def whittlelaw1_NumRounds.B19 : List Nat := [0, 0, 3, 7, 15, 15, 0, 95, 255]
theorem whittlelaw1_NumRounds.tab19 : rtab .any (opsOf Tryd.f14 19) = whittlelaw1_NumRounds.T19 := by kernel_rfl
theorem whittlelaw1_NumRounds.bits19 : waitsOk whittlelaw1_NumRounds.T19.2 whittlelaw1_NumRounds.B19 = true := by kernel_rfl
set_option maxHeartbeats 8000000 in
set_option maxRecDepth 100000 in
theorem whittlelaw1_NumRounds.calls (k : Nat) (a0_0 : Int) (a0_1 : Int) (a1_0 : Int) (a1_1 : Int) (a2 : Int) (r : Bool) (w : World) (HT0 : TabAt w) (hr0 : r = true) (h : whittlelaw1_NumRounds.f k a0_0 a0_1 a1_0 a1_1 a2 = some r) :
  Calls Tryd.prog 14 #[.agg #[.int .i64 a0_0, .int .i64 a0_1], .agg #[.int .i64 a1_0, .int .i64 a1_1], .int .i64 a2] w fun e w' => e = .returned (.bool r) ∧ Below w.heap.size w w' := by
 have hu23 := Tryd.underlying23
 have HT := Aside0.mk HT0
 clear HT0
 have HR := Aside0.mk hr0
 clear hr0
 have HB := Aside0.mk (Below.refl w.heap.size w)
 have H : ((whittlelaw1_able.f k).bind fun t205 => (if t205 = true then ((whittlelaw1_right.f k a0_0 a0_1).bind fun t206 => (if t206 = true then ((whittlelaw1_right.f k a1_0 a1_1).bind fun t207 => (whittlelaw1_NumRounds.j0 k a2 (!t207) a0_0 a0_1 a1_0 a1_1)) else (whittlelaw1_NumRounds.j0 k a2 true a0_0 a0_1 a1_0 a1_1))) else (whittlelaw1_NumRounds.j0 k a2 true a0_0 a0_1 a1_0 a1_1))) = some r := h
 clear h
 have HC4 := Aside0.mk H
 clear H
 go_enter Tryd.func14, Tryd.ntmps14
 go_upto_region 1 with (first | ((with_reducible refine gate_dst (N := 3) rfl ?_); refine box_event ?hg (N := 3) ?hd (cs := #[.int .i64 a0_0, .int .i64 a0_1]) (t := 23) ?hr ?_; (case hd => rfl); (case hg => rfl); (case hr => first | (go_simp; done) | (go_simp; rfl)); intro gb203 hg w5 hbox hb; have n0_ := Aside0.mk (Boxes.new (b := w.heap.size) (L := []) trivial hg hbox hb (below_size (by repeat (first | (with_reducible first | exact HB.out | apply below_alloc | apply pw_below_drewN | apply below_drew1 | refine below_set ?_ (Aside0.out (by assumption))) | exact HB.out)))); have n1_ := Aside0.mk (below_step (by repeat (first | (with_reducible first | exact HB.out | apply below_alloc | apply pw_below_drewN | apply below_drew1 | refine below_set ?_ (Aside0.out (by assumption))) | exact HB.out)) hb); have n2_ := Aside0.mk ((by rw [hg]; exact (below_size (by repeat (first | (with_reducible first | exact HB.out | apply below_alloc | apply pw_below_drewN | apply below_drew1 | refine below_set ?_ (Aside0.out (by assumption))) | exact HB.out))) : w.heap.size ≤ gb203)); clear HB; have BX := n0_; have HB := n1_; have GE203 := n2_; clear n0_ n1_ n2_; clear hb hbox hg) | ((with_reducible refine gate_dst (N := 4) rfl ?_); refine box_event ?hg (N := 4) ?hd (cs := #[.int .i64 a1_0, .int .i64 a1_1]) (t := 23) ?hr ?_; (case hd => rfl); (case hg => rfl); (case hr => first | (go_simp; done) | (go_simp; rfl)); intro gb204 hg w6 hbox hb; have n0_ := Aside0.mk (Boxes.new (by (with_reducible repeat (first | apply boxes_drewN | apply boxes_drew | apply boxes_alloc)); exact BX.out) hg hbox hb (below_size (by repeat (first | (with_reducible first | exact HB.out | apply below_alloc | apply pw_below_drewN | apply below_drew1 | refine below_set ?_ (Aside0.out (by assumption))) | exact HB.out)))); have n1_ := Aside0.mk (below_step (by repeat (first | (with_reducible first | exact HB.out | apply below_alloc | apply pw_below_drewN | apply below_drew1 | refine below_set ?_ (Aside0.out (by assumption))) | exact HB.out)) hb); have n2_ := Aside0.mk ((by rw [hg]; exact (below_size (by repeat (first | (with_reducible first | exact HB.out | apply below_alloc | apply pw_below_drewN | apply below_drew1 | refine below_set ?_ (Aside0.out (by assumption))) | exact HB.out))) : w.heap.size ≤ gb204)); clear BX HB; have BX := n0_; have HB := n1_; have GE204 := n2_; clear n0_ n1_ n2_; clear hb hbox hg))
 (try simp only [Act.put, List.setIfInBounds_toArray, List.set_cons_zero, List.set_cons_succ])
 go_cut [29] (fun v29 wc => ∃ (kq : Nat) (x29_3 : Bool), v29 = .bool x29_3 ∧ Aside0 (whittlelaw1_NumRounds.j0 kq a2 x29_3 a0_0 a0_1 a1_0 a1_1 = some r) ∧ Aside0 (kq ≤ k) ∧ Aside0 (Boxes w.heap.size wc [(gb204, 23, #[.int .i64 a1_0, .int .i64 a1_1]), (gb203, 23, #[.int .i64 a0_0, .int .i64 a0_1])]) ∧ Aside0 (Below w.heap.size w wc))
 case first =>
  have H := HC4.out
  clear HC4
  replace H := Option.bind_eq_some_iff.mp H
  obtain ⟨t205, A70, H⟩ := H
  replace H : (if t205 = true then ((whittlelaw1_right.f k a0_0 a0_1).bind fun t206 => (if t206 = true then ((whittlelaw1_right.f k a1_0 a1_1).bind fun t207 => (whittlelaw1_NumRounds.j0 k a2 (!t207) a0_0 a0_1 a1_0 a1_1)) else (whittlelaw1_NumRounds.j0 k a2 true a0_0 a0_1 a1_0 a1_1))) else (whittlelaw1_NumRounds.j0 k a2 true a0_0 a0_1 a1_0 a1_1)) = some r := H
  have A7 := Aside0.mk A70
  clear A70
  by_cases c8 : t205 = true
  ·subst c8
   have H1 : ((whittlelaw1_right.f k a0_0 a0_1).bind fun t206 => (if t206 = true then ((whittlelaw1_right.f k a1_0 a1_1).bind fun t207 => (whittlelaw1_NumRounds.j0 k a2 (!t207) a0_0 a0_1 a1_0 a1_1)) else (whittlelaw1_NumRounds.j0 k a2 true a0_0 a0_1 a1_0 a1_1))) = some r := by rw [if_pos rfl] at H; exact H
   clear H
   have H := H1
   clear H1
   replace H := Option.bind_eq_some_iff.mp H
   obtain ⟨t206, A90, H⟩ := H
   replace H : (if t206 = true then ((whittlelaw1_right.f k a1_0 a1_1).bind fun t207 => (whittlelaw1_NumRounds.j0 k a2 (!t207) a0_0 a0_1 a1_0 a1_1)) else (whittlelaw1_NumRounds.j0 k a2 true a0_0 a0_1 a1_0 a1_1)) = some r := H
   have A9 := Aside0.mk A90
   clear A90
   by_cases c10 : t206 = true
   ·subst c10
    have H1 : ((whittlelaw1_right.f k a1_0 a1_1).bind fun t207 => (whittlelaw1_NumRounds.j0 k a2 (!t207) a0_0 a0_1 a1_0 a1_1)) = some r := by rw [if_pos rfl] at H; exact H
    clear H
    have H := H1
    clear H1
    replace H := Option.bind_eq_some_iff.mp H
    obtain ⟨t207, A110, H⟩ := H
    replace H : (whittlelaw1_NumRounds.j0 k a2 (!t207) a0_0 a0_1 a1_0 a1_1) = some r := H
    have A11 := Aside0.mk A110
    clear A110
    have H' := Aside0.mk H
    clear H
    go_wp2_with (first | ((with_reducible refine gate_callee (f := 22) rfl ?_); refine goesL_ (some 18) rfl rfl Tryd.func22 (by kernel_rfl) rfl #[] rfl (by (try simp only [List.map_toArray, List.map_cons, List.map_nil]); first | done | rfl | (simp only [List.length_drop, List.length_take]; rfl)) ?_; (with_reducible refine (whittlelaw1_able.calls k  true _ ?side1 A7.out).mono ?_); (case side1 => exact HT.out.on (by repeat (first | (with_reducible first | exact HB.out | apply below_alloc | apply pw_below_drewN | apply below_drew1 | refine below_set ?_ (Aside0.out (by assumption))) | exact HB.out))); rintro e w12 ⟨rfl, hb⟩; refine ⟨_, rfl, ?_⟩; have n0_ := Aside0.mk (Boxes.below (by (with_reducible repeat (first | apply boxes_drewN | apply boxes_drew | apply boxes_alloc)); exact BX.out) hb); have n1_ := Aside0.mk (below_step (by repeat (first | (with_reducible first | exact HB.out | apply below_alloc | apply pw_below_drewN | apply below_drew1 | refine below_set ?_ (Aside0.out (by assumption))) | exact HB.out)) hb); clear BX HB; have BX := n0_; have HB := n1_; clear n0_ n1_; (try clear hb); (try clear hb2); (try clear hk); (try clear hi); obtain ⟨⟨hnc13, hnb13⟩, -⟩ := BX.out.apart 0 rfl; have hcz14_0 : w12.cell? ⟨gb203, 0, none⟩ = some (.int .i64 a0_0) := (blk_cell (BX.out.get 1 rfl) 0).trans rfl; have hcz14_1 : w12.cell? ⟨gb203, 1, none⟩ = some (.int .i64 a0_1) := (blk_cell (BX.out.get 1 rfl) 1).trans rfl; have hfz14_0 := blk_frozen (BX.out.get 1 rfl) 0; have hfz14_1 := blk_frozen (BX.out.get 1 rfl) 1) | (go_at_call 31; (with_reducible refine (whittlelaw1_right.calls k a0_0 a0_1 true _ A9.out).mono ?_); rintro e w15 ⟨rfl, hb⟩; have n0_ := Aside0.mk (Boxes.below (by (with_reducible repeat (first | apply boxes_drewN | apply boxes_drew | apply boxes_alloc)); exact BX.out) hb); have n1_ := Aside0.mk (below_step (by repeat (first | (with_reducible first | exact HB.out | apply below_alloc | apply pw_below_drewN | apply below_drew1 | refine below_set ?_ (Aside0.out (by assumption))) | exact HB.out)) hb); clear BX HB; have BX := n0_; have HB := n1_; clear n0_ n1_; (try clear hb); (try clear hb2); (try clear hk); (try clear hi); have hcz16_0 : w15.cell? ⟨gb204, 0, none⟩ = some (.int .i64 a1_0) := (blk_cell (BX.out.get 0 rfl) 0).trans rfl; have hcz16_1 : w15.cell? ⟨gb204, 1, none⟩ = some (.int .i64 a1_1) := (blk_cell (BX.out.get 0 rfl) 1).trans rfl; have hfz16_0 := blk_frozen (BX.out.get 0 rfl) 0; have hfz16_1 := blk_frozen (BX.out.get 0 rfl) 1) | (go_at_call 31; (with_reducible refine (whittlelaw1_right.calls k a1_0 a1_1 t207 _ A11.out).mono ?_); rintro e w17 ⟨rfl, hb⟩; have n0_ := Aside0.mk (Boxes.below (by (with_reducible repeat (first | apply boxes_drewN | apply boxes_drew | apply boxes_alloc)); exact BX.out) hb); have n1_ := Aside0.mk (below_step (by repeat (first | (with_reducible first | exact HB.out | apply below_alloc | apply pw_below_drewN | apply below_drew1 | refine below_set ?_ (Aside0.out (by assumption))) | exact HB.out)) hb); clear BX HB; have BX := n0_; have HB := n1_; clear n0_ n1_; (try clear hb); (try clear hb2); (try clear hk); (try clear hi)))
    go_meet
    case rel => exact ⟨_, (!t207), (by first | rfl | (simp; done) | (simp [*]; done) | (simp [bne_nil]; done)), H', ⟨by first | omega | exact Nat.le_refl _⟩, ⟨by (with_reducible repeat (first | apply boxes_drewN | apply boxes_drew | apply boxes_alloc)); exact BX.out⟩, ⟨by repeat (first | (with_reducible first | exact HB.out | apply below_alloc | apply pw_below_drewN | apply below_drew1 | refine below_set ?_ (Aside0.out (by assumption))) | exact HB.out)⟩⟩
   ·replace c10 := Bool.eq_false_iff.mpr c10
    subst c10
    have H1 : (whittlelaw1_NumRounds.j0 k a2 true a0_0 a0_1 a1_0 a1_1) = some r := by rw [if_neg (show ¬ (false = true) by decide)] at H; exact H
    clear H
    have H := H1
    clear H1
    have H' := Aside0.mk H
    clear H
    go_wp2_with (first | ((with_reducible refine gate_callee (f := 22) rfl ?_); refine goesL_ (some 18) rfl rfl Tryd.func22 (by kernel_rfl) rfl #[] rfl (by (try simp only [List.map_toArray, List.map_cons, List.map_nil]); first | done | rfl | (simp only [List.length_drop, List.length_take]; rfl)) ?_; (with_reducible refine (whittlelaw1_able.calls k  true _ ?side1 A7.out).mono ?_); (case side1 => exact HT.out.on (by repeat (first | (with_reducible first | exact HB.out | apply below_alloc | apply pw_below_drewN | apply below_drew1 | refine below_set ?_ (Aside0.out (by assumption))) | exact HB.out))); rintro e w18 ⟨rfl, hb⟩; refine ⟨_, rfl, ?_⟩; have n0_ := Aside0.mk (Boxes.below (by (with_reducible repeat (first | apply boxes_drewN | apply boxes_drew | apply boxes_alloc)); exact BX.out) hb); have n1_ := Aside0.mk (below_step (by repeat (first | (with_reducible first | exact HB.out | apply below_alloc | apply pw_below_drewN | apply below_drew1 | refine below_set ?_ (Aside0.out (by assumption))) | exact HB.out)) hb); clear BX HB; have BX := n0_; have HB := n1_; clear n0_ n1_; (try clear hb); (try clear hb2); (try clear hk); (try clear hi); obtain ⟨⟨hnc19, hnb19⟩, -⟩ := BX.out.apart 0 rfl; have hcz20_0 : w18.cell? ⟨gb203, 0, none⟩ = some (.int .i64 a0_0) := (blk_cell (BX.out.get 1 rfl) 0).trans rfl; have hcz20_1 : w18.cell? ⟨gb203, 1, none⟩ = some (.int .i64 a0_1) := (blk_cell (BX.out.get 1 rfl) 1).trans rfl; have hfz20_0 := blk_frozen (BX.out.get 1 rfl) 0; have hfz20_1 := blk_frozen (BX.out.get 1 rfl) 1) | (go_at_call 31; (with_reducible refine (whittlelaw1_right.calls k a0_0 a0_1 false _ A9.out).mono ?_); rintro e w21 ⟨rfl, hb⟩; have n0_ := Aside0.mk (Boxes.below (by (with_reducible repeat (first | apply boxes_drewN | apply boxes_drew | apply boxes_alloc)); exact BX.out) hb); have n1_ := Aside0.mk (below_step (by repeat (first | (with_reducible first | exact HB.out | apply below_alloc | apply pw_below_drewN | apply below_drew1 | refine below_set ?_ (Aside0.out (by assumption))) | exact HB.out)) hb); clear BX HB; have BX := n0_; have HB := n1_; clear n0_ n1_; (try clear hb); (try clear hb2); (try clear hk); (try clear hi)))
    go_meet
    case rel => exact ⟨_, (true), (by first | rfl | (simp; done) | (simp [*]; done) | (simp [bne_nil]; done)), H', ⟨by first | omega | exact Nat.le_refl _⟩, ⟨by (with_reducible repeat (first | apply boxes_drewN | apply boxes_drew | apply boxes_alloc)); exact BX.out⟩, ⟨by repeat (first | (with_reducible first | exact HB.out | apply below_alloc | apply pw_below_drewN | apply below_drew1 | refine below_set ?_ (Aside0.out (by assumption))) | exact HB.out)⟩⟩
  ·replace c8 := Bool.eq_false_iff.mpr c8
   subst c8
   have H1 : (whittlelaw1_NumRounds.j0 k a2 true a0_0 a0_1 a1_0 a1_1) = some r := by rw [if_neg (show ¬ (false = true) by decide)] at H; exact H
   clear H
   have H := H1
   clear H1
   have H' := Aside0.mk H
   clear H
   go_wp2_with (first | ((with_reducible refine gate_callee (f := 22) rfl ?_); refine goesL_ (some 18) rfl rfl Tryd.func22 (by kernel_rfl) rfl #[] rfl (by (try simp only [List.map_toArray, List.map_cons, List.map_nil]); first | done | rfl | (simp only [List.length_drop, List.length_take]; rfl)) ?_; (with_reducible refine (whittlelaw1_able.calls k  false _ ?side1 A7.out).mono ?_); (case side1 => exact HT.out.on (by repeat (first | (with_reducible first | exact HB.out | apply below_alloc | apply pw_below_drewN | apply below_drew1 | refine below_set ?_ (Aside0.out (by assumption))) | exact HB.out))); rintro e w22 ⟨rfl, hb⟩; refine ⟨_, rfl, ?_⟩; have n0_ := Aside0.mk (Boxes.below (by (with_reducible repeat (first | apply boxes_drewN | apply boxes_drew | apply boxes_alloc)); exact BX.out) hb); have n1_ := Aside0.mk (below_step (by repeat (first | (with_reducible first | exact HB.out | apply below_alloc | apply pw_below_drewN | apply below_drew1 | refine below_set ?_ (Aside0.out (by assumption))) | exact HB.out)) hb); clear BX HB; have BX := n0_; have HB := n1_; clear n0_ n1_; (try clear hb); (try clear hb2); (try clear hk); (try clear hi)))
   go_meet
   case rel => exact ⟨_, (true), (by first | rfl | (simp; done) | (simp [*]; done) | (simp [bne_nil]; done)), H', ⟨by first | omega | exact Nat.le_refl _⟩, ⟨by (with_reducible repeat (first | apply boxes_drewN | apply boxes_drew | apply boxes_alloc)); exact BX.out⟩, ⟨by repeat (first | (with_reducible first | exact HB.out | apply below_alloc | apply pw_below_drewN | apply below_drew1 | refine below_set ?_ (Aside0.out (by assumption))) | exact HB.out)⟩⟩
 case rest =>
  clear HC4
  try clear c1
  try clear c2
  try clear p2
  try clear c8
  try clear c10
  try clear c13
  try clear c14
  try clear c19
  try clear c22
  try clear hcz14_0
  try clear hcz14_1
  try clear hcz16_0
  try clear hcz16_1
  try clear hcz20_0
  try clear hcz20_1
  try clear hfz14_0
  try clear hfz14_1
  try clear hfz16_0
  try clear hfz16_1
  try clear hfz20_0
  try clear hfz20_1
  obtain ⟨kq, x29_3, rfl, HA, HJ3, BX, HB⟩ := hcut
  cases kq with
  | zero => exact absurd HA.out (by simp [whittlelaw1_NumRounds.j0])
  | succ kj3 =>
   have H := HA.out
   clear HA
   simp only [whittlelaw1_NumRounds.j0] at H
   by_cases c23 : x29_3 = true
   ·subst c23
    have H1 : ((whittlelaw1_able.f kj3).bind fun t208 => (some t208)) = some r := by rw [if_pos rfl] at H; exact H
    clear H
    have H := H1
    clear H1
    replace H := Option.bind_eq_some_iff.mp H
    obtain ⟨t208, A240, H⟩ := H
    replace H : (some t208) = some r := H
    have A24 := Aside0.mk A240
    clear A240
    clear HR
    obtain rfl := Option.some.inj H
    go_wp2_with (first | ((with_reducible refine gate_callee (f := 22) rfl ?_); refine goesL_ (some 30) rfl rfl Tryd.func22 (by kernel_rfl) rfl #[] rfl (by (try simp only [List.map_toArray, List.map_cons, List.map_nil]); first | done | rfl | (simp only [List.length_drop, List.length_take]; rfl)) ?_; (with_reducible refine (whittlelaw1_able.calls kj3  t208 _ ?side1 A24.out).mono ?_); (case side1 => exact HT.out.on (by repeat (first | (with_reducible first | exact HB.out | apply below_alloc | apply pw_below_drewN | apply below_drew1 | refine below_set ?_ (Aside0.out (by assumption))) | exact HB.out))); rintro e w25 ⟨rfl, hb⟩; refine ⟨_, rfl, ?_⟩; have n0_ := Aside0.mk (Boxes.below (by (with_reducible repeat (first | apply boxes_drewN | apply boxes_drew | apply boxes_alloc)); exact BX.out) hb); have n1_ := Aside0.mk (below_step (by repeat (first | (with_reducible first | exact HB.out | apply below_alloc | apply pw_below_drewN | apply below_drew1 | refine below_set ?_ (Aside0.out (by assumption))) | exact HB.out)) hb); clear BX HB; have BX := n0_; have HB := n1_; clear n0_ n1_; (try clear hb); (try clear hb2); (try clear hk); (try clear hi)))
    go_ret
    exact ⟨by first | rfl | (simp [errW_none, errW_some] <;> rfl) | (simp [*, errW_none, errW_some] <;> rfl), by repeat (first | (with_reducible first | exact HB.out | apply below_alloc | apply pw_below_drewN | apply below_drew1 | refine below_set ?_ (Aside0.out (by assumption))) | exact HB.out)⟩
   ·replace c23 := Bool.eq_false_iff.mpr c23
    subst c23
    have H1 : ((num_Round.f kj3 a0_0 a0_1 a2).bind fun bt209 => ((num_Round.f kj3 a1_0 a1_1 a2).bind fun bt213 => (if a2 < (-12) then (whittlelaw1_NumRounds.j1 kj3 a2 bt209.2.2 bt213.2.2 true a0_0 a0_1 a1_0 a1_1 bt209.1 bt209.2.1 bt213.1 bt213.2.1) else (whittlelaw1_NumRounds.j1 kj3 a2 bt209.2.2 bt213.2.2 (decide (a2 > 6)) a0_0 a0_1 a1_0 a1_1 bt209.1 bt209.2.1 bt213.1 bt213.2.1)))) = some r := by rw [if_neg (show ¬ (false = true) by decide)] at H; exact H
    clear H
    have H := H1
    clear H1
    replace H := Option.bind_eq_some_iff.mp H
    obtain ⟨⟨t209, t210, t211⟩, A260, H⟩ := H
    have A26 := Aside0.mk A260
    clear A260
    replace H := Option.bind_eq_some_iff.mp H
    obtain ⟨⟨t213, t214, t215⟩, A270, H⟩ := H
    replace H : (if a2 < (-12) then (whittlelaw1_NumRounds.j1 kj3 a2 t211 t215 true a0_0 a0_1 a1_0 a1_1 t209 t210 t213 t214) else (whittlelaw1_NumRounds.j1 kj3 a2 t211 t215 (decide (a2 > 6)) a0_0 a0_1 a1_0 a1_1 t209 t210 t213 t214)) = some r := H
    have A27 := Aside0.mk A270
    clear A270
    have HC28 := Aside0.mk H
    clear H
    obtain ⟨⟨hnc29, hnb29⟩, -⟩ := BX.out.apart 0 rfl
    have hcz30_0 : wc.cell? ⟨gb203, 0, none⟩ = some (.int .i64 a0_0) := (blk_cell (BX.out.get 1 rfl) 0).trans rfl
    have hcz30_1 : wc.cell? ⟨gb203, 1, none⟩ = some (.int .i64 a0_1) := (blk_cell (BX.out.get 1 rfl) 1).trans rfl
    have hfz30_0 := blk_frozen (BX.out.get 1 rfl) 0
    have hfz30_1 := blk_frozen (BX.out.get 1 rfl) 1
    go_upto_region 5 with (first | ((with_reducible refine gate_callee (f := 45) rfl ?_); refine goesL_ (some 34) rfl rfl Tryd.func45 (by kernel_rfl) rfl #[.agg #[.int .i64 a0_0, .int .i64 a0_1], .int .i64 a2] rfl (by (try simp only [List.map_toArray, List.map_cons, List.map_nil]); first | done | rfl | (simp only [List.length_drop, List.length_take]; rfl)) ?_; (with_reducible refine (num_Round.calls kj3 a0_0 a0_1 a2 t209 t210 t211 _ A26.out).mono ?_); rintro e w31 ⟨rfl, hb⟩; refine ⟨_, rfl, ?_⟩; have n0_ := Aside0.mk (Boxes.below (by (with_reducible repeat (first | apply boxes_drewN | apply boxes_drew | apply boxes_alloc)); exact BX.out) hb); have n1_ := Aside0.mk (below_step (by repeat (first | (with_reducible first | exact HB.out | apply below_alloc | apply pw_below_drewN | apply below_drew1 | refine below_set ?_ (Aside0.out (by assumption))) | exact HB.out)) hb); clear BX HB; have BX := n0_; have HB := n1_; clear n0_ n1_; (try clear hb); (try clear hb2); (try clear hk); (try clear hi)) | ((with_reducible refine gate_dst (N := 7) rfl ?_); refine box_event ?hg (N := 7) ?hd (cs := #[.int .i64 0, .int .i64 0]) (t := 23) ?hr ?_; (case hd => rfl); (case hg => rfl); (case hr => first | (go_simp; done) | (go_simp; rfl)); intro gb212 hg w32 hbox hb; have n0_ := Aside0.mk (Boxes.new (by (with_reducible repeat (first | apply boxes_drewN | apply boxes_drew | apply boxes_alloc)); exact BX.out) hg hbox hb (below_size (by repeat (first | (with_reducible first | exact HB.out | apply below_alloc | apply pw_below_drewN | apply below_drew1 | refine below_set ?_ (Aside0.out (by assumption))) | exact HB.out)))); have n1_ := Aside0.mk (below_step (by repeat (first | (with_reducible first | exact HB.out | apply below_alloc | apply pw_below_drewN | apply below_drew1 | refine below_set ?_ (Aside0.out (by assumption))) | exact HB.out)) hb); have n2_ := Aside0.mk ((by rw [hg]; exact (below_size (by repeat (first | (with_reducible first | exact HB.out | apply below_alloc | apply pw_below_drewN | apply below_drew1 | refine below_set ?_ (Aside0.out (by assumption))) | exact HB.out))) : w.heap.size ≤ gb212)); clear BX HB; have BX := n0_; have HB := n1_; have GE212 := n2_; clear n0_ n1_ n2_; clear hb hbox hg; obtain ⟨⟨hnb34, hnc34⟩, ⟨hnb33, hnc33⟩, -⟩ := BX.out.apart 0 rfl; have hcz35_0 : w32.cell? ⟨gb212, 0, none⟩ = some (.int .i64 0) := (blk_cell (BX.out.get 0 rfl) 0).trans rfl; have hcz35_1 : w32.cell? ⟨gb212, 1, none⟩ = some (.int .i64 0) := (blk_cell (BX.out.get 0 rfl) 1).trans rfl; have hfz35_0 := blk_frozen (BX.out.get 0 rfl) 0; have hfz35_1 := blk_frozen (BX.out.get 0 rfl) 1; have hcz36_0 : w32.cell? ⟨gb204, 0, none⟩ = some (.int .i64 a1_0) := (blk_cell (BX.out.get 1 rfl) 0).trans rfl; have hcz36_1 : w32.cell? ⟨gb204, 1, none⟩ = some (.int .i64 a1_1) := (blk_cell (BX.out.get 1 rfl) 1).trans rfl; have hfz36_0 := blk_frozen (BX.out.get 1 rfl) 0; have hfz36_1 := blk_frozen (BX.out.get 1 rfl) 1) | ((with_reducible refine gate_callee (f := 45) rfl ?_); refine goesL_ (some 40) rfl rfl Tryd.func45 (by kernel_rfl) rfl #[.agg #[.int .i64 a1_0, .int .i64 a1_1], .int .i64 a2] rfl (by (try simp only [List.map_toArray, List.map_cons, List.map_nil]); first | done | rfl | (simp only [List.length_drop, List.length_take]; rfl)) ?_; (with_reducible refine (num_Round.calls kj3 a1_0 a1_1 a2 t213 t214 t215 _ A27.out).mono ?_); rintro e w37 ⟨rfl, hb⟩; refine ⟨_, rfl, ?_⟩; have n0_ : Aside0 (Boxes w.heap.size _ ((gb212, 23, #[.int .i64 t209, .int .i64 t210]) :: _)) := ⟨Boxes.below (by (with_reducible repeat (first | apply boxes_drewN | apply boxes_drew | apply boxes_alloc)); apply boxes_put 0; (with_reducible repeat (first | apply boxes_drewN | apply boxes_drew | apply boxes_alloc)); apply boxes_put 0; (with_reducible repeat (first | apply boxes_drewN | apply boxes_drew | apply boxes_alloc)); exact BX.out; any_goals rfl) hb⟩; have n1_ := Aside0.mk (below_step (by repeat (first | (with_reducible first | exact HB.out | apply below_alloc | apply pw_below_drewN | apply below_drew1 | refine below_set ?_ (Aside0.out (by assumption))) | exact HB.out)) hb); clear BX HB; have BX := n0_; have HB := n1_; clear n0_ n1_; (try clear hb); (try clear hb2); (try clear hk); (try clear hi)) | ((with_reducible refine gate_dst (N := 9) rfl ?_); refine box_event ?hg (N := 9) ?hd (cs := #[.int .i64 0, .int .i64 0]) (t := 23) ?hr ?_; (case hd => rfl); (case hg => rfl); (case hr => first | (go_simp; done) | (go_simp; rfl)); intro gb216 hg w38 hbox hb; have n0_ := Aside0.mk (Boxes.new (by (with_reducible repeat (first | apply boxes_drewN | apply boxes_drew | apply boxes_alloc)); exact BX.out) hg hbox hb (below_size (by repeat (first | (with_reducible first | exact HB.out | apply below_alloc | apply pw_below_drewN | apply below_drew1 | refine below_set ?_ (Aside0.out (by assumption))) | exact HB.out)))); have n1_ := Aside0.mk (below_step (by repeat (first | (with_reducible first | exact HB.out | apply below_alloc | apply pw_below_drewN | apply below_drew1 | refine below_set ?_ (Aside0.out (by assumption))) | exact HB.out)) hb); have n2_ := Aside0.mk ((by rw [hg]; exact (below_size (by repeat (first | (with_reducible first | exact HB.out | apply below_alloc | apply pw_below_drewN | apply below_drew1 | refine below_set ?_ (Aside0.out (by assumption))) | exact HB.out))) : w.heap.size ≤ gb216)); clear BX HB; have BX := n0_; have HB := n1_; have GE216 := n2_; clear n0_ n1_ n2_; clear hb hbox hg; obtain ⟨⟨hnb41, hnc41⟩, ⟨hnb40, hnc40⟩, ⟨hnb39, hnc39⟩, -⟩ := BX.out.apart 0 rfl; have hcz42_0 : w38.cell? ⟨gb216, 0, none⟩ = some (.int .i64 0) := (blk_cell (BX.out.get 0 rfl) 0).trans rfl; have hcz42_1 : w38.cell? ⟨gb216, 1, none⟩ = some (.int .i64 0) := (blk_cell (BX.out.get 0 rfl) 1).trans rfl; have hfz42_0 := blk_frozen (BX.out.get 0 rfl) 0; have hfz42_1 := blk_frozen (BX.out.get 0 rfl) 1))
    (try simp only [Act.put, List.setIfInBounds_toArray, List.set_cons_zero, List.set_cons_succ])
    go_cut [48] (fun v48 wc => ∃ (kq : Nat) (x48_27 : Bool), v48 = .bool x48_27 ∧ Aside0 (whittlelaw1_NumRounds.j1 kq a2 t211 t215 x48_27 a0_0 a0_1 a1_0 a1_1 t209 t210 t213 t214 = some r) ∧ Aside0 (kq ≤ kj3) ∧ Aside0 (Boxes w.heap.size wc [(gb216, 23, #[.int .i64 t213, .int .i64 t214]), (gb212, 23, #[.int .i64 t209, .int .i64 t210]), (gb204, 23, #[.int .i64 a1_0, .int .i64 a1_1]), (gb203, 23, #[.int .i64 a0_0, .int .i64 a0_1])]) ∧ Aside0 (Below w.heap.size w wc))
    case first =>
     have H := HC28.out
     clear HC28
     by_cases c43 : a2 < (-12)
     ·rw [if_pos c43] at H
      have c43b0 : decide (a2 < (-12)) = true := decide_eq_true c43
      clear c43
      (first | rw [c43b0] | (simp only [i64_w, i32_w]; rw [c43b0]) | skip)
      have H' := Aside0.mk H
      clear H
      go_wp2
      go_meet
      case rel => exact ⟨_, (true), (by first | rfl | (simp; done) | (simp [*]; done) | (simp [bne_nil]; done)), H', ⟨by have := HJ3.out; first | omega | exact Nat.le_refl _⟩, ⟨by (with_reducible repeat (first | apply boxes_drewN | apply boxes_drew | apply boxes_alloc)); apply boxes_put 0; (with_reducible repeat (first | apply boxes_drewN | apply boxes_drew | apply boxes_alloc)); apply boxes_put 0; (with_reducible repeat (first | apply boxes_drewN | apply boxes_drew | apply boxes_alloc)); exact BX.out; any_goals rfl⟩, ⟨by repeat (first | (with_reducible first | exact HB.out | apply below_alloc | apply pw_below_drewN | apply below_drew1 | refine below_set ?_ (Aside0.out (by assumption))) | exact HB.out)⟩⟩
     ·rw [if_neg c43] at H
      have c43b0 : decide (a2 < (-12)) = false := decide_eq_false c43
      clear c43
      (first | rw [c43b0] | (simp only [i64_w, i32_w]; rw [c43b0]) | skip)
      have H' := Aside0.mk H
      clear H
      go_wp2
      go_meet
      case rel => exact ⟨_, (decide (a2 > 6)), (by first | rfl | (simp; done) | (simp [*]; done) | (simp [bne_nil]; done)), H', ⟨by have := HJ3.out; first | omega | exact Nat.le_refl _⟩, ⟨by (with_reducible repeat (first | apply boxes_drewN | apply boxes_drew | apply boxes_alloc)); apply boxes_put 0; (with_reducible repeat (first | apply boxes_drewN | apply boxes_drew | apply boxes_alloc)); apply boxes_put 0; (with_reducible repeat (first | apply boxes_drewN | apply boxes_drew | apply boxes_alloc)); exact BX.out; any_goals rfl⟩, ⟨by repeat (first | (with_reducible first | exact HB.out | apply below_alloc | apply pw_below_drewN | apply below_drew1 | refine below_set ?_ (Aside0.out (by assumption))) | exact HB.out)⟩⟩
    case rest =>
     clear HC28
     try clear c1
     try clear c2
     try clear p2
     try clear c3
     try clear c4
     try clear c8
     try clear c10
     try clear c13
     try clear c14
     try clear c19
     try clear c22
     try clear c23
     try clear c29
     try clear c33
     try clear c34
     try clear c39
     try clear c40
     try clear c41
     try clear c43
     try clear c43b0
     try clear hcz14_0
     try clear hcz14_1
     try clear hcz16_0
     try clear hcz16_1
     try clear hcz20_0
     try clear hcz20_1
     try clear hcz30_0
     try clear hcz30_1
     try clear hcz35_0
     try clear hcz35_1
     try clear hcz36_0
     try clear hcz36_1
     try clear hcz42_0
     try clear hcz42_1
     try clear hfz14_0
     try clear hfz14_1
     try clear hfz16_0
     try clear hfz16_1
     try clear hfz20_0
     try clear hfz20_1
     try clear hfz30_0
     try clear hfz30_1
     try clear hfz35_0
     try clear hfz35_1
     try clear hfz36_0
     try clear hfz36_1
     try clear hfz42_0
     try clear hfz42_1
     try clear p2
     obtain ⟨kq, x48_27, rfl, HA, HJ27, BX, HB⟩ := hcut
     cases kq with
     | zero => exact absurd HA.out (by simp [whittlelaw1_NumRounds.j1])
     | succ kj27 =>
      have H := HA.out
      clear HA
      simp only [whittlelaw1_NumRounds.j1] at H
      by_cases c44 : x48_27 = true
      ·subst c44
       have H1 : (if t211 = true then (some false) else (some (!t215))) = some r := by rw [if_pos rfl] at H; exact H
       clear H
       have H := H1
       clear H1
       by_cases c45 : t211 = true
       ·subst c45
        have H1 : (some false) = some r := by rw [if_pos rfl] at H; exact H
        clear H
        have H := H1
        clear H1
        exact absurd (Option.some.inj H) (by rw [HR.out]; decide)
       ·replace c45 := Bool.eq_false_iff.mpr c45
        subst c45
        have H1 : (some (!t215)) = some r := by rw [if_neg (show ¬ (false = true) by decide)] at H; exact H
        clear H
        have H := H1
        clear H1
        clear HR
        obtain rfl := Option.some.inj H
        go_wp2
        go_ret
        exact ⟨by first | rfl | (simp [errW_none, errW_some] <;> rfl) | (simp [*, errW_none, errW_some] <;> rfl), by repeat (first | (with_reducible first | exact HB.out | apply below_alloc | apply pw_below_drewN | apply below_drew1 | refine below_set ?_ (Aside0.out (by assumption))) | exact HB.out)⟩
      ·replace c44 := Bool.eq_false_iff.mpr c44
       subst c44
       have H1 : ((num_Neg.f kj27 a0_0 a0_1).bind fun bt217 => ((num_Round.f kj27 bt217.1 bt217.2 a2).bind fun bt219 => (if (bt219.2.2 != t211) = true then (whittlelaw1_NumRounds.j2 kj27 a2 t211 t215 true a0_0 a0_1 a1_0 a1_1 t209 t210 t213 t214) else (if t211 = true then ((num_Neg.f kj27 t209 t210).bind fun bt223 => (whittlelaw1_NumRounds.j2 kj27 a2 t211 t215 (!(bt219.1 == bt223.1) || (!(bt219.2.1 == bt223.2))) a0_0 a0_1 a1_0 a1_1 t209 t210 t213 t214)) else (whittlelaw1_NumRounds.j2 kj27 a2 t211 t215 false a0_0 a0_1 a1_0 a1_1 t209 t210 t213 t214))))) = some r := by rw [if_neg (show ¬ (false = true) by decide)] at H; exact H
       clear H
       have H := H1
       clear H1
       replace H := Option.bind_eq_some_iff.mp H
       obtain ⟨⟨t217, t218⟩, A460, H⟩ := H
       have A46 := Aside0.mk A460
       clear A460
       replace H := Option.bind_eq_some_iff.mp H
       obtain ⟨⟨t219, t220, t221⟩, A470, H⟩ := H
       replace H : (if (t221 != t211) = true then (whittlelaw1_NumRounds.j2 kj27 a2 t211 t215 true a0_0 a0_1 a1_0 a1_1 t209 t210 t213 t214) else (if t211 = true then ((num_Neg.f kj27 t209 t210).bind fun bt223 => (whittlelaw1_NumRounds.j2 kj27 a2 t211 t215 (!(t219 == bt223.1) || (!(t220 == bt223.2))) a0_0 a0_1 a1_0 a1_1 t209 t210 t213 t214)) else (whittlelaw1_NumRounds.j2 kj27 a2 t211 t215 false a0_0 a0_1 a1_0 a1_1 t209 t210 t213 t214))) = some r := H
       have A47 := Aside0.mk A470
       clear A470
       have HC48 := Aside0.mk H
       clear H
       obtain ⟨⟨hnb51, hnc51⟩, ⟨hnb50, hnc50⟩, ⟨hnb49, hnc49⟩, -⟩ := BX.out.apart 3 rfl
       have hcz52_0 : wc.cell? ⟨gb203, 0, none⟩ = some (.int .i64 a0_0) := (blk_cell (BX.out.get 3 rfl) 0).trans rfl
       have hcz52_1 : wc.cell? ⟨gb203, 1, none⟩ = some (.int .i64 a0_1) := (blk_cell (BX.out.get 3 rfl) 1).trans rfl
       have hfz52_0 := blk_frozen (BX.out.get 3 rfl) 0
       have hfz52_1 := blk_frozen (BX.out.get 3 rfl) 1
       go_upto_region 8 with (first | ((with_reducible refine gate_callee (f := 46) rfl ?_); refine goesL_ (some 57) rfl rfl Tryd.func46 (by kernel_rfl) rfl #[.agg #[.int .i64 a0_0, .int .i64 a0_1]] rfl (by (try simp only [List.map_toArray, List.map_cons, List.map_nil]); first | done | rfl | (simp only [List.length_drop, List.length_take]; rfl)) ?_; (with_reducible refine (num_Neg.calls kj27 a0_0 a0_1 t217 t218 _ A46.out).mono ?_); rintro e w53 ⟨rfl, hb⟩; refine ⟨_, rfl, ?_⟩; have n0_ := Aside0.mk (Boxes.below (by (with_reducible repeat (first | apply boxes_drewN | apply boxes_drew | apply boxes_alloc)); exact BX.out) hb); have n1_ := Aside0.mk (below_step (by repeat (first | (with_reducible first | exact HB.out | apply below_alloc | apply pw_below_drewN | apply below_drew1 | refine below_set ?_ (Aside0.out (by assumption))) | exact HB.out)) hb); clear BX HB; have BX := n0_; have HB := n1_; clear n0_ n1_; (try clear hb); (try clear hb2); (try clear hk); (try clear hi)) | ((with_reducible refine gate_callee (f := 45) rfl ?_); refine goesL_ (some 59) rfl rfl Tryd.func45 (by kernel_rfl) rfl #[.agg #[.int .i64 t217, .int .i64 t218], .int .i64 a2] rfl (by (try simp only [List.map_toArray, List.map_cons, List.map_nil]); first | done | rfl | (simp only [List.length_drop, List.length_take]; rfl)) ?_; (with_reducible refine (num_Round.calls kj27 t217 t218 a2 t219 t220 t221 _ A47.out).mono ?_); rintro e w54 ⟨rfl, hb⟩; refine ⟨_, rfl, ?_⟩; have n0_ := Aside0.mk (Boxes.below (by (with_reducible repeat (first | apply boxes_drewN | apply boxes_drew | apply boxes_alloc)); exact BX.out) hb); have n1_ := Aside0.mk (below_step (by repeat (first | (with_reducible first | exact HB.out | apply below_alloc | apply pw_below_drewN | apply below_drew1 | refine below_set ?_ (Aside0.out (by assumption))) | exact HB.out)) hb); clear BX HB; have BX := n0_; have HB := n1_; clear n0_ n1_; (try clear hb); (try clear hb2); (try clear hk); (try clear hi)) | ((with_reducible refine gate_dst (N := 11) rfl ?_); refine box_event ?hg (N := 11) ?hd (cs := #[.int .i64 0, .int .i64 0]) (t := 23) ?hr ?_; (case hd => rfl); (case hg => rfl); (case hr => first | (go_simp; done) | (go_simp; rfl)); intro gb222 hg w55 hbox hb; have n0_ := Aside0.mk (Boxes.new (by (with_reducible repeat (first | apply boxes_drewN | apply boxes_drew | apply boxes_alloc)); exact BX.out) hg hbox hb (below_size (by repeat (first | (with_reducible first | exact HB.out | apply below_alloc | apply pw_below_drewN | apply below_drew1 | refine below_set ?_ (Aside0.out (by assumption))) | exact HB.out)))); have n1_ := Aside0.mk (below_step (by repeat (first | (with_reducible first | exact HB.out | apply below_alloc | apply pw_below_drewN | apply below_drew1 | refine below_set ?_ (Aside0.out (by assumption))) | exact HB.out)) hb); have n2_ := Aside0.mk ((by rw [hg]; exact (below_size (by repeat (first | (with_reducible first | exact HB.out | apply below_alloc | apply pw_below_drewN | apply below_drew1 | refine below_set ?_ (Aside0.out (by assumption))) | exact HB.out))) : w.heap.size ≤ gb222)); clear BX HB; have BX := n0_; have HB := n1_; have GE222 := n2_; clear n0_ n1_ n2_; clear hb hbox hg; obtain ⟨⟨hnb59, hnc59⟩, ⟨hnb58, hnc58⟩, ⟨hnb57, hnc57⟩, ⟨hnb56, hnc56⟩, -⟩ := BX.out.apart 0 rfl; have hcz60_0 : w55.cell? ⟨gb222, 0, none⟩ = some (.int .i64 0) := (blk_cell (BX.out.get 0 rfl) 0).trans rfl; have hcz60_1 : w55.cell? ⟨gb222, 1, none⟩ = some (.int .i64 0) := (blk_cell (BX.out.get 0 rfl) 1).trans rfl; have hfz60_0 := blk_frozen (BX.out.get 0 rfl) 0; have hfz60_1 := blk_frozen (BX.out.get 0 rfl) 1))
       (try simp only [Act.put, List.setIfInBounds_toArray, List.set_cons_zero, List.set_cons_succ])
       go_cut [73] (fun v73 wc => ∃ (kq : Nat) (x73_47 : Bool), v73 = .bool x73_47 ∧ Aside0 (whittlelaw1_NumRounds.j2 kq a2 t211 t215 x73_47 a0_0 a0_1 a1_0 a1_1 t209 t210 t213 t214 = some r) ∧ Aside0 (kq ≤ kj27) ∧ Aside0 (Boxes w.heap.size wc [(gb222, 23, #[.int .i64 t219, .int .i64 t220]), (gb216, 23, #[.int .i64 t213, .int .i64 t214]), (gb212, 23, #[.int .i64 t209, .int .i64 t210]), (gb204, 23, #[.int .i64 a1_0, .int .i64 a1_1]), (gb203, 23, #[.int .i64 a0_0, .int .i64 a0_1])]) ∧ Aside0 (Below w.heap.size w wc))
       case first =>
        have H := HC48.out
        clear HC48
        by_cases c61 : (t221 != t211) = true
        ·rw [if_pos c61] at H
         have c61b0 : (t221 != t211) = true := c61
         (try (have c61b1 : decide (t221 = t211) = false := by simpa using c61))
         (try (have c61b2 : (t221 == t211) = false := by simpa using c61))
         (try (have c61b3 : ¬ (t221 = t211) := by simpa using c61))
         clear c61
         (first | rw [c61b0] | (simp only [i64_w, i32_w]; rw [c61b0]) | skip)
         exact (no_meet (g := fun k_ => whittlelaw1_NumRounds.j2 k_ a2 t211 t215 true a0_0 a0_1 a1_0 a1_1 t209 t210 t213 t214) HR.out H (by simp only [whittlelaw1_NumRounds.j2]) (fun k_ => by simp only [whittlelaw1_NumRounds.j2]; first | exact if_pos rfl | rfl | simp)).elim
        ·rw [if_neg c61] at H
         have c61b0 : (t221 != t211) = false := by simpa using c61
         (try (have c61b1 : decide (t221 = t211) = true := by simpa using c61))
         (try (have c61b2 : (t221 == t211) = true := by simpa using c61))
         clear c61
         (first | rw [c61b0] | (simp only [i64_w, i32_w]; rw [c61b0]) | skip)
         by_cases c62 : t211 = true
         ·subst c62
          have H1 : ((num_Neg.f kj27 t209 t210).bind fun bt223 => (whittlelaw1_NumRounds.j2 kj27 a2 true t215 (!(t219 == bt223.1) || (!(t220 == bt223.2))) a0_0 a0_1 a1_0 a1_1 t209 t210 t213 t214)) = some r := by rw [if_pos rfl] at H; exact H
          clear H
          have H := H1
          clear H1
          replace H := Option.bind_eq_some_iff.mp H
          obtain ⟨⟨t223, t224⟩, A630, H⟩ := H
          replace H : (whittlelaw1_NumRounds.j2 kj27 a2 true t215 (!(t219 == t223) || (!(t220 == t224))) a0_0 a0_1 a1_0 a1_1 t209 t210 t213 t214) = some r := H
          have A63 := Aside0.mk A630
          clear A630
          have H' := Aside0.mk H
          clear H
          try go_wp2
          have n0_ : Aside0 (Boxes w.heap.size ((w55.setCell ⟨gb222, 0, none⟩ (.int .i64 t219)).setCell ⟨gb222, 1, none⟩ (.int .i64 t220)) ((gb222, 23, #[.int .i64 t219, .int .i64 t220]) :: _)) := ⟨by (with_reducible repeat (first | apply boxes_drewN | apply boxes_drew | apply boxes_alloc)); apply boxes_put 0; (with_reducible repeat (first | apply boxes_drewN | apply boxes_drew | apply boxes_alloc)); apply boxes_put 0; (with_reducible repeat (first | apply boxes_drewN | apply boxes_drew | apply boxes_alloc)); exact BX.out; any_goals rfl⟩
          have n1_ : Aside0 (Below w.heap.size w ((w55.setCell ⟨gb222, 0, none⟩ (.int .i64 t219)).setCell ⟨gb222, 1, none⟩ (.int .i64 t220))) := ⟨by repeat (first | (with_reducible first | exact HB.out | apply below_alloc | apply pw_below_drewN | apply below_drew1 | refine below_set ?_ (Aside0.out (by assumption))) | exact HB.out)⟩
          (try clear BX)
          (try clear HB)
          generalize ((w55.setCell ⟨gb222, 0, none⟩ (.int .i64 t219)).setCell ⟨gb222, 1, none⟩ (.int .i64 t220)) = w64 at n0_ n1_ ⊢
          have BX := n0_
          have HB := n1_
          clear n0_ n1_
          have n0_ := Aside0.mk (boxes_drew BX.out)
          have n1_ := Aside0.mk (below_drew1 HB.out)
          clear BX HB
          have BX := n0_
          have HB := n1_
          clear n0_ n1_
          refine start_ (n := 12) (S := fun w' => w'.cell? ⟨gb222, 0, none⟩ = some (.int .i64 t219) ∧ w'.cell? ⟨gb222, 1, none⟩ = some (.int .i64 t220) ∧ w'.cell? ⟨gb212, 0, none⟩ = some (.int .i64 t209) ∧ w'.cell? ⟨gb212, 1, none⟩ = some (.int .i64 t210)) (ds := []) #[false, false, false, false, false, false, false, false, false, false, false, false] (by kernel_rfl) rfl rfl ⟨(blk_cell (BX.out.get 0 rfl) 0).trans rfl, (blk_cell (BX.out.get 0 rfl) 1).trans rfl, (blk_cell (BX.out.get 2 rfl) 0).trans rfl, (blk_cell (BX.out.get 2 rfl) 1).trans rfl⟩ (fun hHeld => ?_); refine with_tabW whittlelaw1_NumRounds.tab8 whittlelaw1_NumRounds.bits8 (fun HT_ HW_ => ?_)
          generalize w64.drew = w65 at BX HB hHeld ⊢
          refine pure_ (i := 0) (N := some 62) (v := ?_) (a' := ?_) #[true, false, false, false, false, false, false, false, false, false, false, false] rfl rfl (any_of HT_.out (by kernel_rfl)) (fun _ _ _ h => h) (Or.inl ⟨by rfl, ?_⟩) ?_ ?_
          rotate_left
          ·intro w'
           go_simp
           with_reducible rfl
          rotate_left
          ·simp only [Act.put, List.setIfInBounds_toArray, List.set_cons_zero, List.set_cons_succ, i64_w, i32_w]
           rfl
          refine pure_ (i := 1) (N := some 63) (v := ?_) (a' := ?_) #[true, true, false, false, false, false, false, false, false, false, false, false] rfl rfl (any_of HT_.out (by kernel_rfl)) (fun _ _ _ h => h) (Or.inl ⟨by rfl, ?_⟩) ?_ ?_
          rotate_left
          ·intro w'
           go_simp
           with_reducible rfl
          rotate_left
          ·simp only [Act.put, List.setIfInBounds_toArray, List.set_cons_zero, List.set_cons_succ, i64_w, i32_w]
           rfl
          refine pure_ (i := 2) (N := some 64) (v := ?_) (a' := ?_) #[true, true, true, false, false, false, false, false, false, false, false, false] rfl rfl (any_of HT_.out (by kernel_rfl)) (fun _ _ _ h => h) (Or.inl ⟨by rfl, ?_⟩) ?_ ?_
          rotate_left
          ·intro w'
           go_simp
           with_reducible rfl
          rotate_left
          ·simp only [Act.put, List.setIfInBounds_toArray, List.set_cons_zero, List.set_cons_succ, i64_w, i32_w]
           rfl
          refine pure_ (i := 3) (N := some 65) (v := ?_) (a' := ?_) #[true, true, true, true, false, false, false, false, false, false, false, false] rfl rfl (any_of HT_.out (by kernel_rfl)) (fun _ _ _ h => h) (Or.inl ⟨by rfl, ?_⟩) ?_ ?_
          rotate_left
          ·intro w'
           go_simp
           with_reducible rfl
          rotate_left
          ·simp only [Act.put, List.setIfInBounds_toArray, List.set_cons_zero, List.set_cons_succ, i64_w, i32_w]
           rfl
          refine pure_ (i := 4) (N := some 66) (v := ?_) (a' := ?_) #[true, true, true, true, true, false, false, false, false, false, false, false] rfl rfl (any_of HT_.out (by kernel_rfl)) (fun _ _ _ h => h) (Or.inl ⟨by rfl, ?_⟩) ?_ ?_
          rotate_left
          ·intro w'
           go_simp
           with_reducible rfl
          rotate_left
          ·simp only [Act.put, List.setIfInBounds_toArray, List.set_cons_zero, List.set_cons_succ, i64_w, i32_w]
           rfl
          refine pure_ (i := 5) (N := some 67) (v := ?_) (a' := ?_) #[true, true, true, true, true, true, false, false, false, false, false, false] rfl rfl (any_of HT_.out (by kernel_rfl)) (fun _ _ _ h => h) (Or.inl ⟨by rfl, ?_⟩) ?_ ?_
          rotate_left
          ·intro w'
           go_simp
           with_reducible rfl
          rotate_left
          ·simp only [Act.put, List.setIfInBounds_toArray, List.set_cons_zero, List.set_cons_succ, i64_w, i32_w]
           rfl
          refine take_ (i := 6) (N := some 68) (v := ?_) (a' := ?_) #[true, true, true, true, true, true, true, false, false, false, false, false] rfl rfl (take_ofW HT_.out HW_.out (by kernel_rfl)) (fun _ _ _ h => h) (Or.inl ⟨by rfl, ?_⟩) hHeld ?_ ?_
          rotate_left
          ·rintro w' ⟨s0, s1, s2, s3⟩
           go_simp
           with_reducible rfl
          rotate_left
          ·simp only [Act.put, List.setIfInBounds_toArray, List.set_cons_zero, List.set_cons_succ, i64_w, i32_w]
           rfl
          refine take_ (i := 7) (N := some 69) (v := ?_) (a' := ?_) #[true, true, true, true, true, true, true, true, false, false, false, false] rfl rfl (take_ofW HT_.out HW_.out (by kernel_rfl)) (fun _ _ _ h => h) (Or.inl ⟨by rfl, ?_⟩) hHeld ?_ ?_
          rotate_left
          ·rintro w' ⟨s0, s1, s2, s3⟩
           go_simp
           with_reducible rfl
          rotate_left
          ·simp only [Act.put, List.setIfInBounds_toArray, List.set_cons_zero, List.set_cons_succ, i64_w, i32_w]
           rfl
          refine one_ (i := 8) (N := some 70) #[true, true, true, true, true, true, true, true, true, false, false, false] rfl rfl (one_of HT_.out (by kernel_rfl)) (by decide) (fun K hK => ?_)
          refine goes_ Tryd.func46 (by kernel_rfl) rfl #[.agg #[.int .i64 t209, .int .i64 t210]] (by rfl) rfl rfl (by (try simp only [List.map_toArray, List.map_cons, List.map_nil]); first | done | rfl | (simp only [List.length_drop, List.length_take]; rfl)) ?_
          with_reducible refine (num_Neg.calls kj27 t209 t210 t223 t224 _ A63.out).mono ?_
          rintro e w66 ⟨rfl, hb⟩
          refine ⟨_, rfl, ?_⟩
          have n0_ := Aside0.mk (Boxes.below (by (with_reducible repeat (first | apply boxes_drewN | apply boxes_drew | apply boxes_alloc)); exact BX.out) hb)
          have n1_ := Aside0.mk (below_step (by repeat (first | (with_reducible first | exact HB.out | apply below_alloc | apply pw_below_drewN | apply below_drew1 | refine below_set ?_ (Aside0.out (by assumption))) | exact HB.out)) hb)
          clear BX HB
          have BX := n0_
          have HB := n1_
          clear n0_ n1_
          (try clear hb)
          (try clear hb2)
          (try clear hk)
          (try clear hi)
          refine hK.out _ _ ⟨(blk_cell (BX.out.get 0 rfl) 0).trans rfl, (blk_cell (BX.out.get 0 rfl) 1).trans rfl, (blk_cell (BX.out.get 2 rfl) 0).trans rfl, (blk_cell (BX.out.get 2 rfl) 1).trans rfl⟩ (fun hHeld => ?_)
          clear hK K
          refine norm_ (a' := ?_) ?_ ?_
          rotate_left
          ·show Act.put _ (some 70) _ = _
           simp only [Act.put, List.setIfInBounds_toArray, List.set_cons_zero, List.set_cons_succ, i64_w, i32_w]
           rfl
          refine pure_ (i := 9) (N := some 71) (v := ?_) (a' := ?_) #[true, true, true, true, true, true, true, true, true, true, false, false] rfl rfl (any_of HT_.out (by kernel_rfl)) (fun _ _ _ h => h) (Or.inl ⟨by rfl, ?_⟩) ?_ ?_
          rotate_left
          ·intro w'
           go_simp
           with_reducible rfl
          rotate_left
          ·simp only [Act.put, List.setIfInBounds_toArray, List.set_cons_zero, List.set_cons_succ, i64_w, i32_w]
           rfl
          refine pure_ (i := 10) (N := some 72) (v := ?_) (a' := ?_) #[true, true, true, true, true, true, true, true, true, true, true, false] rfl rfl (any_of HT_.out (by kernel_rfl)) (fun _ _ _ h => h) (Or.inl ⟨by rfl, ?_⟩) ?_ ?_
          rotate_left
          ·intro w'
           go_simp
           with_reducible rfl
          rotate_left
          ·simp only [Act.put, List.setIfInBounds_toArray, List.set_cons_zero, List.set_cons_succ, i64_w, i32_w]
           rfl
          refine pure_ (i := 11) (N := some 73) (v := ?_) (a' := ?_) #[true, true, true, true, true, true, true, true, true, true, true, true] rfl rfl (any_of HT_.out (by kernel_rfl)) (fun _ _ _ h => h) (Or.inl ⟨by rfl, ?_⟩) ?_ ?_
          rotate_left
          ·intro w'
           go_simp
           with_reducible rfl
          rotate_left
          ·simp only [Act.put, List.setIfInBounds_toArray, List.set_cons_zero, List.set_cons_succ, i64_w, i32_w]
           rfl
          refine done_ (done_of HT_.out (by kernel_rfl)) ?_
          try go_wp2
          go_meet
          case rel => exact ⟨_, ((!(t219 == t223) || (!(t220 == t224)))), (by first | rfl | (simp; done) | (simp [*]; done) | (simp [bne_nil]; done)), H', ⟨by have := HJ3.out; have := HJ27.out; first | omega | exact Nat.le_refl _⟩, ⟨by (with_reducible repeat (first | apply boxes_drewN | apply boxes_drew | apply boxes_alloc)); exact BX.out⟩, ⟨by repeat (first | (with_reducible first | exact HB.out | apply below_alloc | apply pw_below_drewN | apply below_drew1 | refine below_set ?_ (Aside0.out (by assumption))) | exact HB.out)⟩⟩
         ·replace c62 := Bool.eq_false_iff.mpr c62
          subst c62
          have H1 : (whittlelaw1_NumRounds.j2 kj27 a2 false t215 false a0_0 a0_1 a1_0 a1_1 t209 t210 t213 t214) = some r := by rw [if_neg (show ¬ (false = true) by decide)] at H; exact H
          clear H
          have H := H1
          clear H1
          have H' := Aside0.mk H
          clear H
          try go_wp2
          have n0_ : Aside0 (Boxes w.heap.size ((w55.setCell ⟨gb222, 0, none⟩ (.int .i64 t219)).setCell ⟨gb222, 1, none⟩ (.int .i64 t220)) ((gb222, 23, #[.int .i64 t219, .int .i64 t220]) :: _)) := ⟨by (with_reducible repeat (first | apply boxes_drewN | apply boxes_drew | apply boxes_alloc)); apply boxes_put 0; (with_reducible repeat (first | apply boxes_drewN | apply boxes_drew | apply boxes_alloc)); apply boxes_put 0; (with_reducible repeat (first | apply boxes_drewN | apply boxes_drew | apply boxes_alloc)); exact BX.out; any_goals rfl⟩
          have n1_ : Aside0 (Below w.heap.size w ((w55.setCell ⟨gb222, 0, none⟩ (.int .i64 t219)).setCell ⟨gb222, 1, none⟩ (.int .i64 t220))) := ⟨by repeat (first | (with_reducible first | exact HB.out | apply below_alloc | apply pw_below_drewN | apply below_drew1 | refine below_set ?_ (Aside0.out (by assumption))) | exact HB.out)⟩
          (try clear BX)
          (try clear HB)
          generalize ((w55.setCell ⟨gb222, 0, none⟩ (.int .i64 t219)).setCell ⟨gb222, 1, none⟩ (.int .i64 t220)) = w67 at n0_ n1_ ⊢
          have BX := n0_
          have HB := n1_
          clear n0_ n1_
          have n0_ := Aside0.mk (boxes_drew BX.out)
          have n1_ := Aside0.mk (below_drew1 HB.out)
          clear BX HB
          have BX := n0_
          have HB := n1_
          clear n0_ n1_
          refine start_ (n := 12) (S := fun w' => True) (ds := []) #[false, false, false, false, false, false, false, false, false, false, false, false] (by kernel_rfl) rfl rfl trivial (fun hHeld => ?_); refine with_tabW whittlelaw1_NumRounds.tab8 whittlelaw1_NumRounds.bits8 (fun HT_ HW_ => ?_)
          generalize w67.drew = w68 at BX HB hHeld ⊢
          refine pure_ (i := 0) (N := some 62) (v := ?_) (a' := ?_) #[true, false, false, false, false, false, false, false, false, false, false, false] rfl rfl (any_of HT_.out (by kernel_rfl)) (fun _ _ _ h => h) (Or.inl ⟨by rfl, ?_⟩) ?_ ?_
          rotate_left
          ·intro w'
           go_simp
           with_reducible rfl
          rotate_left
          ·simp only [Act.put, List.setIfInBounds_toArray, List.set_cons_zero, List.set_cons_succ, i64_w, i32_w]
           rfl
          refine pure_ (i := 1) (N := some 63) (v := ?_) (a' := ?_) #[true, true, false, false, false, false, false, false, false, false, false, false] rfl rfl (any_of HT_.out (by kernel_rfl)) (fun _ _ _ h => h) (Or.inl ⟨by rfl, ?_⟩) ?_ ?_
          rotate_left
          ·intro w'
           go_simp
           with_reducible rfl
          rotate_left
          ·simp only [Act.put, List.setIfInBounds_toArray, List.set_cons_zero, List.set_cons_succ, i64_w, i32_w]
           rfl
          refine pure_ (i := 2) (N := some 64) (v := ?_) (a' := ?_) #[true, true, true, false, false, false, false, false, false, false, false, false] rfl rfl (any_of HT_.out (by kernel_rfl)) (fun _ _ _ h => h) (Or.inl ⟨by rfl, ?_⟩) ?_ ?_
          rotate_left
          ·intro w'
           go_simp
           with_reducible rfl
          rotate_left
          ·simp only [Act.put, List.setIfInBounds_toArray, List.set_cons_zero, List.set_cons_succ, i64_w, i32_w]
           rfl
          refine pure_ (i := 3) (N := some 65) (v := ?_) (a' := ?_) #[true, true, true, true, false, false, false, false, false, false, false, false] rfl rfl (any_of HT_.out (by kernel_rfl)) (fun _ _ _ h => h) (Or.inl ⟨by rfl, ?_⟩) ?_ ?_
          rotate_left
          ·intro w'
           go_simp
           with_reducible rfl
          rotate_left
          ·simp only [Act.put, List.setIfInBounds_toArray, List.set_cons_zero, List.set_cons_succ, i64_w, i32_w]
           rfl
          refine pure_ (i := 4) (N := some 66) (v := ?_) (a' := ?_) #[true, true, true, true, true, false, false, false, false, false, false, false] rfl rfl (any_of HT_.out (by kernel_rfl)) (fun _ _ _ h => h) (Or.inl ⟨by rfl, ?_⟩) ?_ ?_
          rotate_left
          ·intro w'
           go_simp
           with_reducible rfl
          rotate_left
          ·simp only [Act.put, List.setIfInBounds_toArray, List.set_cons_zero, List.set_cons_succ, i64_w, i32_w]
           rfl
          refine pure_ (i := 5) (N := some 67) (v := ?_) (a' := ?_) #[true, true, true, true, true, true, false, false, false, false, false, false] rfl rfl (any_of HT_.out (by kernel_rfl)) (fun _ _ _ h => h) (Or.inl ⟨by rfl, ?_⟩) ?_ ?_
          rotate_left
          ·intro w'
           go_simp
           with_reducible rfl
          rotate_left
          ·simp only [Act.put, List.setIfInBounds_toArray, List.set_cons_zero, List.set_cons_succ, i64_w, i32_w]
           rfl
          refine pure_ (i := 6) (N := some 68) (v := undef) (a' := ?_) #[true, true, true, true, true, true, true, false, false, false, false, false] rfl rfl (any_of HT_.out (by kernel_rfl)) (fun _ _ _ h => h) (Or.inr ⟨by rfl, rfl⟩) ?_ ?_
          rotate_left
          ·simp only [Act.put, List.setIfInBounds_toArray, List.set_cons_zero, List.set_cons_succ, i64_w, i32_w]
           rfl
          refine pure_ (i := 7) (N := some 69) (v := undef) (a' := ?_) #[true, true, true, true, true, true, true, true, false, false, false, false] rfl rfl (any_of HT_.out (by kernel_rfl)) (fun _ _ _ h => h) (Or.inr ⟨by rfl, rfl⟩) ?_ ?_
          rotate_left
          ·simp only [Act.put, List.setIfInBounds_toArray, List.set_cons_zero, List.set_cons_succ, i64_w, i32_w]
           rfl
          refine pure_ (i := 8) (N := some 70) (v := undef) (a' := ?_) #[true, true, true, true, true, true, true, true, true, false, false, false] rfl rfl (any_of HT_.out (by kernel_rfl)) (fun _ _ _ h => h) (Or.inr ⟨by rfl, rfl⟩) ?_ ?_
          rotate_left
          ·simp only [Act.put, List.setIfInBounds_toArray, List.set_cons_zero, List.set_cons_succ, i64_w, i32_w]
           rfl
          refine pure_ (i := 9) (N := some 71) (v := undef) (a' := ?_) #[true, true, true, true, true, true, true, true, true, true, false, false] rfl rfl (any_of HT_.out (by kernel_rfl)) (fun _ _ _ h => h) (Or.inr ⟨by rfl, rfl⟩) ?_ ?_
          rotate_left
          ·simp only [Act.put, List.setIfInBounds_toArray, List.set_cons_zero, List.set_cons_succ, i64_w, i32_w]
           rfl
          refine pure_ (i := 10) (N := some 72) (v := ?_) (a' := ?_) #[true, true, true, true, true, true, true, true, true, true, true, false] rfl rfl (any_of HT_.out (by kernel_rfl)) (fun _ _ _ h => h) (Or.inl ⟨by rfl, ?_⟩) ?_ ?_
          rotate_left
          ·intro w'
           go_simp
           with_reducible rfl
          rotate_left
          ·simp only [Act.put, List.setIfInBounds_toArray, List.set_cons_zero, List.set_cons_succ, i64_w, i32_w]
           rfl
          refine pure_ (i := 11) (N := some 73) (v := ?_) (a' := ?_) #[true, true, true, true, true, true, true, true, true, true, true, true] rfl rfl (any_of HT_.out (by kernel_rfl)) (fun _ _ _ h => h) (Or.inl ⟨by rfl, ?_⟩) ?_ ?_
          rotate_left
          ·intro w'
           go_simp
           with_reducible rfl
          rotate_left
          ·simp only [Act.put, List.setIfInBounds_toArray, List.set_cons_zero, List.set_cons_succ, i64_w, i32_w]
           rfl
          refine done_ (done_of HT_.out (by kernel_rfl)) ?_
          try go_wp2
          go_meet
          case rel => exact ⟨_, (false), (by first | rfl | (simp; done) | (simp [*]; done) | (simp [bne_nil]; done)), H', ⟨by have := HJ3.out; have := HJ27.out; first | omega | exact Nat.le_refl _⟩, ⟨by (with_reducible repeat (first | apply boxes_drewN | apply boxes_drew | apply boxes_alloc)); exact BX.out⟩, ⟨by repeat (first | (with_reducible first | exact HB.out | apply below_alloc | apply pw_below_drewN | apply below_drew1 | refine below_set ?_ (Aside0.out (by assumption))) | exact HB.out)⟩⟩
       case rest =>
        clear HC48
        try clear c1
        try clear c2
        try clear p2
        try clear c3
        try clear c4
        try clear c5
        try clear c6
        try clear c8
        try clear c10
        try clear c13
        try clear c14
        try clear c19
        try clear c22
        try clear c23
        try clear c29
        try clear c33
        try clear c34
        try clear c39
        try clear c40
        try clear c41
        try clear c43
        try clear c43b0
        try clear c44
        try clear c45
        try clear c46
        try clear c49
        try clear c50
        try clear c51
        try clear c56
        try clear c57
        try clear c58
        try clear c59
        try clear c61
        try clear c61b0
        try clear c61b1
        try clear c61b2
        try clear c62
        try clear hcz14_0
        try clear hcz14_1
        try clear hcz16_0
        try clear hcz16_1
        try clear hcz20_0
        try clear hcz20_1
        try clear hcz30_0
        try clear hcz30_1
        try clear hcz35_0
        try clear hcz35_1
        try clear hcz36_0
        try clear hcz36_1
        try clear hcz42_0
        try clear hcz42_1
        try clear hcz52_0
        try clear hcz52_1
        try clear hcz60_0
        try clear hcz60_1
        try clear hfz14_0
        try clear hfz14_1
        try clear hfz16_0
        try clear hfz16_1
        try clear hfz20_0
        try clear hfz20_1
        try clear hfz30_0
        try clear hfz30_1
        try clear hfz35_0
        try clear hfz35_1
        try clear hfz36_0
        try clear hfz36_1
        try clear hfz42_0
        try clear hfz42_1
        try clear hfz52_0
        try clear hfz52_1
        try clear hfz60_0
        try clear hfz60_1
        try clear p2
        obtain ⟨kq, x73_47, rfl, HA, HJ47, BX, HB⟩ := hcut
        cases kq with
        | zero => exact absurd HA.out (by simp [whittlelaw1_NumRounds.j2])
        | succ kj47 =>
         have H := HA.out
         clear HA
         simp only [whittlelaw1_NumRounds.j2] at H
         by_cases c69 : x73_47 = true
         ·subst c69
          have H1 : (some false) = some r := by rw [if_pos rfl] at H; exact H
          clear H
          have H := H1
          clear H1
          exact absurd (Option.some.inj H) (by rw [HR.out]; decide)
         ·replace c69 := Bool.eq_false_iff.mpr c69
          subst c69
          have H1 : (if t211 = true then ((num_Round.f kj47 t209 t210 a2).bind fun bt225 => (if bt225.2.2 = true then (if (!(bt225.1 == t209) || (!(bt225.2.1 == t210))) = true then (some false) else ((whittlelaw1_right.f kj47 t209 t210).bind fun t229 => (if t229 = true then (whittlelaw1_NumRounds.j3 kj47 a2 t211 t215 a0_0 a0_1 a1_0 a1_1 t209 t210 t213 t214) else (some false)))) else (some false))) else (whittlelaw1_NumRounds.j3 kj47 a2 t211 t215 a0_0 a0_1 a1_0 a1_1 t209 t210 t213 t214)) = some r := by rw [if_neg (show ¬ (false = true) by decide)] at H; exact H
          clear H
          have H := H1
          clear H1
          have HC70 := Aside0.mk H
          clear H
          go_upto_if 74 with (fail)
          go_cut [] (fun wc => ∃ (kq : Nat), Aside0 (whittlelaw1_NumRounds.j3 kq a2 t211 t215 a0_0 a0_1 a1_0 a1_1 t209 t210 t213 t214 = some r) ∧ Aside0 (kq ≤ kj47) ∧ Aside0 (Boxes w.heap.size wc [(gb222, 23, #[.int .i64 t219, .int .i64 t220]), (gb216, 23, #[.int .i64 t213, .int .i64 t214]), (gb212, 23, #[.int .i64 t209, .int .i64 t210]), (gb204, 23, #[.int .i64 a1_0, .int .i64 a1_1]), (gb203, 23, #[.int .i64 a0_0, .int .i64 a0_1])]) ∧ Aside0 (Below w.heap.size w wc))
          case first =>
           have H := HC70.out
           clear HC70
           by_cases c71 : t211 = true
           ·subst c71
            have H1 : ((num_Round.f kj47 t209 t210 a2).bind fun bt225 => (if bt225.2.2 = true then (if (!(bt225.1 == t209) || (!(bt225.2.1 == t210))) = true then (some false) else ((whittlelaw1_right.f kj47 t209 t210).bind fun t229 => (if t229 = true then (whittlelaw1_NumRounds.j3 kj47 a2 true t215 a0_0 a0_1 a1_0 a1_1 t209 t210 t213 t214) else (some false)))) else (some false))) = some r := by rw [if_pos rfl] at H; exact H
            clear H
            have H := H1
            clear H1
            replace H := Option.bind_eq_some_iff.mp H
            obtain ⟨⟨t225, t226, t227⟩, A720, H⟩ := H
            replace H : (if t227 = true then (if (!(t225 == t209) || (!(t226 == t210))) = true then (some false) else ((whittlelaw1_right.f kj47 t209 t210).bind fun t229 => (if t229 = true then (whittlelaw1_NumRounds.j3 kj47 a2 true t215 a0_0 a0_1 a1_0 a1_1 t209 t210 t213 t214) else (some false)))) else (some false)) = some r := H
            have A72 := Aside0.mk A720
            clear A720
            by_cases c73 : t227 = true
            ·subst c73
             have H1 : (if (!(t225 == t209) || (!(t226 == t210))) = true then (some false) else ((whittlelaw1_right.f kj47 t209 t210).bind fun t229 => (if t229 = true then (whittlelaw1_NumRounds.j3 kj47 a2 true t215 a0_0 a0_1 a1_0 a1_1 t209 t210 t213 t214) else (some false)))) = some r := by rw [if_pos rfl] at H; exact H
             clear H
             have H := H1
             clear H1
             by_cases c74 : (!(t225 == t209) || (!(t226 == t210))) = true
             ·rw [if_pos c74] at H
              have c74b0 : (!(t225 == t209) || (!(t226 == t210))) = true := c74
              clear c74
              (first | rw [c74b0] | (simp only [i64_w, i32_w]; rw [c74b0]) | skip)
              exact absurd (Option.some.inj H) (by rw [HR.out]; decide)
             ·rw [if_neg c74] at H
              have c74b0 : (!(t225 == t209) || (!(t226 == t210))) = false := by simpa using c74
              clear c74
              (first | rw [c74b0] | (simp only [i64_w, i32_w]; rw [c74b0]) | skip)
              replace H := Option.bind_eq_some_iff.mp H
              obtain ⟨t229, A750, H⟩ := H
              replace H : (if t229 = true then (whittlelaw1_NumRounds.j3 kj47 a2 true t215 a0_0 a0_1 a1_0 a1_1 t209 t210 t213 t214) else (some false)) = some r := H
              have A75 := Aside0.mk A750
              clear A750
              by_cases c76 : t229 = true
              ·subst c76
               have H1 : (whittlelaw1_NumRounds.j3 kj47 a2 true t215 a0_0 a0_1 a1_0 a1_1 t209 t210 t213 t214) = some r := by rw [if_pos rfl] at H; exact H
               clear H
               have H := H1
               clear H1
               have H' := Aside0.mk H
               clear H
               obtain ⟨⟨hnb80, hnc80⟩, ⟨hnb79, hnc79⟩, ⟨hnb78, hnc78⟩, ⟨hnb77, hnc77⟩, -⟩ := BX.out.apart 2 rfl
               have hcz81_0 : wc.cell? ⟨gb212, 0, none⟩ = some (.int .i64 t209) := (blk_cell (BX.out.get 2 rfl) 0).trans rfl
               have hcz81_1 : wc.cell? ⟨gb212, 1, none⟩ = some (.int .i64 t210) := (blk_cell (BX.out.get 2 rfl) 1).trans rfl
               have hfz81_0 := blk_frozen (BX.out.get 2 rfl) 0
               have hfz81_1 := blk_frozen (BX.out.get 2 rfl) 1
               go_wp2_with (first | ((with_reducible refine gate_callee (f := 45) rfl ?_); refine goesL_ (some 78) rfl rfl Tryd.func45 (by kernel_rfl) rfl #[.agg #[.int .i64 t209, .int .i64 t210], .int .i64 a2] rfl (by (try simp only [List.map_toArray, List.map_cons, List.map_nil]); first | done | rfl | (simp only [List.length_drop, List.length_take]; rfl)) ?_; (with_reducible refine (num_Round.calls kj47 t209 t210 a2 t225 t226 true _ A72.out).mono ?_); rintro e w82 ⟨rfl, hb⟩; refine ⟨_, rfl, ?_⟩; have n0_ := Aside0.mk (Boxes.below (by (with_reducible repeat (first | apply boxes_drewN | apply boxes_drew | apply boxes_alloc)); exact BX.out) hb); have n1_ := Aside0.mk (below_step (by repeat (first | (with_reducible first | exact HB.out | apply below_alloc | apply pw_below_drewN | apply below_drew1 | refine below_set ?_ (Aside0.out (by assumption))) | exact HB.out)) hb); clear BX HB; have BX := n0_; have HB := n1_; clear n0_ n1_; (try clear hb); (try clear hb2); (try clear hk); (try clear hi)) | ((with_reducible refine gate_dst (N := 13) rfl ?_); refine box_event ?hg (N := 13) ?hd (cs := #[.int .i64 0, .int .i64 0]) (t := 23) ?hr ?_; (case hd => rfl); (case hg => rfl); (case hr => first | (go_simp; done) | (go_simp; rfl)); intro gb228 hg w83 hbox hb; have n0_ := Aside0.mk (Boxes.new (by (with_reducible repeat (first | apply boxes_drewN | apply boxes_drew | apply boxes_alloc)); exact BX.out) hg hbox hb (below_size (by repeat (first | (with_reducible first | exact HB.out | apply below_alloc | apply pw_below_drewN | apply below_drew1 | refine below_set ?_ (Aside0.out (by assumption))) | exact HB.out)))); have n1_ := Aside0.mk (below_step (by repeat (first | (with_reducible first | exact HB.out | apply below_alloc | apply pw_below_drewN | apply below_drew1 | refine below_set ?_ (Aside0.out (by assumption))) | exact HB.out)) hb); have n2_ := Aside0.mk ((by rw [hg]; exact (below_size (by repeat (first | (with_reducible first | exact HB.out | apply below_alloc | apply pw_below_drewN | apply below_drew1 | refine below_set ?_ (Aside0.out (by assumption))) | exact HB.out))) : w.heap.size ≤ gb228)); clear BX HB; have BX := n0_; have HB := n1_; have GE228 := n2_; clear n0_ n1_ n2_; clear hb hbox hg; obtain ⟨⟨hnb88, hnc88⟩, ⟨hnb87, hnc87⟩, ⟨hnb86, hnc86⟩, ⟨hnb85, hnc85⟩, ⟨hnb84, hnc84⟩, -⟩ := BX.out.apart 0 rfl; have hcz89_0 : w83.cell? ⟨gb228, 0, none⟩ = some (.int .i64 0) := (blk_cell (BX.out.get 0 rfl) 0).trans rfl; have hcz89_1 : w83.cell? ⟨gb228, 1, none⟩ = some (.int .i64 0) := (blk_cell (BX.out.get 0 rfl) 1).trans rfl; have hfz89_0 := blk_frozen (BX.out.get 0 rfl) 0; have hfz89_1 := blk_frozen (BX.out.get 0 rfl) 1; have hcz90_0 : w83.cell? ⟨gb212, 0, none⟩ = some (.int .i64 t209) := (blk_cell (BX.out.get 3 rfl) 0).trans rfl; have hcz90_1 : w83.cell? ⟨gb212, 1, none⟩ = some (.int .i64 t210) := (blk_cell (BX.out.get 3 rfl) 1).trans rfl; have hfz90_0 := blk_frozen (BX.out.get 3 rfl) 0; have hfz90_1 := blk_frozen (BX.out.get 3 rfl) 1) | (go_at_call 31; (with_reducible refine (whittlelaw1_right.calls kj47 t209 t210 true _ A75.out).mono ?_); rintro e w91 ⟨rfl, hb⟩; have n0_ : Aside0 (Boxes w.heap.size _ ((gb228, 23, #[.int .i64 t225, .int .i64 t226]) :: _)) := ⟨Boxes.below (by (with_reducible repeat (first | apply boxes_drewN | apply boxes_drew | apply boxes_alloc)); apply boxes_put 0; (with_reducible repeat (first | apply boxes_drewN | apply boxes_drew | apply boxes_alloc)); apply boxes_put 0; (with_reducible repeat (first | apply boxes_drewN | apply boxes_drew | apply boxes_alloc)); exact BX.out; any_goals rfl) hb⟩; have n1_ := Aside0.mk (below_step (by repeat (first | (with_reducible first | exact HB.out | apply below_alloc | apply pw_below_drewN | apply below_drew1 | refine below_set ?_ (Aside0.out (by assumption))) | exact HB.out)) hb); clear BX HB; have BX := n0_; have HB := n1_; clear n0_ n1_; (try clear hb); (try clear hb2); (try clear hk); (try clear hi)))
               go_meet
               case rel => exact ⟨_, H', ⟨by have := HJ3.out; have := HJ27.out; have := HJ47.out; first | omega | exact Nat.le_refl _⟩, ⟨by apply boxes_sub; (with_reducible repeat (first | apply boxes_drewN | apply boxes_drew | apply boxes_alloc)); exact BX.out; repeat first | exact SubB.nil | apply SubB.same | apply SubB.skip⟩, ⟨by repeat (first | (with_reducible first | exact HB.out | apply below_alloc | apply pw_below_drewN | apply below_drew1 | refine below_set ?_ (Aside0.out (by assumption))) | exact HB.out)⟩⟩
              ·replace c76 := Bool.eq_false_iff.mpr c76
               subst c76
               have H1 : (some false) = some r := by rw [if_neg (show ¬ (false = true) by decide)] at H; exact H
               clear H
               have H := H1
               clear H1
               exact absurd (Option.some.inj H) (by rw [HR.out]; decide)
            ·replace c73 := Bool.eq_false_iff.mpr c73
             subst c73
             have H1 : (some false) = some r := by rw [if_neg (show ¬ (false = true) by decide)] at H; exact H
             clear H
             have H := H1
             clear H1
             exact absurd (Option.some.inj H) (by rw [HR.out]; decide)
           ·replace c71 := Bool.eq_false_iff.mpr c71
            subst c71
            have H1 : (whittlelaw1_NumRounds.j3 kj47 a2 false t215 a0_0 a0_1 a1_0 a1_1 t209 t210 t213 t214) = some r := by rw [if_neg (show ¬ (false = true) by decide)] at H; exact H
            clear H
            have H := H1
            clear H1
            have H' := Aside0.mk H
            clear H
            go_wp2
            go_meet
            case rel => exact ⟨_, H', ⟨by have := HJ3.out; have := HJ27.out; have := HJ47.out; first | omega | exact Nat.le_refl _⟩, ⟨by (with_reducible repeat (first | apply boxes_drewN | apply boxes_drew | apply boxes_alloc)); exact BX.out⟩, ⟨by repeat (first | (with_reducible first | exact HB.out | apply below_alloc | apply pw_below_drewN | apply below_drew1 | refine below_set ?_ (Aside0.out (by assumption))) | exact HB.out)⟩⟩
          case rest =>
           clear HC70
           try clear c1
           try clear c2
           try clear p2
           try clear c3
           try clear c4
           try clear c5
           try clear c6
           try clear c7
           try clear c8
           try clear c10
           try clear c13
           try clear c14
           try clear c19
           try clear c22
           try clear c23
           try clear c29
           try clear c33
           try clear c34
           try clear c39
           try clear c40
           try clear c41
           try clear c43
           try clear c43b0
           try clear c44
           try clear c45
           try clear c46
           try clear c49
           try clear c50
           try clear c51
           try clear c56
           try clear c57
           try clear c58
           try clear c59
           try clear c61
           try clear c61b0
           try clear c61b1
           try clear c61b2
           try clear c62
           try clear c69
           try clear c71
           try clear c73
           try clear c74
           try clear c74b0
           try clear c76
           try clear c77
           try clear c78
           try clear c79
           try clear c80
           try clear c84
           try clear c85
           try clear c86
           try clear c87
           try clear c88
           try clear hcz14_0
           try clear hcz14_1
           try clear hcz16_0
           try clear hcz16_1
           try clear hcz20_0
           try clear hcz20_1
           try clear hcz30_0
           try clear hcz30_1
           try clear hcz35_0
           try clear hcz35_1
           try clear hcz36_0
           try clear hcz36_1
           try clear hcz42_0
           try clear hcz42_1
           try clear hcz52_0
           try clear hcz52_1
           try clear hcz60_0
           try clear hcz60_1
           try clear hcz81_0
           try clear hcz81_1
           try clear hcz89_0
           try clear hcz89_1
           try clear hcz90_0
           try clear hcz90_1
           try clear hfz14_0
           try clear hfz14_1
           try clear hfz16_0
           try clear hfz16_1
           try clear hfz20_0
           try clear hfz20_1
           try clear hfz30_0
           try clear hfz30_1
           try clear hfz35_0
           try clear hfz35_1
           try clear hfz36_0
           try clear hfz36_1
           try clear hfz42_0
           try clear hfz42_1
           try clear hfz52_0
           try clear hfz52_1
           try clear hfz60_0
           try clear hfz60_1
           try clear hfz81_0
           try clear hfz81_1
           try clear hfz89_0
           try clear hfz89_1
           try clear hfz90_0
           try clear hfz90_1
           try clear p2
           obtain ⟨kq, HA, HJ69, BX, HB⟩ := hcut
           cases kq with
           | zero => exact absurd HA.out (by simp [whittlelaw1_NumRounds.j3])
           | succ kj69 =>
            have H := HA.out
            clear HA
            simp only [whittlelaw1_NumRounds.j3] at H
            have HC92 := Aside0.mk H
            clear H
            go_upto_region 14 with (fail)
            go_cut [108] (fun v108 wc => ∃ (kq : Nat) (x108_91 : Bool), v108 = .bool x108_91 ∧ Aside0 (whittlelaw1_NumRounds.j4 kq a2 t211 x108_91 a0_0 a0_1 t209 t210 = some r) ∧ Aside0 (kq ≤ kj69) ∧ Aside0 (Boxes w.heap.size wc [(gb222, 23, #[.int .i64 t219, .int .i64 t220]), (gb216, 23, #[.int .i64 t213, .int .i64 t214]), (gb212, 23, #[.int .i64 t209, .int .i64 t210]), (gb204, 23, #[.int .i64 a1_0, .int .i64 a1_1]), (gb203, 23, #[.int .i64 a0_0, .int .i64 a0_1])]) ∧ Aside0 (Below w.heap.size w wc))
            case first =>
             have H := HC92.out
             clear HC92
             by_cases c93 : t211 = true
             ·subst c93
              have H1 : (if t215 = true then ((num_Cmp.f kj69 a0_0 a0_1 a1_0 a1_1).bind fun t230 => (if t230 ≤ 0 then ((num_Cmp.f kj69 t209 t210 t213 t214).bind fun t231 => (whittlelaw1_NumRounds.j4 kj69 a2 true (decide (t231 > 0)) a0_0 a0_1 t209 t210)) else (whittlelaw1_NumRounds.j4 kj69 a2 true false a0_0 a0_1 t209 t210))) else (whittlelaw1_NumRounds.j4 kj69 a2 true false a0_0 a0_1 t209 t210)) = some r := by rw [if_pos rfl] at H; exact H
              clear H
              have H := H1
              clear H1
              by_cases c94 : t215 = true
              ·subst c94
               have H1 : ((num_Cmp.f kj69 a0_0 a0_1 a1_0 a1_1).bind fun t230 => (if t230 ≤ 0 then ((num_Cmp.f kj69 t209 t210 t213 t214).bind fun t231 => (whittlelaw1_NumRounds.j4 kj69 a2 true (decide (t231 > 0)) a0_0 a0_1 t209 t210)) else (whittlelaw1_NumRounds.j4 kj69 a2 true false a0_0 a0_1 t209 t210))) = some r := by rw [if_pos rfl] at H; exact H
               clear H
               have H := H1
               clear H1
               replace H := Option.bind_eq_some_iff.mp H
               obtain ⟨t230, A950, H⟩ := H
               replace H : (if t230 ≤ 0 then ((num_Cmp.f kj69 t209 t210 t213 t214).bind fun t231 => (whittlelaw1_NumRounds.j4 kj69 a2 true (decide (t231 > 0)) a0_0 a0_1 t209 t210)) else (whittlelaw1_NumRounds.j4 kj69 a2 true false a0_0 a0_1 t209 t210)) = some r := H
               have A95 := Aside0.mk A950
               clear A950
               by_cases c96 : t230 ≤ 0
               ·rw [if_pos c96] at H
                have c96b0 : decide (t230 ≤ 0) = true := decide_eq_true c96
                clear c96
                (first | rw [c96b0] | (simp only [i64_w, i32_w]; rw [c96b0]) | skip)
                replace H := Option.bind_eq_some_iff.mp H
                obtain ⟨t231, A970, H⟩ := H
                replace H : (whittlelaw1_NumRounds.j4 kj69 a2 true (decide (t231 > 0)) a0_0 a0_1 t209 t210) = some r := H
                have A97 := Aside0.mk A970
                clear A970
                have H' := Aside0.mk H
                clear H
                obtain ⟨⟨hnb101, hnc101⟩, ⟨hnb100, hnc100⟩, ⟨hnb99, hnc99⟩, ⟨hnb98, hnc98⟩, -⟩ := BX.out.apart 4 rfl
                have hcz102_0 : wc.cell? ⟨gb203, 0, none⟩ = some (.int .i64 a0_0) := (blk_cell (BX.out.get 4 rfl) 0).trans rfl
                have hcz102_1 : wc.cell? ⟨gb203, 1, none⟩ = some (.int .i64 a0_1) := (blk_cell (BX.out.get 4 rfl) 1).trans rfl
                have hfz102_0 := blk_frozen (BX.out.get 4 rfl) 0
                have hfz102_1 := blk_frozen (BX.out.get 4 rfl) 1
                obtain ⟨⟨hnb105, hnc105⟩, ⟨hnb104, hnc104⟩, ⟨hnb103, hnc103⟩, -⟩ := BX.out.apart 3 rfl
                have hcz106_0 : wc.cell? ⟨gb204, 0, none⟩ = some (.int .i64 a1_0) := (blk_cell (BX.out.get 3 rfl) 0).trans rfl
                have hcz106_1 : wc.cell? ⟨gb204, 1, none⟩ = some (.int .i64 a1_1) := (blk_cell (BX.out.get 3 rfl) 1).trans rfl
                have hfz106_0 := blk_frozen (BX.out.get 3 rfl) 0
                have hfz106_1 := blk_frozen (BX.out.get 3 rfl) 1
                go_wp2_with (first | (go_at_call 25; (with_reducible refine (num_Cmp.calls kj69 a0_0 a0_1 a1_0 a1_1 t230 _ A95.out).mono ?_); rintro e w107 ⟨rfl, hb⟩; have n0_ := Aside0.mk (Boxes.below (by (with_reducible repeat (first | apply boxes_drewN | apply boxes_drew | apply boxes_alloc)); exact BX.out) hb); have n1_ := Aside0.mk (below_step (by repeat (first | (with_reducible first | exact HB.out | apply below_alloc | apply pw_below_drewN | apply below_drew1 | refine below_set ?_ (Aside0.out (by assumption))) | exact HB.out)) hb); clear BX HB; have BX := n0_; have HB := n1_; clear n0_ n1_; (try clear hb); (try clear hb2); (try clear hk); (try clear hi); obtain ⟨⟨hnb109, hnc109⟩, ⟨hnb108, hnc108⟩, -⟩ := BX.out.apart 2 rfl; have hcz110_0 : w107.cell? ⟨gb212, 0, none⟩ = some (.int .i64 t209) := (blk_cell (BX.out.get 2 rfl) 0).trans rfl; have hcz110_1 : w107.cell? ⟨gb212, 1, none⟩ = some (.int .i64 t210) := (blk_cell (BX.out.get 2 rfl) 1).trans rfl; have hfz110_0 := blk_frozen (BX.out.get 2 rfl) 0; have hfz110_1 := blk_frozen (BX.out.get 2 rfl) 1; obtain ⟨⟨hnc111, hnb111⟩, -⟩ := BX.out.apart 0 rfl; have hcz112_0 : w107.cell? ⟨gb216, 0, none⟩ = some (.int .i64 t213) := (blk_cell (BX.out.get 1 rfl) 0).trans rfl; have hcz112_1 : w107.cell? ⟨gb216, 1, none⟩ = some (.int .i64 t214) := (blk_cell (BX.out.get 1 rfl) 1).trans rfl; have hfz112_0 := blk_frozen (BX.out.get 1 rfl) 0; have hfz112_1 := blk_frozen (BX.out.get 1 rfl) 1) | (go_at_call 25; (with_reducible refine (num_Cmp.calls kj69 t209 t210 t213 t214 t231 _ A97.out).mono ?_); rintro e w113 ⟨rfl, hb⟩; have n0_ := Aside0.mk (Boxes.below (by (with_reducible repeat (first | apply boxes_drewN | apply boxes_drew | apply boxes_alloc)); exact BX.out) hb); have n1_ := Aside0.mk (below_step (by repeat (first | (with_reducible first | exact HB.out | apply below_alloc | apply pw_below_drewN | apply below_drew1 | refine below_set ?_ (Aside0.out (by assumption))) | exact HB.out)) hb); clear BX HB; have BX := n0_; have HB := n1_; clear n0_ n1_; (try clear hb); (try clear hb2); (try clear hk); (try clear hi)))
                go_meet
                case rel => exact ⟨_, (decide (t231 > 0)), (by first | rfl | (simp; done) | (simp [*]; done) | (simp [bne_nil]; done)), H', ⟨by have := HJ3.out; have := HJ27.out; have := HJ47.out; have := HJ69.out; first | omega | exact Nat.le_refl _⟩, ⟨by (with_reducible repeat (first | apply boxes_drewN | apply boxes_drew | apply boxes_alloc)); exact BX.out⟩, ⟨by repeat (first | (with_reducible first | exact HB.out | apply below_alloc | apply pw_below_drewN | apply below_drew1 | refine below_set ?_ (Aside0.out (by assumption))) | exact HB.out)⟩⟩
               ·rw [if_neg c96] at H
                have c96b0 : decide (t230 ≤ 0) = false := decide_eq_false c96
                clear c96
                (first | rw [c96b0] | (simp only [i64_w, i32_w]; rw [c96b0]) | skip)
                have H' := Aside0.mk H
                clear H
                obtain ⟨⟨hnb117, hnc117⟩, ⟨hnb116, hnc116⟩, ⟨hnb115, hnc115⟩, ⟨hnb114, hnc114⟩, -⟩ := BX.out.apart 4 rfl
                have hcz118_0 : wc.cell? ⟨gb203, 0, none⟩ = some (.int .i64 a0_0) := (blk_cell (BX.out.get 4 rfl) 0).trans rfl
                have hcz118_1 : wc.cell? ⟨gb203, 1, none⟩ = some (.int .i64 a0_1) := (blk_cell (BX.out.get 4 rfl) 1).trans rfl
                have hfz118_0 := blk_frozen (BX.out.get 4 rfl) 0
                have hfz118_1 := blk_frozen (BX.out.get 4 rfl) 1
                obtain ⟨⟨hnb121, hnc121⟩, ⟨hnb120, hnc120⟩, ⟨hnb119, hnc119⟩, -⟩ := BX.out.apart 3 rfl
                have hcz122_0 : wc.cell? ⟨gb204, 0, none⟩ = some (.int .i64 a1_0) := (blk_cell (BX.out.get 3 rfl) 0).trans rfl
                have hcz122_1 : wc.cell? ⟨gb204, 1, none⟩ = some (.int .i64 a1_1) := (blk_cell (BX.out.get 3 rfl) 1).trans rfl
                have hfz122_0 := blk_frozen (BX.out.get 3 rfl) 0
                have hfz122_1 := blk_frozen (BX.out.get 3 rfl) 1
                go_wp2_with (first | (go_at_call 25; (with_reducible refine (num_Cmp.calls kj69 a0_0 a0_1 a1_0 a1_1 t230 _ A95.out).mono ?_); rintro e w123 ⟨rfl, hb⟩; have n0_ := Aside0.mk (Boxes.below (by (with_reducible repeat (first | apply boxes_drewN | apply boxes_drew | apply boxes_alloc)); exact BX.out) hb); have n1_ := Aside0.mk (below_step (by repeat (first | (with_reducible first | exact HB.out | apply below_alloc | apply pw_below_drewN | apply below_drew1 | refine below_set ?_ (Aside0.out (by assumption))) | exact HB.out)) hb); clear BX HB; have BX := n0_; have HB := n1_; clear n0_ n1_; (try clear hb); (try clear hb2); (try clear hk); (try clear hi)))
                go_meet
                case rel => exact ⟨_, (false), (by first | rfl | (simp; done) | (simp [*]; done) | (simp [bne_nil]; done)), H', ⟨by have := HJ3.out; have := HJ27.out; have := HJ47.out; have := HJ69.out; first | omega | exact Nat.le_refl _⟩, ⟨by (with_reducible repeat (first | apply boxes_drewN | apply boxes_drew | apply boxes_alloc)); exact BX.out⟩, ⟨by repeat (first | (with_reducible first | exact HB.out | apply below_alloc | apply pw_below_drewN | apply below_drew1 | refine below_set ?_ (Aside0.out (by assumption))) | exact HB.out)⟩⟩
              ·replace c94 := Bool.eq_false_iff.mpr c94
               subst c94
               have H1 : (whittlelaw1_NumRounds.j4 kj69 a2 true false a0_0 a0_1 t209 t210) = some r := by rw [if_neg (show ¬ (false = true) by decide)] at H; exact H
               clear H
               have H := H1
               clear H1
               have H' := Aside0.mk H
               clear H
               go_wp2
               go_meet
               case rel => exact ⟨_, (false), (by first | rfl | (simp; done) | (simp [*]; done) | (simp [bne_nil]; done)), H', ⟨by have := HJ3.out; have := HJ27.out; have := HJ47.out; have := HJ69.out; first | omega | exact Nat.le_refl _⟩, ⟨by (with_reducible repeat (first | apply boxes_drewN | apply boxes_drew | apply boxes_alloc)); exact BX.out⟩, ⟨by repeat (first | (with_reducible first | exact HB.out | apply below_alloc | apply pw_below_drewN | apply below_drew1 | refine below_set ?_ (Aside0.out (by assumption))) | exact HB.out)⟩⟩
             ·replace c93 := Bool.eq_false_iff.mpr c93
              subst c93
              have H1 : (whittlelaw1_NumRounds.j4 kj69 a2 false false a0_0 a0_1 t209 t210) = some r := by rw [if_neg (show ¬ (false = true) by decide)] at H; exact H
              clear H
              have H := H1
              clear H1
              have H' := Aside0.mk H
              clear H
              go_wp2
              go_meet
              case rel => exact ⟨_, (false), (by first | rfl | (simp; done) | (simp [*]; done) | (simp [bne_nil]; done)), H', ⟨by have := HJ3.out; have := HJ27.out; have := HJ47.out; have := HJ69.out; first | omega | exact Nat.le_refl _⟩, ⟨by (with_reducible repeat (first | apply boxes_drewN | apply boxes_drew | apply boxes_alloc)); exact BX.out⟩, ⟨by repeat (first | (with_reducible first | exact HB.out | apply below_alloc | apply pw_below_drewN | apply below_drew1 | refine below_set ?_ (Aside0.out (by assumption))) | exact HB.out)⟩⟩
            case rest =>
             clear HC92
             try clear c1
             try clear c2
             try clear p2
             try clear c3
             try clear c4
             try clear c5
             try clear c6
             try clear c7
             try clear c8
             try clear c9
             try clear c10
             try clear c11
             try clear c12
             try clear c13
             try clear c14
             try clear c19
             try clear c22
             try clear c23
             try clear c29
             try clear c33
             try clear c34
             try clear c39
             try clear c40
             try clear c41
             try clear c43
             try clear c43b0
             try clear c44
             try clear c45
             try clear c46
             try clear c49
             try clear c50
             try clear c51
             try clear c56
             try clear c57
             try clear c58
             try clear c59
             try clear c61
             try clear c61b0
             try clear c61b1
             try clear c61b2
             try clear c62
             try clear c69
             try clear c71
             try clear c73
             try clear c74
             try clear c74b0
             try clear c76
             try clear c77
             try clear c78
             try clear c79
             try clear c80
             try clear c84
             try clear c85
             try clear c86
             try clear c87
             try clear c88
             try clear c93
             try clear c94
             try clear c96
             try clear c96b0
             try clear c98
             try clear c99
             try clear c100
             try clear c101
             try clear c103
             try clear c104
             try clear c105
             try clear c108
             try clear c109
             try clear c111
             try clear c114
             try clear c115
             try clear c116
             try clear c117
             try clear c119
             try clear c120
             try clear c121
             try clear hcz102_0
             try clear hcz102_1
             try clear hcz106_0
             try clear hcz106_1
             try clear hcz110_0
             try clear hcz110_1
             try clear hcz112_0
             try clear hcz112_1
             try clear hcz118_0
             try clear hcz118_1
             try clear hcz122_0
             try clear hcz122_1
             try clear hcz14_0
             try clear hcz14_1
             try clear hcz16_0
             try clear hcz16_1
             try clear hcz20_0
             try clear hcz20_1
             try clear hcz30_0
             try clear hcz30_1
             try clear hcz35_0
             try clear hcz35_1
             try clear hcz36_0
             try clear hcz36_1
             try clear hcz42_0
             try clear hcz42_1
             try clear hcz52_0
             try clear hcz52_1
             try clear hcz60_0
             try clear hcz60_1
             try clear hcz81_0
             try clear hcz81_1
             try clear hcz89_0
             try clear hcz89_1
             try clear hcz90_0
             try clear hcz90_1
             try clear hfz102_0
             try clear hfz102_1
             try clear hfz106_0
             try clear hfz106_1
             try clear hfz110_0
             try clear hfz110_1
             try clear hfz112_0
             try clear hfz112_1
             try clear hfz118_0
             try clear hfz118_1
             try clear hfz122_0
             try clear hfz122_1
             try clear hfz14_0
             try clear hfz14_1
             try clear hfz16_0
             try clear hfz16_1
             try clear hfz20_0
             try clear hfz20_1
             try clear hfz30_0
             try clear hfz30_1
             try clear hfz35_0
             try clear hfz35_1
             try clear hfz36_0
             try clear hfz36_1
             try clear hfz42_0
             try clear hfz42_1
             try clear hfz52_0
             try clear hfz52_1
             try clear hfz60_0
             try clear hfz60_1
             try clear hfz81_0
             try clear hfz81_1
             try clear hfz89_0
             try clear hfz89_1
             try clear hfz90_0
             try clear hfz90_1
             try clear p2
             obtain ⟨kq, x108_91, rfl, HA, HJ91, BX, HB⟩ := hcut
             cases kq with
             | zero => exact absurd HA.out (by simp [whittlelaw1_NumRounds.j4])
             | succ kj91 =>
              have H := HA.out
              clear HA
              simp only [whittlelaw1_NumRounds.j4] at H
              by_cases c124 : x108_91 = true
              ·subst c124
               have H1 : (some false) = some r := by rw [if_pos rfl] at H; exact H
               clear H
               have H := H1
               clear H1
               exact absurd (Option.some.inj H) (by rw [HR.out]; decide)
              ·replace c124 := Bool.eq_false_iff.mpr c124
               subst c124
               have H1 : (if a2 = 0 then ((num_Floor.f kj91 a0_0 a0_1).bind fun bt232 => ((whittlelaw1_one.f).bind fun bt235 => ((num_Add.f kj91 bt232.1 bt232.2 bt235.1 bt235.2).bind fun bt237 => (if t211 = true then (if (t209 == bt232.1 && (t210 == bt232.2)) = true then (if a0_1 > 1 then (some true) else (some (t209 == a0_0 && (t210 == a0_1)))) else (if bt237.2.2 = true then (if (t209 == bt237.1 && (t210 == bt237.2.1)) = true then (if a0_1 > 1 then (some true) else (some (t209 == a0_0 && (t210 == a0_1)))) else (some false)) else (some false))) else (some false))))) else (some true)) = some r := by rw [if_neg (show ¬ (false = true) by decide)] at H; exact H
               clear H
               have H := H1
               clear H1
               by_cases c125 : a2 = 0
               ·rw [if_pos c125] at H
                have c125b0 : (a2 == 0) = true := beq_iff_eq.mpr c125
                have c125b1 : (a2 != 0) = false := bne_eq_false_iff_eq.mpr c125
                clear c125
                replace H := Option.bind_eq_some_iff.mp H
                obtain ⟨⟨t232, t233⟩, A1260, H⟩ := H
                have A126 := Aside0.mk A1260
                clear A1260
                replace H := Option.bind_eq_some_iff.mp H
                obtain ⟨⟨t235, t236⟩, A1270, H⟩ := H
                have A127 := Aside0.mk A1270
                clear A1270
                replace H := Option.bind_eq_some_iff.mp H
                obtain ⟨⟨t237, t238, t239⟩, A1280, H⟩ := H
                replace H : (if t211 = true then (if (t209 == t232 && (t210 == t233)) = true then (if a0_1 > 1 then (some true) else (some (t209 == a0_0 && (t210 == a0_1)))) else (if t239 = true then (if (t209 == t237 && (t210 == t238)) = true then (if a0_1 > 1 then (some true) else (some (t209 == a0_0 && (t210 == a0_1)))) else (some false)) else (some false))) else (some false)) = some r := H
                have A128 := Aside0.mk A1280
                clear A1280
                by_cases c129 : t211 = true
                ·subst c129
                 have H1 : (if (t209 == t232 && (t210 == t233)) = true then (if a0_1 > 1 then (some true) else (some (t209 == a0_0 && (t210 == a0_1)))) else (if t239 = true then (if (t209 == t237 && (t210 == t238)) = true then (if a0_1 > 1 then (some true) else (some (t209 == a0_0 && (t210 == a0_1)))) else (some false)) else (some false))) = some r := by rw [if_pos rfl] at H; exact H
                 clear H
                 have H := H1
                 clear H1
                 by_cases c130 : (t209 == t232 && (t210 == t233)) = true
                 ·rw [if_pos c130] at H
                  have c130b0 : (t209 == t232 && (t210 == t233)) = true := c130
                  (try (have c130b1 : decide (t209 = t232 && (t210 == t233)) = true := by simpa using c130))
                  (try (have c130b2 : (t209 == t232 && (t210 == t233)) = true := by simpa using c130))
                  clear c130
                  by_cases c131 : a0_1 > 1
                  ·rw [if_pos c131] at H
                   have c131b0 : decide (1 < a0_1) = true := decide_eq_true c131
                   clear c131
                   clear HR
                   obtain rfl := Option.some.inj H
                   obtain ⟨⟨hnb135, hnc135⟩, ⟨hnb134, hnc134⟩, ⟨hnb133, hnc133⟩, ⟨hnb132, hnc132⟩, -⟩ := BX.out.apart 4 rfl
                   have hcz136_0 : wc.cell? ⟨gb203, 0, none⟩ = some (.int .i64 a0_0) := (blk_cell (BX.out.get 4 rfl) 0).trans rfl
                   have hcz136_1 : wc.cell? ⟨gb203, 1, none⟩ = some (.int .i64 a0_1) := (blk_cell (BX.out.get 4 rfl) 1).trans rfl
                   have hfz136_0 := blk_frozen (BX.out.get 4 rfl) 0
                   have hfz136_1 := blk_frozen (BX.out.get 4 rfl) 1
                   try go_wp2_with (first | ((with_reducible refine gate_callee (f := 47) rfl ?_); refine goesL_ (some 112) rfl rfl Tryd.func47 (by kernel_rfl) rfl #[.agg #[.int .i64 a0_0, .int .i64 a0_1]] rfl (by (try simp only [List.map_toArray, List.map_cons, List.map_nil]); first | done | rfl | (simp only [List.length_drop, List.length_take]; rfl)) ?_; (with_reducible refine (num_Floor.calls kj91 a0_0 a0_1 t232 t233 _ A126.out).mono ?_); rintro e w137 ⟨rfl, hb⟩; refine ⟨_, rfl, ?_⟩; have n0_ := Aside0.mk (Boxes.below (by (with_reducible repeat (first | apply boxes_drewN | apply boxes_drew | apply boxes_alloc)); exact BX.out) hb); have n1_ := Aside0.mk (below_step (by repeat (first | (with_reducible first | exact HB.out | apply below_alloc | apply pw_below_drewN | apply below_drew1 | refine below_set ?_ (Aside0.out (by assumption))) | exact HB.out)) hb); clear BX HB; have BX := n0_; have HB := n1_; clear n0_ n1_; (try clear hb); (try clear hb2); (try clear hk); (try clear hi)) | ((with_reducible refine gate_dst (N := 15) rfl ?_); refine box_event ?hg (N := 15) ?hd (cs := #[.int .i64 0, .int .i64 0]) (t := 23) ?hr ?_; (case hd => rfl); (case hg => rfl); (case hr => first | (go_simp; done) | (go_simp; rfl)); intro gb234 hg w138 hbox hb; have n0_ := Aside0.mk (Boxes.new (by (with_reducible repeat (first | apply boxes_drewN | apply boxes_drew | apply boxes_alloc)); exact BX.out) hg hbox hb (below_size (by repeat (first | (with_reducible first | exact HB.out | apply below_alloc | apply pw_below_drewN | apply below_drew1 | refine below_set ?_ (Aside0.out (by assumption))) | exact HB.out)))); have n1_ := Aside0.mk (below_step (by repeat (first | (with_reducible first | exact HB.out | apply below_alloc | apply pw_below_drewN | apply below_drew1 | refine below_set ?_ (Aside0.out (by assumption))) | exact HB.out)) hb); have n2_ := Aside0.mk ((by rw [hg]; exact (below_size (by repeat (first | (with_reducible first | exact HB.out | apply below_alloc | apply pw_below_drewN | apply below_drew1 | refine below_set ?_ (Aside0.out (by assumption))) | exact HB.out))) : w.heap.size ≤ gb234)); clear BX HB; have BX := n0_; have HB := n1_; have GE234 := n2_; clear n0_ n1_ n2_; clear hb hbox hg; obtain ⟨⟨hnb143, hnc143⟩, ⟨hnb142, hnc142⟩, ⟨hnb141, hnc141⟩, ⟨hnb140, hnc140⟩, ⟨hnb139, hnc139⟩, -⟩ := BX.out.apart 0 rfl; have hcz144_0 : w138.cell? ⟨gb234, 0, none⟩ = some (.int .i64 0) := (blk_cell (BX.out.get 0 rfl) 0).trans rfl; have hcz144_1 : w138.cell? ⟨gb234, 1, none⟩ = some (.int .i64 0) := (blk_cell (BX.out.get 0 rfl) 1).trans rfl; have hfz144_0 := blk_frozen (BX.out.get 0 rfl) 0; have hfz144_1 := blk_frozen (BX.out.get 0 rfl) 1))
                   have n0_ : Aside0 (Boxes w.heap.size ((w138.setCell ⟨gb234, 0, none⟩ (.int .i64 t232)).setCell ⟨gb234, 1, none⟩ (.int .i64 t233)) ((gb234, 23, #[.int .i64 t232, .int .i64 t233]) :: _)) := ⟨by (with_reducible repeat (first | apply boxes_drewN | apply boxes_drew | apply boxes_alloc)); apply boxes_put 0; (with_reducible repeat (first | apply boxes_drewN | apply boxes_drew | apply boxes_alloc)); apply boxes_put 0; (with_reducible repeat (first | apply boxes_drewN | apply boxes_drew | apply boxes_alloc)); exact BX.out; any_goals rfl⟩
                   have n1_ : Aside0 (Below w.heap.size w ((w138.setCell ⟨gb234, 0, none⟩ (.int .i64 t232)).setCell ⟨gb234, 1, none⟩ (.int .i64 t233))) := ⟨by repeat (first | (with_reducible first | exact HB.out | apply below_alloc | apply pw_below_drewN | apply below_drew1 | refine below_set ?_ (Aside0.out (by assumption))) | exact HB.out)⟩
                   (try clear BX)
                   (try clear HB)
                   generalize ((w138.setCell ⟨gb234, 0, none⟩ (.int .i64 t232)).setCell ⟨gb234, 1, none⟩ (.int .i64 t233)) = w145 at n0_ n1_ ⊢
                   have BX := n0_
                   have HB := n1_
                   clear n0_ n1_
                   have n0_ := Aside0.mk (boxes_drew BX.out)
                   have n1_ := Aside0.mk (below_drew1 HB.out)
                   clear BX HB
                   have BX := n0_
                   have HB := n1_
                   clear n0_ n1_
                   refine start_ (n := 9) (S := fun w' => w'.cell? ⟨gb234, 0, none⟩ = some (.int .i64 t232) ∧ w'.cell? ⟨gb234, 1, none⟩ = some (.int .i64 t233)) (ds := []) #[false, false, false, false, false, false, false, false, false] (by kernel_rfl) rfl rfl ⟨(blk_cell (BX.out.get 0 rfl) 0).trans rfl, (blk_cell (BX.out.get 0 rfl) 1).trans rfl⟩ (fun hHeld => ?_); refine with_tabW whittlelaw1_NumRounds.tab19 whittlelaw1_NumRounds.bits19 (fun HT_ HW_ => ?_)
                   generalize w145.drew = w146 at BX HB hHeld ⊢
                   refine take_ (i := 0) (N := some 114) (v := ?_) (a' := ?_) #[true, false, false, false, false, false, false, false, false] rfl rfl (take_ofW HT_.out HW_.out (by kernel_rfl)) (fun _ _ _ h => h) (Or.inl ⟨by rfl, ?_⟩) hHeld ?_ ?_
                   rotate_left
                   ·rintro w' ⟨s0, s1⟩
                    go_simp
                    with_reducible rfl
                   rotate_left
                   ·simp only [Act.put, List.setIfInBounds_toArray, List.set_cons_zero, List.set_cons_succ, i64_w, i32_w]
                    rfl
                   refine join_ (σ := Nat) 2 #[true, true, true, true, true, true, true, false, false] (fun s_ => [(115, .agg #[.int .i64 t235, .int .i64 t236]), (116, .tuple #[.agg #[.int .i64 t237, .int .i64 t238], .bool t239]), (16, .pointer (some ⟨s_, 0, none⟩)), (113, .tuple #[.agg #[.int .i64 t237, .int .i64 t238], .bool t239]), (117, .agg #[.int .i64 t237, .int .i64 t238]), (118, .bool t239)]) (fun s_ w' => (w'.cell? ⟨gb234, 0, none⟩ = some (.int .i64 t232) ∧ w'.cell? ⟨gb234, 1, none⟩ = some (.int .i64 t233)) ∧ (Boxes w.heap.size w' [(s_, 23, #[.int .i64 0, .int .i64 0]), (gb234, 23, #[.int .i64 t232, .int .i64 t233]), (gb222, 23, #[.int .i64 t219, .int .i64 t220]), (gb216, 23, #[.int .i64 t213, .int .i64 t214]), (gb212, 23, #[.int .i64 t209, .int .i64 t210]), (gb204, 23, #[.int .i64 a1_0, .int .i64 a1_1]), (gb203, 23, #[.int .i64 a0_0, .int .i64 a0_1])]) ∧ (w.heap.size ≤ s_) ∧ (Below w.heap.size w w')) ?_ ?_
                   rotate_left
                   ·intro hCont
                    refine two_ (i := 1) (j := 6) (Ni := some 115) (Nj := some 16) #[true, true, false, false, false, false, false, false, false] #[true, false, false, false, false, false, true, false, false] rfl rfl rfl rfl (two_of HT_.out (by kernel_rfl)) (by decide) (by decide) (fun K hK => ?_) (fun K hK => ?_)
                    ·skip
                     refine goes_ Tryd.func48 (by kernel_rfl) rfl #[] (by rfl) rfl rfl (by (try simp only [List.map_toArray, List.map_cons, List.map_nil]); first | done | rfl | (simp only [List.length_drop, List.length_take]; rfl)) ?_
                     with_reducible refine (whittlelaw1_one.calls  t235 t236 _ A127.out).mono ?_
                     rintro e w147 ⟨rfl, hb⟩
                     refine ⟨_, rfl, ?_⟩
                     have n0_ := Aside0.mk (Boxes.below (by (with_reducible repeat (first | apply boxes_drewN | apply boxes_drew | apply boxes_alloc)); exact BX.out) hb)
                     have n1_ := Aside0.mk (below_step (by repeat (first | (with_reducible first | exact HB.out | apply below_alloc | apply pw_below_drewN | apply below_drew1 | refine below_set ?_ (Aside0.out (by assumption))) | exact HB.out)) hb)
                     clear BX HB
                     have BX := n0_
                     have HB := n1_
                     clear n0_ n1_
                     (try clear hb)
                     (try clear hb2)
                     (try clear hk)
                     (try clear hi)
                     refine hK.out _ _ ⟨(blk_cell (BX.out.get 0 rfl) 0).trans rfl, (blk_cell (BX.out.get 0 rfl) 1).trans rfl⟩ (fun hHeld => ?_)
                     clear hK K
                     refine norm_ (a' := ?_) ?_ ?_
                     rotate_left
                     ·show Act.put _ (some 115) _ = _
                      simp only [Act.put, List.setIfInBounds_toArray, List.set_cons_zero, List.set_cons_succ, i64_w, i32_w]
                      rfl
                     refine two_ (i := 2) (j := 6) (Ni := some 116) (Nj := some 16) #[true, true, true, false, false, false, false, false, false] #[true, true, false, false, false, false, true, false, false] rfl rfl rfl rfl (two_of HT_.out (by kernel_rfl)) (by decide) (by decide) (fun K hK => ?_) (fun K hK => ?_)
                     ·skip
                      refine goes_ Tryd.func33 (by kernel_rfl) rfl #[.agg #[.int .i64 t232, .int .i64 t233], .agg #[.int .i64 t235, .int .i64 t236]] (by rfl) rfl rfl (by (try simp only [List.map_toArray, List.map_cons, List.map_nil]); first | done | rfl | (simp only [List.length_drop, List.length_take]; rfl)) ?_
                      with_reducible refine (num_Add.calls kj91 t232 t233 t235 t236 t237 t238 t239 _ A128.out).mono ?_
                      rintro e w148 ⟨rfl, hb⟩
                      refine ⟨_, rfl, ?_⟩
                      have n0_ := Aside0.mk (Boxes.below (by (with_reducible repeat (first | apply boxes_drewN | apply boxes_drew | apply boxes_alloc)); exact BX.out) hb)
                      have n1_ := Aside0.mk (below_step (by repeat (first | (with_reducible first | exact HB.out | apply below_alloc | apply pw_below_drewN | apply below_drew1 | refine below_set ?_ (Aside0.out (by assumption))) | exact HB.out)) hb)
                      clear BX HB
                      have BX := n0_
                      have HB := n1_
                      clear n0_ n1_
                      (try clear hb)
                      (try clear hb2)
                      (try clear hk)
                      (try clear hi)
                      refine hK.out _ _ ⟨(blk_cell (BX.out.get 0 rfl) 0).trans rfl, (blk_cell (BX.out.get 0 rfl) 1).trans rfl⟩ (fun hHeld => ?_)
                      clear hK K
                      refine norm_ (a' := ?_) ?_ ?_
                      rotate_left
                      ·show Act.put _ (some 116) _ = _
                       simp only [Act.put, List.setIfInBounds_toArray, List.set_cons_zero, List.set_cons_succ, i64_w, i32_w]
                       rfl
                      refine pure_ (i := 3) (N := some 113) (v := ?_) (a' := ?_) #[true, true, true, true, false, false, false, false, false] rfl rfl (any_of HT_.out (by kernel_rfl)) (fun _ _ _ h => h) (Or.inl ⟨by rfl, ?_⟩) ?_ ?_
                      rotate_left
                      ·intro w'
                       go_simp
                       with_reducible rfl
                      rotate_left
                      ·simp only [Act.put, List.setIfInBounds_toArray, List.set_cons_zero, List.set_cons_succ, i64_w, i32_w]
                       rfl
                      refine pure_ (i := 4) (N := some 117) (v := ?_) (a' := ?_) #[true, true, true, true, true, false, false, false, false] rfl rfl (any_of HT_.out (by kernel_rfl)) (fun _ _ _ h => h) (Or.inl ⟨by rfl, ?_⟩) ?_ ?_
                      rotate_left
                      ·intro w'
                       go_simp
                       with_reducible rfl
                      rotate_left
                      ·simp only [Act.put, List.setIfInBounds_toArray, List.set_cons_zero, List.set_cons_succ, i64_w, i32_w]
                       rfl
                      refine pure_ (i := 5) (N := some 118) (v := ?_) (a' := ?_) #[true, true, true, true, true, true, false, false, false] rfl rfl (any_of HT_.out (by kernel_rfl)) (fun _ _ _ h => h) (Or.inl ⟨by rfl, ?_⟩) ?_ ?_
                      rotate_left
                      ·intro w'
                       go_simp
                       with_reducible rfl
                      rotate_left
                      ·simp only [Act.put, List.setIfInBounds_toArray, List.set_cons_zero, List.set_cons_succ, i64_w, i32_w]
                       rfl
                      refine one_ (i := 6) (N := some 16) #[true, true, true, true, true, true, true, false, false] rfl rfl (one_of HT_.out (by kernel_rfl)) (by decide) (fun K hK => ?_)
                      refine box_step ?hg (N := 16) ?hd (cs := #[.int .i64 0, .int .i64 0]) (t := 23) ?hr ?_; (case hd => rfl); (case hg => rfl); (case hr => first | (go_simp; done) | (go_simp; rfl))
                      intro gb240 hg w149 hbox hb
                      have n0_ := Aside0.mk (Boxes.new (by (with_reducible repeat (first | apply boxes_drewN | apply boxes_drew | apply boxes_alloc)); exact BX.out) hg hbox hb (below_size (by repeat (first | (with_reducible first | exact HB.out | apply below_alloc | apply pw_below_drewN | apply below_drew1 | refine below_set ?_ (Aside0.out (by assumption))) | exact HB.out))))
                      have n1_ := Aside0.mk (below_step (by repeat (first | (with_reducible first | exact HB.out | apply below_alloc | apply pw_below_drewN | apply below_drew1 | refine below_set ?_ (Aside0.out (by assumption))) | exact HB.out)) hb)
                      have n2_ := Aside0.mk ((by rw [hg]; exact (below_size (by repeat (first | (with_reducible first | exact HB.out | apply below_alloc | apply pw_below_drewN | apply below_drew1 | refine below_set ?_ (Aside0.out (by assumption))) | exact HB.out))) : w.heap.size ≤ gb240))
                      clear BX HB
                      have BX := n0_
                      have HB := n1_
                      have GE240 := n2_
                      clear n0_ n1_ n2_
                      clear hb hbox hg
                      refine hK.out _ _ ⟨(blk_cell (BX.out.get 1 rfl) 0).trans rfl, (blk_cell (BX.out.get 1 rfl) 1).trans rfl⟩ (fun hHeld => ?_)
                      clear hK K
                      refine norm_ (a' := ?_) ?_ ?_
                      rotate_left
                      ·show Act.put _ (some 16) _ = _
                       simp only [Act.put, List.setIfInBounds_toArray, List.set_cons_zero, List.set_cons_succ, i64_w, i32_w]
                       rfl
                      exact norm_ (by simp only [putAll, Act.put, List.setIfInBounds_toArray, List.set_cons_zero, List.set_cons_succ]) (hCont (gb240) _ ⟨hHeld, (by (with_reducible repeat (first | apply boxes_drewN | apply boxes_drew | apply boxes_alloc)); exact BX.out), GE240.out, (by repeat (first | (with_reducible first | exact HB.out | apply below_alloc | apply pw_below_drewN | apply below_drew1 | refine below_set ?_ (Aside0.out (by assumption))) | exact HB.out))⟩)
                     ·skip
                      refine box_step ?hg (N := 16) ?hd (cs := #[.int .i64 0, .int .i64 0]) (t := 23) ?hr ?_; (case hd => rfl); (case hg => rfl); (case hr => first | (go_simp; done) | (go_simp; rfl))
                      intro gb240 hg w148 hbox hb
                      have n0_ := Aside0.mk (Boxes.new (by (with_reducible repeat (first | apply boxes_drewN | apply boxes_drew | apply boxes_alloc)); exact BX.out) hg hbox hb (below_size (by repeat (first | (with_reducible first | exact HB.out | apply below_alloc | apply pw_below_drewN | apply below_drew1 | refine below_set ?_ (Aside0.out (by assumption))) | exact HB.out))))
                      have n1_ := Aside0.mk (below_step (by repeat (first | (with_reducible first | exact HB.out | apply below_alloc | apply pw_below_drewN | apply below_drew1 | refine below_set ?_ (Aside0.out (by assumption))) | exact HB.out)) hb)
                      have n2_ := Aside0.mk ((by rw [hg]; exact (below_size (by repeat (first | (with_reducible first | exact HB.out | apply below_alloc | apply pw_below_drewN | apply below_drew1 | refine below_set ?_ (Aside0.out (by assumption))) | exact HB.out))) : w.heap.size ≤ gb240))
                      clear BX HB
                      have BX := n0_
                      have HB := n1_
                      have GE240 := n2_
                      clear n0_ n1_ n2_
                      clear hb hbox hg
                      refine hK.out _ _ ⟨(blk_cell (BX.out.get 1 rfl) 0).trans rfl, (blk_cell (BX.out.get 1 rfl) 1).trans rfl⟩ (fun hHeld => ?_)
                      clear hK K
                      refine norm_ (a' := ?_) ?_ ?_
                      rotate_left
                      ·show Act.put _ (some 16) _ = _
                       simp only [Act.put, List.setIfInBounds_toArray, List.set_cons_zero, List.set_cons_succ, i64_w, i32_w]
                       rfl
                      refine one_ (i := 2) (N := some 116) #[true, true, true, false, false, false, true, false, false] rfl rfl (one_of HT_.out (by kernel_rfl)) (by decide) (fun K hK => ?_)
                      refine goes_ Tryd.func33 (by kernel_rfl) rfl #[.agg #[.int .i64 t232, .int .i64 t233], .agg #[.int .i64 t235, .int .i64 t236]] (by rfl) rfl rfl (by (try simp only [List.map_toArray, List.map_cons, List.map_nil]); first | done | rfl | (simp only [List.length_drop, List.length_take]; rfl)) ?_
                      with_reducible refine (num_Add.calls kj91 t232 t233 t235 t236 t237 t238 t239 _ A128.out).mono ?_
                      rintro e w149 ⟨rfl, hb⟩
                      refine ⟨_, rfl, ?_⟩
                      have n0_ := Aside0.mk (Boxes.below (by (with_reducible repeat (first | apply boxes_drewN | apply boxes_drew | apply boxes_alloc)); exact BX.out) hb)
                      have n1_ := Aside0.mk (below_step (by repeat (first | (with_reducible first | exact HB.out | apply below_alloc | apply pw_below_drewN | apply below_drew1 | refine below_set ?_ (Aside0.out (by assumption))) | exact HB.out)) hb)
                      clear BX HB
                      have BX := n0_
                      have HB := n1_
                      clear n0_ n1_
                      (try clear hb)
                      (try clear hb2)
                      (try clear hk)
                      (try clear hi)
                      refine hK.out _ _ ⟨(blk_cell (BX.out.get 1 rfl) 0).trans rfl, (blk_cell (BX.out.get 1 rfl) 1).trans rfl⟩ (fun hHeld => ?_)
                      clear hK K
                      refine norm_ (a' := ?_) ?_ ?_
                      rotate_left
                      ·show Act.put _ (some 116) _ = _
                       simp only [Act.put, List.setIfInBounds_toArray, List.set_cons_zero, List.set_cons_succ, i64_w, i32_w]
                       rfl
                      refine pure_ (i := 3) (N := some 113) (v := ?_) (a' := ?_) #[true, true, true, true, false, false, true, false, false] rfl rfl (any_of HT_.out (by kernel_rfl)) (fun _ _ _ h => h) (Or.inl ⟨by rfl, ?_⟩) ?_ ?_
                      rotate_left
                      ·intro w'
                       go_simp
                       with_reducible rfl
                      rotate_left
                      ·simp only [Act.put, List.setIfInBounds_toArray, List.set_cons_zero, List.set_cons_succ, i64_w, i32_w]
                       rfl
                      refine pure_ (i := 4) (N := some 117) (v := ?_) (a' := ?_) #[true, true, true, true, true, false, true, false, false] rfl rfl (any_of HT_.out (by kernel_rfl)) (fun _ _ _ h => h) (Or.inl ⟨by rfl, ?_⟩) ?_ ?_
                      rotate_left
                      ·intro w'
                       go_simp
                       with_reducible rfl
                      rotate_left
                      ·simp only [Act.put, List.setIfInBounds_toArray, List.set_cons_zero, List.set_cons_succ, i64_w, i32_w]
                       rfl
                      refine pure_ (i := 5) (N := some 118) (v := ?_) (a' := ?_) #[true, true, true, true, true, true, true, false, false] rfl rfl (any_of HT_.out (by kernel_rfl)) (fun _ _ _ h => h) (Or.inl ⟨by rfl, ?_⟩) ?_ ?_
                      rotate_left
                      ·intro w'
                       go_simp
                       with_reducible rfl
                      rotate_left
                      ·simp only [Act.put, List.setIfInBounds_toArray, List.set_cons_zero, List.set_cons_succ, i64_w, i32_w]
                       rfl
                      exact norm_ (by simp only [putAll, Act.put, List.setIfInBounds_toArray, List.set_cons_zero, List.set_cons_succ]) (hCont (gb240) _ ⟨hHeld, (by (with_reducible repeat (first | apply boxes_drewN | apply boxes_drew | apply boxes_alloc)); exact BX.out), GE240.out, (by repeat (first | (with_reducible first | exact HB.out | apply below_alloc | apply pw_below_drewN | apply below_drew1 | refine below_set ?_ (Aside0.out (by assumption))) | exact HB.out))⟩)
                    ·skip
                     refine box_step ?hg (N := 16) ?hd (cs := #[.int .i64 0, .int .i64 0]) (t := 23) ?hr ?_; (case hd => rfl); (case hg => rfl); (case hr => first | (go_simp; done) | (go_simp; rfl))
                     intro gb240 hg w147 hbox hb
                     have n0_ := Aside0.mk (Boxes.new (by (with_reducible repeat (first | apply boxes_drewN | apply boxes_drew | apply boxes_alloc)); exact BX.out) hg hbox hb (below_size (by repeat (first | (with_reducible first | exact HB.out | apply below_alloc | apply pw_below_drewN | apply below_drew1 | refine below_set ?_ (Aside0.out (by assumption))) | exact HB.out))))
                     have n1_ := Aside0.mk (below_step (by repeat (first | (with_reducible first | exact HB.out | apply below_alloc | apply pw_below_drewN | apply below_drew1 | refine below_set ?_ (Aside0.out (by assumption))) | exact HB.out)) hb)
                     have n2_ := Aside0.mk ((by rw [hg]; exact (below_size (by repeat (first | (with_reducible first | exact HB.out | apply below_alloc | apply pw_below_drewN | apply below_drew1 | refine below_set ?_ (Aside0.out (by assumption))) | exact HB.out))) : w.heap.size ≤ gb240))
                     clear BX HB
                     have BX := n0_
                     have HB := n1_
                     have GE240 := n2_
                     clear n0_ n1_ n2_
                     clear hb hbox hg
                     refine hK.out _ _ ⟨(blk_cell (BX.out.get 1 rfl) 0).trans rfl, (blk_cell (BX.out.get 1 rfl) 1).trans rfl⟩ (fun hHeld => ?_)
                     clear hK K
                     refine norm_ (a' := ?_) ?_ ?_
                     rotate_left
                     ·show Act.put _ (some 16) _ = _
                      simp only [Act.put, List.setIfInBounds_toArray, List.set_cons_zero, List.set_cons_succ, i64_w, i32_w]
                      rfl
                     refine one_ (i := 1) (N := some 115) #[true, true, false, false, false, false, true, false, false] rfl rfl (one_of HT_.out (by kernel_rfl)) (by decide) (fun K hK => ?_)
                     refine goes_ Tryd.func48 (by kernel_rfl) rfl #[] (by rfl) rfl rfl (by (try simp only [List.map_toArray, List.map_cons, List.map_nil]); first | done | rfl | (simp only [List.length_drop, List.length_take]; rfl)) ?_
                     with_reducible refine (whittlelaw1_one.calls  t235 t236 _ A127.out).mono ?_
                     rintro e w148 ⟨rfl, hb⟩
                     refine ⟨_, rfl, ?_⟩
                     have n0_ := Aside0.mk (Boxes.below (by (with_reducible repeat (first | apply boxes_drewN | apply boxes_drew | apply boxes_alloc)); exact BX.out) hb)
                     have n1_ := Aside0.mk (below_step (by repeat (first | (with_reducible first | exact HB.out | apply below_alloc | apply pw_below_drewN | apply below_drew1 | refine below_set ?_ (Aside0.out (by assumption))) | exact HB.out)) hb)
                     clear BX HB
                     have BX := n0_
                     have HB := n1_
                     clear n0_ n1_
                     (try clear hb)
                     (try clear hb2)
                     (try clear hk)
                     (try clear hi)
                     refine hK.out _ _ ⟨(blk_cell (BX.out.get 1 rfl) 0).trans rfl, (blk_cell (BX.out.get 1 rfl) 1).trans rfl⟩ (fun hHeld => ?_)
                     clear hK K
                     refine norm_ (a' := ?_) ?_ ?_
                     rotate_left
                     ·show Act.put _ (some 115) _ = _
                      simp only [Act.put, List.setIfInBounds_toArray, List.set_cons_zero, List.set_cons_succ, i64_w, i32_w]
                      rfl
                     refine one_ (i := 2) (N := some 116) #[true, true, true, false, false, false, true, false, false] rfl rfl (one_of HT_.out (by kernel_rfl)) (by decide) (fun K hK => ?_)
                     refine goes_ Tryd.func33 (by kernel_rfl) rfl #[.agg #[.int .i64 t232, .int .i64 t233], .agg #[.int .i64 t235, .int .i64 t236]] (by rfl) rfl rfl (by (try simp only [List.map_toArray, List.map_cons, List.map_nil]); first | done | rfl | (simp only [List.length_drop, List.length_take]; rfl)) ?_
                     with_reducible refine (num_Add.calls kj91 t232 t233 t235 t236 t237 t238 t239 _ A128.out).mono ?_
                     rintro e w149 ⟨rfl, hb⟩
                     refine ⟨_, rfl, ?_⟩
                     have n0_ := Aside0.mk (Boxes.below (by (with_reducible repeat (first | apply boxes_drewN | apply boxes_drew | apply boxes_alloc)); exact BX.out) hb)
                     have n1_ := Aside0.mk (below_step (by repeat (first | (with_reducible first | exact HB.out | apply below_alloc | apply pw_below_drewN | apply below_drew1 | refine below_set ?_ (Aside0.out (by assumption))) | exact HB.out)) hb)
                     clear BX HB
                     have BX := n0_
                     have HB := n1_
                     clear n0_ n1_
                     (try clear hb)
                     (try clear hb2)
                     (try clear hk)
                     (try clear hi)
                     refine hK.out _ _ ⟨(blk_cell (BX.out.get 1 rfl) 0).trans rfl, (blk_cell (BX.out.get 1 rfl) 1).trans rfl⟩ (fun hHeld => ?_)
                     clear hK K
                     refine norm_ (a' := ?_) ?_ ?_
                     rotate_left
                     ·show Act.put _ (some 116) _ = _
                      simp only [Act.put, List.setIfInBounds_toArray, List.set_cons_zero, List.set_cons_succ, i64_w, i32_w]
                      rfl
                     refine pure_ (i := 3) (N := some 113) (v := ?_) (a' := ?_) #[true, true, true, true, false, false, true, false, false] rfl rfl (any_of HT_.out (by kernel_rfl)) (fun _ _ _ h => h) (Or.inl ⟨by rfl, ?_⟩) ?_ ?_
                     rotate_left
                     ·intro w'
                      go_simp
                      with_reducible rfl
                     rotate_left
                     ·simp only [Act.put, List.setIfInBounds_toArray, List.set_cons_zero, List.set_cons_succ, i64_w, i32_w]
                      rfl
                     refine pure_ (i := 4) (N := some 117) (v := ?_) (a' := ?_) #[true, true, true, true, true, false, true, false, false] rfl rfl (any_of HT_.out (by kernel_rfl)) (fun _ _ _ h => h) (Or.inl ⟨by rfl, ?_⟩) ?_ ?_
                     rotate_left
                     ·intro w'
                      go_simp
                      with_reducible rfl
                     rotate_left
                     ·simp only [Act.put, List.setIfInBounds_toArray, List.set_cons_zero, List.set_cons_succ, i64_w, i32_w]
                      rfl
                     refine pure_ (i := 5) (N := some 118) (v := ?_) (a' := ?_) #[true, true, true, true, true, true, true, false, false] rfl rfl (any_of HT_.out (by kernel_rfl)) (fun _ _ _ h => h) (Or.inl ⟨by rfl, ?_⟩) ?_ ?_
                     rotate_left
                     ·intro w'
                      go_simp
                      with_reducible rfl
                     rotate_left
                     ·simp only [Act.put, List.setIfInBounds_toArray, List.set_cons_zero, List.set_cons_succ, i64_w, i32_w]
                      rfl
                     exact norm_ (by simp only [putAll, Act.put, List.setIfInBounds_toArray, List.set_cons_zero, List.set_cons_succ]) (hCont (gb240) _ ⟨hHeld, (by (with_reducible repeat (first | apply boxes_drewN | apply boxes_drew | apply boxes_alloc)); exact BX.out), GE240.out, (by repeat (first | (with_reducible first | exact HB.out | apply below_alloc | apply pw_below_drewN | apply below_drew1 | refine below_set ?_ (Aside0.out (by assumption))) | exact HB.out))⟩)
                   rintro gb240 w150 ⟨hS_, hBX_, hJ0_, hJ1_⟩
                   have n0_ : Aside0 (Boxes w.heap.size w150 [(gb240, 23, #[.int .i64 0, .int .i64 0]), (gb234, 23, #[.int .i64 t232, .int .i64 t233]), (gb222, 23, #[.int .i64 t219, .int .i64 t220]), (gb216, 23, #[.int .i64 t213, .int .i64 t214]), (gb212, 23, #[.int .i64 t209, .int .i64 t210]), (gb204, 23, #[.int .i64 a1_0, .int .i64 a1_1]), (gb203, 23, #[.int .i64 a0_0, .int .i64 a0_1])]) := ⟨hBX_⟩
                   have n1_ : Aside0 (w.heap.size ≤ gb240) := ⟨hJ0_⟩
                   have n2_ : Aside0 (Below w.heap.size w w150) := ⟨hJ1_⟩
                   clear BX HB hBX_ hJ0_ hJ1_
                   have BX := n0_
                   have GE240 := n1_
                   have HB := n2_
                   clear n0_ n1_ n2_
                   have hHeld : w150.cell? ⟨gb234, 0, none⟩ = some (.int .i64 t232) ∧ w150.cell? ⟨gb234, 1, none⟩ = some (.int .i64 t233) := hS_
                   refine norm_ (a' := ?_) ?_ ?_
                   rotate_left
                   ·simp only [putAll, Act.put, List.setIfInBounds_toArray, List.set_cons_zero, List.set_cons_succ]
                    rfl
                   refine one_ (i := 7) (N := none) #[true, true, true, true, true, true, true, true, false] rfl rfl (one_of HT_.out (by kernel_rfl)) (by decide) (fun K hK => ?_)
                   have hs151 : w150.cell? ⟨gb240, 0, none⟩ = some (.int .i64 0) := (blk_cell (BX.out.get 0 rfl) 0).trans rfl
                   have hfs151 := blk_frozen (BX.out.get 0 rfl) 0
                   obtain ⟨⟨hms151_5, hns151_5⟩, ⟨hms151_4, hns151_4⟩, ⟨hms151_3, hns151_3⟩, ⟨hms151_2, hns151_2⟩, ⟨hms151_1, hns151_1⟩, ⟨hms151_0, hns151_0⟩, -⟩ := BX.out.apart 0 rfl
                   have hs152 : w150.cell? ⟨gb240, 1, none⟩ = some (.int .i64 0) := (blk_cell (BX.out.get 0 rfl) 1).trans rfl
                   have hfs152 := blk_frozen (BX.out.get 0 rfl) 1
                   obtain ⟨⟨hms152_5, hns152_5⟩, ⟨hms152_4, hns152_4⟩, ⟨hms152_3, hns152_3⟩, ⟨hms152_2, hns152_2⟩, ⟨hms152_1, hns152_1⟩, ⟨hms152_0, hns152_0⟩, -⟩ := BX.out.apart 0 rfl
                   refine skip_ (w1 := ?_) (by rfl) rfl ?_ ?_
                   rotate_left
                   ·go_simp
                    rfl
                   refine hK.out _ _ ⟨((cell_far (p := ⟨gb240, _, none⟩) (BX.out.ne 1 0 rfl rfl (by decide)) _).trans (((cell_far (p := ⟨gb240, _, none⟩) (BX.out.ne 1 0 rfl rfl (by decide)) _).trans (hHeld.1)))), ((cell_far (p := ⟨gb240, _, none⟩) (BX.out.ne 1 0 rfl rfl (by decide)) _).trans (((cell_far (p := ⟨gb240, _, none⟩) (BX.out.ne 1 0 rfl rfl (by decide)) _).trans (hHeld.2))))⟩ (fun hHeld => ?_)
                   clear hK K
                   refine pure_ (i := 8) (N := some 17) (v := ?_) (a' := ?_) #[true, true, true, true, true, true, true, true, true] rfl rfl (any_of HT_.out (by kernel_rfl)) (fun _ _ _ h => h) (Or.inl ⟨by rfl, ?_⟩) ?_ ?_
                   rotate_left
                   ·intro w'
                    go_simp
                    with_reducible rfl
                   rotate_left
                   ·simp only [Act.put, List.setIfInBounds_toArray, List.set_cons_zero, List.set_cons_succ, i64_w, i32_w]
                    rfl
                   refine done_ (done_of HT_.out (by kernel_rfl)) ?_
                   obtain ⟨⟨hnb156, hnc156⟩, -, ⟨hnb155, hnc155⟩, ⟨hnb154, hnc154⟩, ⟨hnb153, hnc153⟩, -⟩ := BX.out.apart 4 rfl
                   have hcz157_0 : w150.cell? ⟨gb212, 0, none⟩ = some (.int .i64 t209) := (blk_cell (BX.out.get 4 rfl) 0).trans rfl
                   have hcz157_1 : w150.cell? ⟨gb212, 1, none⟩ = some (.int .i64 t210) := (blk_cell (BX.out.get 4 rfl) 1).trans rfl
                   have hfz157_0 := blk_frozen (BX.out.get 4 rfl) 0
                   have hfz157_1 := blk_frozen (BX.out.get 4 rfl) 1
                   obtain ⟨⟨hnc158, hnb158⟩, -⟩ := BX.out.apart 0 rfl
                   have hcz159_0 : w150.cell? ⟨gb234, 0, none⟩ = some (.int .i64 t232) := (blk_cell (BX.out.get 1 rfl) 0).trans rfl
                   have hcz159_1 : w150.cell? ⟨gb234, 1, none⟩ = some (.int .i64 t233) := (blk_cell (BX.out.get 1 rfl) 1).trans rfl
                   have hfz159_0 := blk_frozen (BX.out.get 1 rfl) 0
                   have hfz159_1 := blk_frozen (BX.out.get 1 rfl) 1
                   obtain ⟨-, -, -, -, -, ⟨hnc160, hnb160⟩, -⟩ := BX.out.apart 0 rfl
                   have hcz161_0 : w150.cell? ⟨gb203, 0, none⟩ = some (.int .i64 a0_0) := (blk_cell (BX.out.get 6 rfl) 0).trans rfl
                   have hcz161_1 : w150.cell? ⟨gb203, 1, none⟩ = some (.int .i64 a0_1) := (blk_cell (BX.out.get 6 rfl) 1).trans rfl
                   have hfz161_0 := blk_frozen (BX.out.get 6 rfl) 0
                   have hfz161_1 := blk_frozen (BX.out.get 6 rfl) 1
                   try go_wp2
                   go_ret
                   exact ⟨by first | rfl | (simp [errW_none, errW_some] <;> rfl) | (simp [*, errW_none, errW_some] <;> rfl), by repeat (first | (with_reducible first | exact HB.out | apply below_alloc | apply pw_below_drewN | apply below_drew1 | refine below_set ?_ (Aside0.out (by assumption))) | exact HB.out)⟩
                  ·rw [if_neg c131] at H
                   have c131b0 : decide (1 < a0_1) = false := decide_eq_false c131
                   clear c131
                   clear HR
                   obtain rfl := Option.some.inj H
                   obtain ⟨⟨hnb165, hnc165⟩, ⟨hnb164, hnc164⟩, ⟨hnb163, hnc163⟩, ⟨hnb162, hnc162⟩, -⟩ := BX.out.apart 4 rfl
                   have hcz166_0 : wc.cell? ⟨gb203, 0, none⟩ = some (.int .i64 a0_0) := (blk_cell (BX.out.get 4 rfl) 0).trans rfl
                   have hcz166_1 : wc.cell? ⟨gb203, 1, none⟩ = some (.int .i64 a0_1) := (blk_cell (BX.out.get 4 rfl) 1).trans rfl
                   have hfz166_0 := blk_frozen (BX.out.get 4 rfl) 0
                   have hfz166_1 := blk_frozen (BX.out.get 4 rfl) 1
                   try go_wp2_with (first | ((with_reducible refine gate_callee (f := 47) rfl ?_); refine goesL_ (some 112) rfl rfl Tryd.func47 (by kernel_rfl) rfl #[.agg #[.int .i64 a0_0, .int .i64 a0_1]] rfl (by (try simp only [List.map_toArray, List.map_cons, List.map_nil]); first | done | rfl | (simp only [List.length_drop, List.length_take]; rfl)) ?_; (with_reducible refine (num_Floor.calls kj91 a0_0 a0_1 t232 t233 _ A126.out).mono ?_); rintro e w167 ⟨rfl, hb⟩; refine ⟨_, rfl, ?_⟩; have n0_ := Aside0.mk (Boxes.below (by (with_reducible repeat (first | apply boxes_drewN | apply boxes_drew | apply boxes_alloc)); exact BX.out) hb); have n1_ := Aside0.mk (below_step (by repeat (first | (with_reducible first | exact HB.out | apply below_alloc | apply pw_below_drewN | apply below_drew1 | refine below_set ?_ (Aside0.out (by assumption))) | exact HB.out)) hb); clear BX HB; have BX := n0_; have HB := n1_; clear n0_ n1_; (try clear hb); (try clear hb2); (try clear hk); (try clear hi)) | ((with_reducible refine gate_dst (N := 15) rfl ?_); refine box_event ?hg (N := 15) ?hd (cs := #[.int .i64 0, .int .i64 0]) (t := 23) ?hr ?_; (case hd => rfl); (case hg => rfl); (case hr => first | (go_simp; done) | (go_simp; rfl)); intro gb234 hg w168 hbox hb; have n0_ := Aside0.mk (Boxes.new (by (with_reducible repeat (first | apply boxes_drewN | apply boxes_drew | apply boxes_alloc)); exact BX.out) hg hbox hb (below_size (by repeat (first | (with_reducible first | exact HB.out | apply below_alloc | apply pw_below_drewN | apply below_drew1 | refine below_set ?_ (Aside0.out (by assumption))) | exact HB.out)))); have n1_ := Aside0.mk (below_step (by repeat (first | (with_reducible first | exact HB.out | apply below_alloc | apply pw_below_drewN | apply below_drew1 | refine below_set ?_ (Aside0.out (by assumption))) | exact HB.out)) hb); have n2_ := Aside0.mk ((by rw [hg]; exact (below_size (by repeat (first | (with_reducible first | exact HB.out | apply below_alloc | apply pw_below_drewN | apply below_drew1 | refine below_set ?_ (Aside0.out (by assumption))) | exact HB.out))) : w.heap.size ≤ gb234)); clear BX HB; have BX := n0_; have HB := n1_; have GE234 := n2_; clear n0_ n1_ n2_; clear hb hbox hg; obtain ⟨⟨hnb173, hnc173⟩, ⟨hnb172, hnc172⟩, ⟨hnb171, hnc171⟩, ⟨hnb170, hnc170⟩, ⟨hnb169, hnc169⟩, -⟩ := BX.out.apart 0 rfl; have hcz174_0 : w168.cell? ⟨gb234, 0, none⟩ = some (.int .i64 0) := (blk_cell (BX.out.get 0 rfl) 0).trans rfl; have hcz174_1 : w168.cell? ⟨gb234, 1, none⟩ = some (.int .i64 0) := (blk_cell (BX.out.get 0 rfl) 1).trans rfl; have hfz174_0 := blk_frozen (BX.out.get 0 rfl) 0; have hfz174_1 := blk_frozen (BX.out.get 0 rfl) 1))
                   have n0_ : Aside0 (Boxes w.heap.size ((w168.setCell ⟨gb234, 0, none⟩ (.int .i64 t232)).setCell ⟨gb234, 1, none⟩ (.int .i64 t233)) ((gb234, 23, #[.int .i64 t232, .int .i64 t233]) :: _)) := ⟨by (with_reducible repeat (first | apply boxes_drewN | apply boxes_drew | apply boxes_alloc)); apply boxes_put 0; (with_reducible repeat (first | apply boxes_drewN | apply boxes_drew | apply boxes_alloc)); apply boxes_put 0; (with_reducible repeat (first | apply boxes_drewN | apply boxes_drew | apply boxes_alloc)); exact BX.out; any_goals rfl⟩
                   have n1_ : Aside0 (Below w.heap.size w ((w168.setCell ⟨gb234, 0, none⟩ (.int .i64 t232)).setCell ⟨gb234, 1, none⟩ (.int .i64 t233))) := ⟨by repeat (first | (with_reducible first | exact HB.out | apply below_alloc | apply pw_below_drewN | apply below_drew1 | refine below_set ?_ (Aside0.out (by assumption))) | exact HB.out)⟩
                   (try clear BX)
                   (try clear HB)
                   generalize ((w168.setCell ⟨gb234, 0, none⟩ (.int .i64 t232)).setCell ⟨gb234, 1, none⟩ (.int .i64 t233)) = w175 at n0_ n1_ ⊢
                   have BX := n0_
                   have HB := n1_
                   clear n0_ n1_
                   have n0_ := Aside0.mk (boxes_drew BX.out)
                   have n1_ := Aside0.mk (below_drew1 HB.out)
                   clear BX HB
                   have BX := n0_
                   have HB := n1_
                   clear n0_ n1_
                   refine start_ (n := 9) (S := fun w' => w'.cell? ⟨gb234, 0, none⟩ = some (.int .i64 t232) ∧ w'.cell? ⟨gb234, 1, none⟩ = some (.int .i64 t233)) (ds := []) #[false, false, false, false, false, false, false, false, false] (by kernel_rfl) rfl rfl ⟨(blk_cell (BX.out.get 0 rfl) 0).trans rfl, (blk_cell (BX.out.get 0 rfl) 1).trans rfl⟩ (fun hHeld => ?_); refine with_tabW whittlelaw1_NumRounds.tab19 whittlelaw1_NumRounds.bits19 (fun HT_ HW_ => ?_)
                   generalize w175.drew = w176 at BX HB hHeld ⊢
                   refine take_ (i := 0) (N := some 114) (v := ?_) (a' := ?_) #[true, false, false, false, false, false, false, false, false] rfl rfl (take_ofW HT_.out HW_.out (by kernel_rfl)) (fun _ _ _ h => h) (Or.inl ⟨by rfl, ?_⟩) hHeld ?_ ?_
                   rotate_left
                   ·rintro w' ⟨s0, s1⟩
                    go_simp
                    with_reducible rfl
                   rotate_left
                   ·simp only [Act.put, List.setIfInBounds_toArray, List.set_cons_zero, List.set_cons_succ, i64_w, i32_w]
                    rfl
                   refine join_ (σ := Nat) 2 #[true, true, true, true, true, true, true, false, false] (fun s_ => [(115, .agg #[.int .i64 t235, .int .i64 t236]), (116, .tuple #[.agg #[.int .i64 t237, .int .i64 t238], .bool t239]), (16, .pointer (some ⟨s_, 0, none⟩)), (113, .tuple #[.agg #[.int .i64 t237, .int .i64 t238], .bool t239]), (117, .agg #[.int .i64 t237, .int .i64 t238]), (118, .bool t239)]) (fun s_ w' => (w'.cell? ⟨gb234, 0, none⟩ = some (.int .i64 t232) ∧ w'.cell? ⟨gb234, 1, none⟩ = some (.int .i64 t233)) ∧ (Boxes w.heap.size w' [(s_, 23, #[.int .i64 0, .int .i64 0]), (gb234, 23, #[.int .i64 t232, .int .i64 t233]), (gb222, 23, #[.int .i64 t219, .int .i64 t220]), (gb216, 23, #[.int .i64 t213, .int .i64 t214]), (gb212, 23, #[.int .i64 t209, .int .i64 t210]), (gb204, 23, #[.int .i64 a1_0, .int .i64 a1_1]), (gb203, 23, #[.int .i64 a0_0, .int .i64 a0_1])]) ∧ (w.heap.size ≤ s_) ∧ (Below w.heap.size w w')) ?_ ?_
                   rotate_left
                   ·intro hCont
                    refine two_ (i := 1) (j := 6) (Ni := some 115) (Nj := some 16) #[true, true, false, false, false, false, false, false, false] #[true, false, false, false, false, false, true, false, false] rfl rfl rfl rfl (two_of HT_.out (by kernel_rfl)) (by decide) (by decide) (fun K hK => ?_) (fun K hK => ?_)
                    ·skip
                     refine goes_ Tryd.func48 (by kernel_rfl) rfl #[] (by rfl) rfl rfl (by (try simp only [List.map_toArray, List.map_cons, List.map_nil]); first | done | rfl | (simp only [List.length_drop, List.length_take]; rfl)) ?_
                     with_reducible refine (whittlelaw1_one.calls  t235 t236 _ A127.out).mono ?_
                     rintro e w177 ⟨rfl, hb⟩
                     refine ⟨_, rfl, ?_⟩
                     have n0_ := Aside0.mk (Boxes.below (by (with_reducible repeat (first | apply boxes_drewN | apply boxes_drew | apply boxes_alloc)); exact BX.out) hb)
                     have n1_ := Aside0.mk (below_step (by repeat (first | (with_reducible first | exact HB.out | apply below_alloc | apply pw_below_drewN | apply below_drew1 | refine below_set ?_ (Aside0.out (by assumption))) | exact HB.out)) hb)
                     clear BX HB
                     have BX := n0_
                     have HB := n1_
                     clear n0_ n1_
                     (try clear hb)
                     (try clear hb2)
                     (try clear hk)
                     (try clear hi)
                     refine hK.out _ _ ⟨(blk_cell (BX.out.get 0 rfl) 0).trans rfl, (blk_cell (BX.out.get 0 rfl) 1).trans rfl⟩ (fun hHeld => ?_)
                     clear hK K
                     refine norm_ (a' := ?_) ?_ ?_
                     rotate_left
                     ·show Act.put _ (some 115) _ = _
                      simp only [Act.put, List.setIfInBounds_toArray, List.set_cons_zero, List.set_cons_succ, i64_w, i32_w]
                      rfl
                     refine two_ (i := 2) (j := 6) (Ni := some 116) (Nj := some 16) #[true, true, true, false, false, false, false, false, false] #[true, true, false, false, false, false, true, false, false] rfl rfl rfl rfl (two_of HT_.out (by kernel_rfl)) (by decide) (by decide) (fun K hK => ?_) (fun K hK => ?_)
                     ·skip
                      refine goes_ Tryd.func33 (by kernel_rfl) rfl #[.agg #[.int .i64 t232, .int .i64 t233], .agg #[.int .i64 t235, .int .i64 t236]] (by rfl) rfl rfl (by (try simp only [List.map_toArray, List.map_cons, List.map_nil]); first | done | rfl | (simp only [List.length_drop, List.length_take]; rfl)) ?_
                      with_reducible refine (num_Add.calls kj91 t232 t233 t235 t236 t237 t238 t239 _ A128.out).mono ?_
                      rintro e w178 ⟨rfl, hb⟩
                      refine ⟨_, rfl, ?_⟩
                      have n0_ := Aside0.mk (Boxes.below (by (with_reducible repeat (first | apply boxes_drewN | apply boxes_drew | apply boxes_alloc)); exact BX.out) hb)
                      have n1_ := Aside0.mk (below_step (by repeat (first | (with_reducible first | exact HB.out | apply below_alloc | apply pw_below_drewN | apply below_drew1 | refine below_set ?_ (Aside0.out (by assumption))) | exact HB.out)) hb)
                      clear BX HB
                      have BX := n0_
                      have HB := n1_
                      clear n0_ n1_
                      (try clear hb)
                      (try clear hb2)
                      (try clear hk)
                      (try clear hi)
                      refine hK.out _ _ ⟨(blk_cell (BX.out.get 0 rfl) 0).trans rfl, (blk_cell (BX.out.get 0 rfl) 1).trans rfl⟩ (fun hHeld => ?_)
                      clear hK K
                      refine norm_ (a' := ?_) ?_ ?_
                      rotate_left
                      ·show Act.put _ (some 116) _ = _
                       simp only [Act.put, List.setIfInBounds_toArray, List.set_cons_zero, List.set_cons_succ, i64_w, i32_w]
                       rfl
                      refine pure_ (i := 3) (N := some 113) (v := ?_) (a' := ?_) #[true, true, true, true, false, false, false, false, false] rfl rfl (any_of HT_.out (by kernel_rfl)) (fun _ _ _ h => h) (Or.inl ⟨by rfl, ?_⟩) ?_ ?_
                      rotate_left
                      ·intro w'
                       go_simp
                       with_reducible rfl
                      rotate_left
                      ·simp only [Act.put, List.setIfInBounds_toArray, List.set_cons_zero, List.set_cons_succ, i64_w, i32_w]
                       rfl
                      refine pure_ (i := 4) (N := some 117) (v := ?_) (a' := ?_) #[true, true, true, true, true, false, false, false, false] rfl rfl (any_of HT_.out (by kernel_rfl)) (fun _ _ _ h => h) (Or.inl ⟨by rfl, ?_⟩) ?_ ?_
                      rotate_left
                      ·intro w'
                       go_simp
                       with_reducible rfl
                      rotate_left
                      ·simp only [Act.put, List.setIfInBounds_toArray, List.set_cons_zero, List.set_cons_succ, i64_w, i32_w]
                       rfl
                      refine pure_ (i := 5) (N := some 118) (v := ?_) (a' := ?_) #[true, true, true, true, true, true, false, false, false] rfl rfl (any_of HT_.out (by kernel_rfl)) (fun _ _ _ h => h) (Or.inl ⟨by rfl, ?_⟩) ?_ ?_
                      rotate_left
                      ·intro w'
                       go_simp
                       with_reducible rfl
                      rotate_left
                      ·simp only [Act.put, List.setIfInBounds_toArray, List.set_cons_zero, List.set_cons_succ, i64_w, i32_w]
                       rfl
                      refine one_ (i := 6) (N := some 16) #[true, true, true, true, true, true, true, false, false] rfl rfl (one_of HT_.out (by kernel_rfl)) (by decide) (fun K hK => ?_)
                      refine box_step ?hg (N := 16) ?hd (cs := #[.int .i64 0, .int .i64 0]) (t := 23) ?hr ?_; (case hd => rfl); (case hg => rfl); (case hr => first | (go_simp; done) | (go_simp; rfl))
                      intro gb240 hg w179 hbox hb
                      have n0_ := Aside0.mk (Boxes.new (by (with_reducible repeat (first | apply boxes_drewN | apply boxes_drew | apply boxes_alloc)); exact BX.out) hg hbox hb (below_size (by repeat (first | (with_reducible first | exact HB.out | apply below_alloc | apply pw_below_drewN | apply below_drew1 | refine below_set ?_ (Aside0.out (by assumption))) | exact HB.out))))
                      have n1_ := Aside0.mk (below_step (by repeat (first | (with_reducible first | exact HB.out | apply below_alloc | apply pw_below_drewN | apply below_drew1 | refine below_set ?_ (Aside0.out (by assumption))) | exact HB.out)) hb)
                      have n2_ := Aside0.mk ((by rw [hg]; exact (below_size (by repeat (first | (with_reducible first | exact HB.out | apply below_alloc | apply pw_below_drewN | apply below_drew1 | refine below_set ?_ (Aside0.out (by assumption))) | exact HB.out))) : w.heap.size ≤ gb240))
                      clear BX HB
                      have BX := n0_
                      have HB := n1_
                      have GE240 := n2_
                      clear n0_ n1_ n2_
                      clear hb hbox hg
                      refine hK.out _ _ ⟨(blk_cell (BX.out.get 1 rfl) 0).trans rfl, (blk_cell (BX.out.get 1 rfl) 1).trans rfl⟩ (fun hHeld => ?_)
                      clear hK K
                      refine norm_ (a' := ?_) ?_ ?_
                      rotate_left
                      ·show Act.put _ (some 16) _ = _
                       simp only [Act.put, List.setIfInBounds_toArray, List.set_cons_zero, List.set_cons_succ, i64_w, i32_w]
                       rfl
                      exact norm_ (by simp only [putAll, Act.put, List.setIfInBounds_toArray, List.set_cons_zero, List.set_cons_succ]) (hCont (gb240) _ ⟨hHeld, (by (with_reducible repeat (first | apply boxes_drewN | apply boxes_drew | apply boxes_alloc)); exact BX.out), GE240.out, (by repeat (first | (with_reducible first | exact HB.out | apply below_alloc | apply pw_below_drewN | apply below_drew1 | refine below_set ?_ (Aside0.out (by assumption))) | exact HB.out))⟩)
                     ·skip
                      refine box_step ?hg (N := 16) ?hd (cs := #[.int .i64 0, .int .i64 0]) (t := 23) ?hr ?_; (case hd => rfl); (case hg => rfl); (case hr => first | (go_simp; done) | (go_simp; rfl))
                      intro gb240 hg w178 hbox hb
                      have n0_ := Aside0.mk (Boxes.new (by (with_reducible repeat (first | apply boxes_drewN | apply boxes_drew | apply boxes_alloc)); exact BX.out) hg hbox hb (below_size (by repeat (first | (with_reducible first | exact HB.out | apply below_alloc | apply pw_below_drewN | apply below_drew1 | refine below_set ?_ (Aside0.out (by assumption))) | exact HB.out))))
                      have n1_ := Aside0.mk (below_step (by repeat (first | (with_reducible first | exact HB.out | apply below_alloc | apply pw_below_drewN | apply below_drew1 | refine below_set ?_ (Aside0.out (by assumption))) | exact HB.out)) hb)
                      have n2_ := Aside0.mk ((by rw [hg]; exact (below_size (by repeat (first | (with_reducible first | exact HB.out | apply below_alloc | apply pw_below_drewN | apply below_drew1 | refine below_set ?_ (Aside0.out (by assumption))) | exact HB.out))) : w.heap.size ≤ gb240))
                      clear BX HB
                      have BX := n0_
                      have HB := n1_
                      have GE240 := n2_
                      clear n0_ n1_ n2_
                      clear hb hbox hg
                      refine hK.out _ _ ⟨(blk_cell (BX.out.get 1 rfl) 0).trans rfl, (blk_cell (BX.out.get 1 rfl) 1).trans rfl⟩ (fun hHeld => ?_)
                      clear hK K
                      refine norm_ (a' := ?_) ?_ ?_
                      rotate_left
                      ·show Act.put _ (some 16) _ = _
                       simp only [Act.put, List.setIfInBounds_toArray, List.set_cons_zero, List.set_cons_succ, i64_w, i32_w]
                       rfl
                      refine one_ (i := 2) (N := some 116) #[true, true, true, false, false, false, true, false, false] rfl rfl (one_of HT_.out (by kernel_rfl)) (by decide) (fun K hK => ?_)
                      refine goes_ Tryd.func33 (by kernel_rfl) rfl #[.agg #[.int .i64 t232, .int .i64 t233], .agg #[.int .i64 t235, .int .i64 t236]] (by rfl) rfl rfl (by (try simp only [List.map_toArray, List.map_cons, List.map_nil]); first | done | rfl | (simp only [List.length_drop, List.length_take]; rfl)) ?_
                      with_reducible refine (num_Add.calls kj91 t232 t233 t235 t236 t237 t238 t239 _ A128.out).mono ?_
                      rintro e w179 ⟨rfl, hb⟩
                      refine ⟨_, rfl, ?_⟩
                      have n0_ := Aside0.mk (Boxes.below (by (with_reducible repeat (first | apply boxes_drewN | apply boxes_drew | apply boxes_alloc)); exact BX.out) hb)
                      have n1_ := Aside0.mk (below_step (by repeat (first | (with_reducible first | exact HB.out | apply below_alloc | apply pw_below_drewN | apply below_drew1 | refine below_set ?_ (Aside0.out (by assumption))) | exact HB.out)) hb)
                      clear BX HB
                      have BX := n0_
                      have HB := n1_
                      clear n0_ n1_
                      (try clear hb)
                      (try clear hb2)
                      (try clear hk)
                      (try clear hi)
                      refine hK.out _ _ ⟨(blk_cell (BX.out.get 1 rfl) 0).trans rfl, (blk_cell (BX.out.get 1 rfl) 1).trans rfl⟩ (fun hHeld => ?_)
                      clear hK K
                      refine norm_ (a' := ?_) ?_ ?_
                      rotate_left
                      ·show Act.put _ (some 116) _ = _
                       simp only [Act.put, List.setIfInBounds_toArray, List.set_cons_zero, List.set_cons_succ, i64_w, i32_w]
                       rfl
                      refine pure_ (i := 3) (N := some 113) (v := ?_) (a' := ?_) #[true, true, true, true, false, false, true, false, false] rfl rfl (any_of HT_.out (by kernel_rfl)) (fun _ _ _ h => h) (Or.inl ⟨by rfl, ?_⟩) ?_ ?_
                      rotate_left
                      ·intro w'
                       go_simp
                       with_reducible rfl
                      rotate_left
                      ·simp only [Act.put, List.setIfInBounds_toArray, List.set_cons_zero, List.set_cons_succ, i64_w, i32_w]
                       rfl
                      refine pure_ (i := 4) (N := some 117) (v := ?_) (a' := ?_) #[true, true, true, true, true, false, true, false, false] rfl rfl (any_of HT_.out (by kernel_rfl)) (fun _ _ _ h => h) (Or.inl ⟨by rfl, ?_⟩) ?_ ?_
                      rotate_left
                      ·intro w'
                       go_simp
                       with_reducible rfl
                      rotate_left
                      ·simp only [Act.put, List.setIfInBounds_toArray, List.set_cons_zero, List.set_cons_succ, i64_w, i32_w]
                       rfl
                      refine pure_ (i := 5) (N := some 118) (v := ?_) (a' := ?_) #[true, true, true, true, true, true, true, false, false] rfl rfl (any_of HT_.out (by kernel_rfl)) (fun _ _ _ h => h) (Or.inl ⟨by rfl, ?_⟩) ?_ ?_
                      rotate_left
                      ·intro w'
                       go_simp
                       with_reducible rfl
                      rotate_left
                      ·simp only [Act.put, List.setIfInBounds_toArray, List.set_cons_zero, List.set_cons_succ, i64_w, i32_w]
                       rfl
                      exact norm_ (by simp only [putAll, Act.put, List.setIfInBounds_toArray, List.set_cons_zero, List.set_cons_succ]) (hCont (gb240) _ ⟨hHeld, (by (with_reducible repeat (first | apply boxes_drewN | apply boxes_drew | apply boxes_alloc)); exact BX.out), GE240.out, (by repeat (first | (with_reducible first | exact HB.out | apply below_alloc | apply pw_below_drewN | apply below_drew1 | refine below_set ?_ (Aside0.out (by assumption))) | exact HB.out))⟩)
                    ·skip
                     refine box_step ?hg (N := 16) ?hd (cs := #[.int .i64 0, .int .i64 0]) (t := 23) ?hr ?_; (case hd => rfl); (case hg => rfl); (case hr => first | (go_simp; done) | (go_simp; rfl))
                     intro gb240 hg w177 hbox hb
                     have n0_ := Aside0.mk (Boxes.new (by (with_reducible repeat (first | apply boxes_drewN | apply boxes_drew | apply boxes_alloc)); exact BX.out) hg hbox hb (below_size (by repeat (first | (with_reducible first | exact HB.out | apply below_alloc | apply pw_below_drewN | apply below_drew1 | refine below_set ?_ (Aside0.out (by assumption))) | exact HB.out))))
                     have n1_ := Aside0.mk (below_step (by repeat (first | (with_reducible first | exact HB.out | apply below_alloc | apply pw_below_drewN | apply below_drew1 | refine below_set ?_ (Aside0.out (by assumption))) | exact HB.out)) hb)
                     have n2_ := Aside0.mk ((by rw [hg]; exact (below_size (by repeat (first | (with_reducible first | exact HB.out | apply below_alloc | apply pw_below_drewN | apply below_drew1 | refine below_set ?_ (Aside0.out (by assumption))) | exact HB.out))) : w.heap.size ≤ gb240))
                     clear BX HB
                     have BX := n0_
                     have HB := n1_
                     have GE240 := n2_
                     clear n0_ n1_ n2_
                     clear hb hbox hg
                     refine hK.out _ _ ⟨(blk_cell (BX.out.get 1 rfl) 0).trans rfl, (blk_cell (BX.out.get 1 rfl) 1).trans rfl⟩ (fun hHeld => ?_)
                     clear hK K
                     refine norm_ (a' := ?_) ?_ ?_
                     rotate_left
                     ·show Act.put _ (some 16) _ = _
                      simp only [Act.put, List.setIfInBounds_toArray, List.set_cons_zero, List.set_cons_succ, i64_w, i32_w]
                      rfl
                     refine one_ (i := 1) (N := some 115) #[true, true, false, false, false, false, true, false, false] rfl rfl (one_of HT_.out (by kernel_rfl)) (by decide) (fun K hK => ?_)
                     refine goes_ Tryd.func48 (by kernel_rfl) rfl #[] (by rfl) rfl rfl (by (try simp only [List.map_toArray, List.map_cons, List.map_nil]); first | done | rfl | (simp only [List.length_drop, List.length_take]; rfl)) ?_
                     with_reducible refine (whittlelaw1_one.calls  t235 t236 _ A127.out).mono ?_
                     rintro e w178 ⟨rfl, hb⟩
                     refine ⟨_, rfl, ?_⟩
                     have n0_ := Aside0.mk (Boxes.below (by (with_reducible repeat (first | apply boxes_drewN | apply boxes_drew | apply boxes_alloc)); exact BX.out) hb)
                     have n1_ := Aside0.mk (below_step (by repeat (first | (with_reducible first | exact HB.out | apply below_alloc | apply pw_below_drewN | apply below_drew1 | refine below_set ?_ (Aside0.out (by assumption))) | exact HB.out)) hb)
                     clear BX HB
                     have BX := n0_
                     have HB := n1_
                     clear n0_ n1_
                     (try clear hb)
                     (try clear hb2)
                     (try clear hk)
                     (try clear hi)
                     refine hK.out _ _ ⟨(blk_cell (BX.out.get 1 rfl) 0).trans rfl, (blk_cell (BX.out.get 1 rfl) 1).trans rfl⟩ (fun hHeld => ?_)
                     clear hK K
                     refine norm_ (a' := ?_) ?_ ?_
                     rotate_left
                     ·show Act.put _ (some 115) _ = _
                      simp only [Act.put, List.setIfInBounds_toArray, List.set_cons_zero, List.set_cons_succ, i64_w, i32_w]
                      rfl
                     refine one_ (i := 2) (N := some 116) #[true, true, true, false, false, false, true, false, false] rfl rfl (one_of HT_.out (by kernel_rfl)) (by decide) (fun K hK => ?_)
                     refine goes_ Tryd.func33 (by kernel_rfl) rfl #[.agg #[.int .i64 t232, .int .i64 t233], .agg #[.int .i64 t235, .int .i64 t236]] (by rfl) rfl rfl (by (try simp only [List.map_toArray, List.map_cons, List.map_nil]); first | done | rfl | (simp only [List.length_drop, List.length_take]; rfl)) ?_
                     with_reducible refine (num_Add.calls kj91 t232 t233 t235 t236 t237 t238 t239 _ A128.out).mono ?_
                     rintro e w179 ⟨rfl, hb⟩
                     refine ⟨_, rfl, ?_⟩
                     have n0_ := Aside0.mk (Boxes.below (by (with_reducible repeat (first | apply boxes_drewN | apply boxes_drew | apply boxes_alloc)); exact BX.out) hb)
                     have n1_ := Aside0.mk (below_step (by repeat (first | (with_reducible first | exact HB.out | apply below_alloc | apply pw_below_drewN | apply below_drew1 | refine below_set ?_ (Aside0.out (by assumption))) | exact HB.out)) hb)
                     clear BX HB
                     have BX := n0_
                     have HB := n1_
                     clear n0_ n1_
                     (try clear hb)
                     (try clear hb2)
                     (try clear hk)
                     (try clear hi)
                     refine hK.out _ _ ⟨(blk_cell (BX.out.get 1 rfl) 0).trans rfl, (blk_cell (BX.out.get 1 rfl) 1).trans rfl⟩ (fun hHeld => ?_)
                     clear hK K
                     refine norm_ (a' := ?_) ?_ ?_
                     rotate_left
                     ·show Act.put _ (some 116) _ = _
                      simp only [Act.put, List.setIfInBounds_toArray, List.set_cons_zero, List.set_cons_succ, i64_w, i32_w]
                      rfl
                     refine pure_ (i := 3) (N := some 113) (v := ?_) (a' := ?_) #[true, true, true, true, false, false, true, false, false] rfl rfl (any_of HT_.out (by kernel_rfl)) (fun _ _ _ h => h) (Or.inl ⟨by rfl, ?_⟩) ?_ ?_
                     rotate_left
                     ·intro w'
                      go_simp
                      with_reducible rfl
                     rotate_left
                     ·simp only [Act.put, List.setIfInBounds_toArray, List.set_cons_zero, List.set_cons_succ, i64_w, i32_w]
                      rfl
                     refine pure_ (i := 4) (N := some 117) (v := ?_) (a' := ?_) #[true, true, true, true, true, false, true, false, false] rfl rfl (any_of HT_.out (by kernel_rfl)) (fun _ _ _ h => h) (Or.inl ⟨by rfl, ?_⟩) ?_ ?_
                     rotate_left
                     ·intro w'
                      go_simp
                      with_reducible rfl
                     rotate_left
                     ·simp only [Act.put, List.setIfInBounds_toArray, List.set_cons_zero, List.set_cons_succ, i64_w, i32_w]
                      rfl
                     refine pure_ (i := 5) (N := some 118) (v := ?_) (a' := ?_) #[true, true, true, true, true, true, true, false, false] rfl rfl (any_of HT_.out (by kernel_rfl)) (fun _ _ _ h => h) (Or.inl ⟨by rfl, ?_⟩) ?_ ?_
                     rotate_left
                     ·intro w'
                      go_simp
                      with_reducible rfl
                     rotate_left
                     ·simp only [Act.put, List.setIfInBounds_toArray, List.set_cons_zero, List.set_cons_succ, i64_w, i32_w]
                      rfl
                     exact norm_ (by simp only [putAll, Act.put, List.setIfInBounds_toArray, List.set_cons_zero, List.set_cons_succ]) (hCont (gb240) _ ⟨hHeld, (by (with_reducible repeat (first | apply boxes_drewN | apply boxes_drew | apply boxes_alloc)); exact BX.out), GE240.out, (by repeat (first | (with_reducible first | exact HB.out | apply below_alloc | apply pw_below_drewN | apply below_drew1 | refine below_set ?_ (Aside0.out (by assumption))) | exact HB.out))⟩)
                   rintro gb240 w180 ⟨hS_, hBX_, hJ0_, hJ1_⟩
                   have n0_ : Aside0 (Boxes w.heap.size w180 [(gb240, 23, #[.int .i64 0, .int .i64 0]), (gb234, 23, #[.int .i64 t232, .int .i64 t233]), (gb222, 23, #[.int .i64 t219, .int .i64 t220]), (gb216, 23, #[.int .i64 t213, .int .i64 t214]), (gb212, 23, #[.int .i64 t209, .int .i64 t210]), (gb204, 23, #[.int .i64 a1_0, .int .i64 a1_1]), (gb203, 23, #[.int .i64 a0_0, .int .i64 a0_1])]) := ⟨hBX_⟩
                   have n1_ : Aside0 (w.heap.size ≤ gb240) := ⟨hJ0_⟩
                   have n2_ : Aside0 (Below w.heap.size w w180) := ⟨hJ1_⟩
                   clear BX HB hBX_ hJ0_ hJ1_
                   have BX := n0_
                   have GE240 := n1_
                   have HB := n2_
                   clear n0_ n1_ n2_
                   have hHeld : w180.cell? ⟨gb234, 0, none⟩ = some (.int .i64 t232) ∧ w180.cell? ⟨gb234, 1, none⟩ = some (.int .i64 t233) := hS_
                   refine norm_ (a' := ?_) ?_ ?_
                   rotate_left
                   ·simp only [putAll, Act.put, List.setIfInBounds_toArray, List.set_cons_zero, List.set_cons_succ]
                    rfl
                   refine one_ (i := 7) (N := none) #[true, true, true, true, true, true, true, true, false] rfl rfl (one_of HT_.out (by kernel_rfl)) (by decide) (fun K hK => ?_)
                   have hs181 : w180.cell? ⟨gb240, 0, none⟩ = some (.int .i64 0) := (blk_cell (BX.out.get 0 rfl) 0).trans rfl
                   have hfs181 := blk_frozen (BX.out.get 0 rfl) 0
                   obtain ⟨⟨hms181_5, hns181_5⟩, ⟨hms181_4, hns181_4⟩, ⟨hms181_3, hns181_3⟩, ⟨hms181_2, hns181_2⟩, ⟨hms181_1, hns181_1⟩, ⟨hms181_0, hns181_0⟩, -⟩ := BX.out.apart 0 rfl
                   have hs182 : w180.cell? ⟨gb240, 1, none⟩ = some (.int .i64 0) := (blk_cell (BX.out.get 0 rfl) 1).trans rfl
                   have hfs182 := blk_frozen (BX.out.get 0 rfl) 1
                   obtain ⟨⟨hms182_5, hns182_5⟩, ⟨hms182_4, hns182_4⟩, ⟨hms182_3, hns182_3⟩, ⟨hms182_2, hns182_2⟩, ⟨hms182_1, hns182_1⟩, ⟨hms182_0, hns182_0⟩, -⟩ := BX.out.apart 0 rfl
                   refine skip_ (w1 := ?_) (by rfl) rfl ?_ ?_
                   rotate_left
                   ·go_simp
                    rfl
                   refine hK.out _ _ ⟨((cell_far (p := ⟨gb240, _, none⟩) (BX.out.ne 1 0 rfl rfl (by decide)) _).trans (((cell_far (p := ⟨gb240, _, none⟩) (BX.out.ne 1 0 rfl rfl (by decide)) _).trans (hHeld.1)))), ((cell_far (p := ⟨gb240, _, none⟩) (BX.out.ne 1 0 rfl rfl (by decide)) _).trans (((cell_far (p := ⟨gb240, _, none⟩) (BX.out.ne 1 0 rfl rfl (by decide)) _).trans (hHeld.2))))⟩ (fun hHeld => ?_)
                   clear hK K
                   refine pure_ (i := 8) (N := some 17) (v := ?_) (a' := ?_) #[true, true, true, true, true, true, true, true, true] rfl rfl (any_of HT_.out (by kernel_rfl)) (fun _ _ _ h => h) (Or.inl ⟨by rfl, ?_⟩) ?_ ?_
                   rotate_left
                   ·intro w'
                    go_simp
                    with_reducible rfl
                   rotate_left
                   ·simp only [Act.put, List.setIfInBounds_toArray, List.set_cons_zero, List.set_cons_succ, i64_w, i32_w]
                    rfl
                   refine done_ (done_of HT_.out (by kernel_rfl)) ?_
                   obtain ⟨⟨hnb186, hnc186⟩, -, ⟨hnb185, hnc185⟩, ⟨hnb184, hnc184⟩, ⟨hnb183, hnc183⟩, -⟩ := BX.out.apart 4 rfl
                   have hcz187_0 : w180.cell? ⟨gb212, 0, none⟩ = some (.int .i64 t209) := (blk_cell (BX.out.get 4 rfl) 0).trans rfl
                   have hcz187_1 : w180.cell? ⟨gb212, 1, none⟩ = some (.int .i64 t210) := (blk_cell (BX.out.get 4 rfl) 1).trans rfl
                   have hfz187_0 := blk_frozen (BX.out.get 4 rfl) 0
                   have hfz187_1 := blk_frozen (BX.out.get 4 rfl) 1
                   obtain ⟨⟨hnc188, hnb188⟩, -⟩ := BX.out.apart 0 rfl
                   have hcz189_0 : w180.cell? ⟨gb234, 0, none⟩ = some (.int .i64 t232) := (blk_cell (BX.out.get 1 rfl) 0).trans rfl
                   have hcz189_1 : w180.cell? ⟨gb234, 1, none⟩ = some (.int .i64 t233) := (blk_cell (BX.out.get 1 rfl) 1).trans rfl
                   have hfz189_0 := blk_frozen (BX.out.get 1 rfl) 0
                   have hfz189_1 := blk_frozen (BX.out.get 1 rfl) 1
                   obtain ⟨-, -, -, -, -, ⟨hnc190, hnb190⟩, -⟩ := BX.out.apart 0 rfl
                   have hcz191_0 : w180.cell? ⟨gb203, 0, none⟩ = some (.int .i64 a0_0) := (blk_cell (BX.out.get 6 rfl) 0).trans rfl
                   have hcz191_1 : w180.cell? ⟨gb203, 1, none⟩ = some (.int .i64 a0_1) := (blk_cell (BX.out.get 6 rfl) 1).trans rfl
                   have hfz191_0 := blk_frozen (BX.out.get 6 rfl) 0
                   have hfz191_1 := blk_frozen (BX.out.get 6 rfl) 1
                   try go_wp2
                   go_ret
                   exact ⟨by first | rfl | (simp [errW_none, errW_some] <;> rfl) | (simp [*, errW_none, errW_some] <;> rfl), by repeat (first | (with_reducible first | exact HB.out | apply below_alloc | apply pw_below_drewN | apply below_drew1 | refine below_set ?_ (Aside0.out (by assumption))) | exact HB.out)⟩
                 ·rw [if_neg c130] at H
                  have c130b0 : (t209 == t232 && (t210 == t233)) = false := by simpa using c130
                  (try (have c130b1 : decide (t209 = t232 && (t210 == t233)) = false := by simpa using c130))
                  (try (have c130b2 : (t209 == t232 && (t210 == t233)) = false := by simpa using c130))
                  (try (have c130b3 : ¬ (t209 = t232 && (t210 == t233)) := by simpa using c130))
                  clear c130
                  by_cases c192 : t239 = true
                  ·subst c192
                   have H1 : (if (t209 == t237 && (t210 == t238)) = true then (if a0_1 > 1 then (some true) else (some (t209 == a0_0 && (t210 == a0_1)))) else (some false)) = some r := by rw [if_pos rfl] at H; exact H
                   clear H
                   have H := H1
                   clear H1
                   by_cases c193 : (t209 == t237 && (t210 == t238)) = true
                   ·rw [if_pos c193] at H
                    have c193b0 : (t209 == t237 && (t210 == t238)) = true := c193
                    (try (have c193b1 : decide (t209 = t237 && (t210 == t238)) = true := by simpa using c193))
                    (try (have c193b2 : (t209 == t237 && (t210 == t238)) = true := by simpa using c193))
                    clear c193
                    by_cases c194 : a0_1 > 1
                    ·rw [if_pos c194] at H
                     have c194b0 : decide (1 < a0_1) = true := decide_eq_true c194
                     clear c194
                     clear HR
                     obtain rfl := Option.some.inj H
                     obtain ⟨⟨hnb198, hnc198⟩, ⟨hnb197, hnc197⟩, ⟨hnb196, hnc196⟩, ⟨hnb195, hnc195⟩, -⟩ := BX.out.apart 4 rfl
                     have hcz199_0 : wc.cell? ⟨gb203, 0, none⟩ = some (.int .i64 a0_0) := (blk_cell (BX.out.get 4 rfl) 0).trans rfl
                     have hcz199_1 : wc.cell? ⟨gb203, 1, none⟩ = some (.int .i64 a0_1) := (blk_cell (BX.out.get 4 rfl) 1).trans rfl
                     have hfz199_0 := blk_frozen (BX.out.get 4 rfl) 0
                     have hfz199_1 := blk_frozen (BX.out.get 4 rfl) 1
                     try go_wp2_with (first | ((with_reducible refine gate_callee (f := 47) rfl ?_); refine goesL_ (some 112) rfl rfl Tryd.func47 (by kernel_rfl) rfl #[.agg #[.int .i64 a0_0, .int .i64 a0_1]] rfl (by (try simp only [List.map_toArray, List.map_cons, List.map_nil]); first | done | rfl | (simp only [List.length_drop, List.length_take]; rfl)) ?_; (with_reducible refine (num_Floor.calls kj91 a0_0 a0_1 t232 t233 _ A126.out).mono ?_); rintro e w200 ⟨rfl, hb⟩; refine ⟨_, rfl, ?_⟩; have n0_ := Aside0.mk (Boxes.below (by (with_reducible repeat (first | apply boxes_drewN | apply boxes_drew | apply boxes_alloc)); exact BX.out) hb); have n1_ := Aside0.mk (below_step (by repeat (first | (with_reducible first | exact HB.out | apply below_alloc | apply pw_below_drewN | apply below_drew1 | refine below_set ?_ (Aside0.out (by assumption))) | exact HB.out)) hb); clear BX HB; have BX := n0_; have HB := n1_; clear n0_ n1_; (try clear hb); (try clear hb2); (try clear hk); (try clear hi)) | ((with_reducible refine gate_dst (N := 15) rfl ?_); refine box_event ?hg (N := 15) ?hd (cs := #[.int .i64 0, .int .i64 0]) (t := 23) ?hr ?_; (case hd => rfl); (case hg => rfl); (case hr => first | (go_simp; done) | (go_simp; rfl)); intro gb234 hg w201 hbox hb; have n0_ := Aside0.mk (Boxes.new (by (with_reducible repeat (first | apply boxes_drewN | apply boxes_drew | apply boxes_alloc)); exact BX.out) hg hbox hb (below_size (by repeat (first | (with_reducible first | exact HB.out | apply below_alloc | apply pw_below_drewN | apply below_drew1 | refine below_set ?_ (Aside0.out (by assumption))) | exact HB.out)))); have n1_ := Aside0.mk (below_step (by repeat (first | (with_reducible first | exact HB.out | apply below_alloc | apply pw_below_drewN | apply below_drew1 | refine below_set ?_ (Aside0.out (by assumption))) | exact HB.out)) hb); have n2_ := Aside0.mk ((by rw [hg]; exact (below_size (by repeat (first | (with_reducible first | exact HB.out | apply below_alloc | apply pw_below_drewN | apply below_drew1 | refine below_set ?_ (Aside0.out (by assumption))) | exact HB.out))) : w.heap.size ≤ gb234)); clear BX HB; have BX := n0_; have HB := n1_; have GE234 := n2_; clear n0_ n1_ n2_; clear hb hbox hg; obtain ⟨⟨hnb206, hnc206⟩, ⟨hnb205, hnc205⟩, ⟨hnb204, hnc204⟩, ⟨hnb203, hnc203⟩, ⟨hnb202, hnc202⟩, -⟩ := BX.out.apart 0 rfl; have hcz207_0 : w201.cell? ⟨gb234, 0, none⟩ = some (.int .i64 0) := (blk_cell (BX.out.get 0 rfl) 0).trans rfl; have hcz207_1 : w201.cell? ⟨gb234, 1, none⟩ = some (.int .i64 0) := (blk_cell (BX.out.get 0 rfl) 1).trans rfl; have hfz207_0 := blk_frozen (BX.out.get 0 rfl) 0; have hfz207_1 := blk_frozen (BX.out.get 0 rfl) 1))
                     have n0_ : Aside0 (Boxes w.heap.size ((w201.setCell ⟨gb234, 0, none⟩ (.int .i64 t232)).setCell ⟨gb234, 1, none⟩ (.int .i64 t233)) ((gb234, 23, #[.int .i64 t232, .int .i64 t233]) :: _)) := ⟨by (with_reducible repeat (first | apply boxes_drewN | apply boxes_drew | apply boxes_alloc)); apply boxes_put 0; (with_reducible repeat (first | apply boxes_drewN | apply boxes_drew | apply boxes_alloc)); apply boxes_put 0; (with_reducible repeat (first | apply boxes_drewN | apply boxes_drew | apply boxes_alloc)); exact BX.out; any_goals rfl⟩
                     have n1_ : Aside0 (Below w.heap.size w ((w201.setCell ⟨gb234, 0, none⟩ (.int .i64 t232)).setCell ⟨gb234, 1, none⟩ (.int .i64 t233))) := ⟨by repeat (first | (with_reducible first | exact HB.out | apply below_alloc | apply pw_below_drewN | apply below_drew1 | refine below_set ?_ (Aside0.out (by assumption))) | exact HB.out)⟩
                     (try clear BX)
                     (try clear HB)
                     generalize ((w201.setCell ⟨gb234, 0, none⟩ (.int .i64 t232)).setCell ⟨gb234, 1, none⟩ (.int .i64 t233)) = w208 at n0_ n1_ ⊢
                     have BX := n0_
                     have HB := n1_
                     clear n0_ n1_
                     have n0_ := Aside0.mk (boxes_drew BX.out)
                     have n1_ := Aside0.mk (below_drew1 HB.out)
                     clear BX HB
                     have BX := n0_
                     have HB := n1_
                     clear n0_ n1_
                     refine start_ (n := 9) (S := fun w' => w'.cell? ⟨gb234, 0, none⟩ = some (.int .i64 t232) ∧ w'.cell? ⟨gb234, 1, none⟩ = some (.int .i64 t233)) (ds := []) #[false, false, false, false, false, false, false, false, false] (by kernel_rfl) rfl rfl ⟨(blk_cell (BX.out.get 0 rfl) 0).trans rfl, (blk_cell (BX.out.get 0 rfl) 1).trans rfl⟩ (fun hHeld => ?_); refine with_tabW whittlelaw1_NumRounds.tab19 whittlelaw1_NumRounds.bits19 (fun HT_ HW_ => ?_)
                     generalize w208.drew = w209 at BX HB hHeld ⊢
                     refine take_ (i := 0) (N := some 114) (v := ?_) (a' := ?_) #[true, false, false, false, false, false, false, false, false] rfl rfl (take_ofW HT_.out HW_.out (by kernel_rfl)) (fun _ _ _ h => h) (Or.inl ⟨by rfl, ?_⟩) hHeld ?_ ?_
                     rotate_left
                     ·rintro w' ⟨s0, s1⟩
                      go_simp
                      with_reducible rfl
                     rotate_left
                     ·simp only [Act.put, List.setIfInBounds_toArray, List.set_cons_zero, List.set_cons_succ, i64_w, i32_w]
                      rfl
                     refine join_ (σ := Nat) 2 #[true, true, true, true, true, true, true, false, false] (fun s_ => [(115, .agg #[.int .i64 t235, .int .i64 t236]), (116, .tuple #[.agg #[.int .i64 t237, .int .i64 t238], .bool true]), (16, .pointer (some ⟨s_, 0, none⟩)), (113, .tuple #[.agg #[.int .i64 t237, .int .i64 t238], .bool true]), (117, .agg #[.int .i64 t237, .int .i64 t238]), (118, .bool true)]) (fun s_ w' => (w'.cell? ⟨gb234, 0, none⟩ = some (.int .i64 t232) ∧ w'.cell? ⟨gb234, 1, none⟩ = some (.int .i64 t233)) ∧ (Boxes w.heap.size w' [(s_, 23, #[.int .i64 0, .int .i64 0]), (gb234, 23, #[.int .i64 t232, .int .i64 t233]), (gb222, 23, #[.int .i64 t219, .int .i64 t220]), (gb216, 23, #[.int .i64 t213, .int .i64 t214]), (gb212, 23, #[.int .i64 t209, .int .i64 t210]), (gb204, 23, #[.int .i64 a1_0, .int .i64 a1_1]), (gb203, 23, #[.int .i64 a0_0, .int .i64 a0_1])]) ∧ (w.heap.size ≤ s_) ∧ (Below w.heap.size w w')) ?_ ?_
                     rotate_left
                     ·intro hCont
                      refine two_ (i := 1) (j := 6) (Ni := some 115) (Nj := some 16) #[true, true, false, false, false, false, false, false, false] #[true, false, false, false, false, false, true, false, false] rfl rfl rfl rfl (two_of HT_.out (by kernel_rfl)) (by decide) (by decide) (fun K hK => ?_) (fun K hK => ?_)
                      ·skip
                       refine goes_ Tryd.func48 (by kernel_rfl) rfl #[] (by rfl) rfl rfl (by (try simp only [List.map_toArray, List.map_cons, List.map_nil]); first | done | rfl | (simp only [List.length_drop, List.length_take]; rfl)) ?_
                       with_reducible refine (whittlelaw1_one.calls  t235 t236 _ A127.out).mono ?_
                       rintro e w210 ⟨rfl, hb⟩
                       refine ⟨_, rfl, ?_⟩
                       have n0_ := Aside0.mk (Boxes.below (by (with_reducible repeat (first | apply boxes_drewN | apply boxes_drew | apply boxes_alloc)); exact BX.out) hb)
                       have n1_ := Aside0.mk (below_step (by repeat (first | (with_reducible first | exact HB.out | apply below_alloc | apply pw_below_drewN | apply below_drew1 | refine below_set ?_ (Aside0.out (by assumption))) | exact HB.out)) hb)
                       clear BX HB
                       have BX := n0_
                       have HB := n1_
                       clear n0_ n1_
                       (try clear hb)
                       (try clear hb2)
                       (try clear hk)
                       (try clear hi)
                       refine hK.out _ _ ⟨(blk_cell (BX.out.get 0 rfl) 0).trans rfl, (blk_cell (BX.out.get 0 rfl) 1).trans rfl⟩ (fun hHeld => ?_)
                       clear hK K
                       refine norm_ (a' := ?_) ?_ ?_
                       rotate_left
                       ·show Act.put _ (some 115) _ = _
                        simp only [Act.put, List.setIfInBounds_toArray, List.set_cons_zero, List.set_cons_succ, i64_w, i32_w]
                        rfl
                       refine two_ (i := 2) (j := 6) (Ni := some 116) (Nj := some 16) #[true, true, true, false, false, false, false, false, false] #[true, true, false, false, false, false, true, false, false] rfl rfl rfl rfl (two_of HT_.out (by kernel_rfl)) (by decide) (by decide) (fun K hK => ?_) (fun K hK => ?_)
                       ·skip
                        refine goes_ Tryd.func33 (by kernel_rfl) rfl #[.agg #[.int .i64 t232, .int .i64 t233], .agg #[.int .i64 t235, .int .i64 t236]] (by rfl) rfl rfl (by (try simp only [List.map_toArray, List.map_cons, List.map_nil]); first | done | rfl | (simp only [List.length_drop, List.length_take]; rfl)) ?_
                        with_reducible refine (num_Add.calls kj91 t232 t233 t235 t236 t237 t238 true _ A128.out).mono ?_
                        rintro e w211 ⟨rfl, hb⟩
                        refine ⟨_, rfl, ?_⟩
                        have n0_ := Aside0.mk (Boxes.below (by (with_reducible repeat (first | apply boxes_drewN | apply boxes_drew | apply boxes_alloc)); exact BX.out) hb)
                        have n1_ := Aside0.mk (below_step (by repeat (first | (with_reducible first | exact HB.out | apply below_alloc | apply pw_below_drewN | apply below_drew1 | refine below_set ?_ (Aside0.out (by assumption))) | exact HB.out)) hb)
                        clear BX HB
                        have BX := n0_
                        have HB := n1_
                        clear n0_ n1_
                        (try clear hb)
                        (try clear hb2)
                        (try clear hk)
                        (try clear hi)
                        refine hK.out _ _ ⟨(blk_cell (BX.out.get 0 rfl) 0).trans rfl, (blk_cell (BX.out.get 0 rfl) 1).trans rfl⟩ (fun hHeld => ?_)
                        clear hK K
                        refine norm_ (a' := ?_) ?_ ?_
                        rotate_left
                        ·show Act.put _ (some 116) _ = _
                         simp only [Act.put, List.setIfInBounds_toArray, List.set_cons_zero, List.set_cons_succ, i64_w, i32_w]
                         rfl
                        refine pure_ (i := 3) (N := some 113) (v := ?_) (a' := ?_) #[true, true, true, true, false, false, false, false, false] rfl rfl (any_of HT_.out (by kernel_rfl)) (fun _ _ _ h => h) (Or.inl ⟨by rfl, ?_⟩) ?_ ?_
                        rotate_left
                        ·intro w'
                         go_simp
                         with_reducible rfl
                        rotate_left
                        ·simp only [Act.put, List.setIfInBounds_toArray, List.set_cons_zero, List.set_cons_succ, i64_w, i32_w]
                         rfl
                        refine pure_ (i := 4) (N := some 117) (v := ?_) (a' := ?_) #[true, true, true, true, true, false, false, false, false] rfl rfl (any_of HT_.out (by kernel_rfl)) (fun _ _ _ h => h) (Or.inl ⟨by rfl, ?_⟩) ?_ ?_
                        rotate_left
                        ·intro w'
                         go_simp
                         with_reducible rfl
                        rotate_left
                        ·simp only [Act.put, List.setIfInBounds_toArray, List.set_cons_zero, List.set_cons_succ, i64_w, i32_w]
                         rfl
                        refine pure_ (i := 5) (N := some 118) (v := ?_) (a' := ?_) #[true, true, true, true, true, true, false, false, false] rfl rfl (any_of HT_.out (by kernel_rfl)) (fun _ _ _ h => h) (Or.inl ⟨by rfl, ?_⟩) ?_ ?_
                        rotate_left
                        ·intro w'
                         go_simp
                         with_reducible rfl
                        rotate_left
                        ·simp only [Act.put, List.setIfInBounds_toArray, List.set_cons_zero, List.set_cons_succ, i64_w, i32_w]
                         rfl
                        refine one_ (i := 6) (N := some 16) #[true, true, true, true, true, true, true, false, false] rfl rfl (one_of HT_.out (by kernel_rfl)) (by decide) (fun K hK => ?_)
                        refine box_step ?hg (N := 16) ?hd (cs := #[.int .i64 0, .int .i64 0]) (t := 23) ?hr ?_; (case hd => rfl); (case hg => rfl); (case hr => first | (go_simp; done) | (go_simp; rfl))
                        intro gb240 hg w212 hbox hb
                        have n0_ := Aside0.mk (Boxes.new (by (with_reducible repeat (first | apply boxes_drewN | apply boxes_drew | apply boxes_alloc)); exact BX.out) hg hbox hb (below_size (by repeat (first | (with_reducible first | exact HB.out | apply below_alloc | apply pw_below_drewN | apply below_drew1 | refine below_set ?_ (Aside0.out (by assumption))) | exact HB.out))))
                        have n1_ := Aside0.mk (below_step (by repeat (first | (with_reducible first | exact HB.out | apply below_alloc | apply pw_below_drewN | apply below_drew1 | refine below_set ?_ (Aside0.out (by assumption))) | exact HB.out)) hb)
                        have n2_ := Aside0.mk ((by rw [hg]; exact (below_size (by repeat (first | (with_reducible first | exact HB.out | apply below_alloc | apply pw_below_drewN | apply below_drew1 | refine below_set ?_ (Aside0.out (by assumption))) | exact HB.out))) : w.heap.size ≤ gb240))
                        clear BX HB
                        have BX := n0_
                        have HB := n1_
                        have GE240 := n2_
                        clear n0_ n1_ n2_
                        clear hb hbox hg
                        refine hK.out _ _ ⟨(blk_cell (BX.out.get 1 rfl) 0).trans rfl, (blk_cell (BX.out.get 1 rfl) 1).trans rfl⟩ (fun hHeld => ?_)
                        clear hK K
                        refine norm_ (a' := ?_) ?_ ?_
                        rotate_left
                        ·show Act.put _ (some 16) _ = _
                         simp only [Act.put, List.setIfInBounds_toArray, List.set_cons_zero, List.set_cons_succ, i64_w, i32_w]
                         rfl
                        exact norm_ (by simp only [putAll, Act.put, List.setIfInBounds_toArray, List.set_cons_zero, List.set_cons_succ]) (hCont (gb240) _ ⟨hHeld, (by (with_reducible repeat (first | apply boxes_drewN | apply boxes_drew | apply boxes_alloc)); exact BX.out), GE240.out, (by repeat (first | (with_reducible first | exact HB.out | apply below_alloc | apply pw_below_drewN | apply below_drew1 | refine below_set ?_ (Aside0.out (by assumption))) | exact HB.out))⟩)
                       ·skip
                        refine box_step ?hg (N := 16) ?hd (cs := #[.int .i64 0, .int .i64 0]) (t := 23) ?hr ?_; (case hd => rfl); (case hg => rfl); (case hr => first | (go_simp; done) | (go_simp; rfl))
                        intro gb240 hg w211 hbox hb
                        have n0_ := Aside0.mk (Boxes.new (by (with_reducible repeat (first | apply boxes_drewN | apply boxes_drew | apply boxes_alloc)); exact BX.out) hg hbox hb (below_size (by repeat (first | (with_reducible first | exact HB.out | apply below_alloc | apply pw_below_drewN | apply below_drew1 | refine below_set ?_ (Aside0.out (by assumption))) | exact HB.out))))
                        have n1_ := Aside0.mk (below_step (by repeat (first | (with_reducible first | exact HB.out | apply below_alloc | apply pw_below_drewN | apply below_drew1 | refine below_set ?_ (Aside0.out (by assumption))) | exact HB.out)) hb)
                        have n2_ := Aside0.mk ((by rw [hg]; exact (below_size (by repeat (first | (with_reducible first | exact HB.out | apply below_alloc | apply pw_below_drewN | apply below_drew1 | refine below_set ?_ (Aside0.out (by assumption))) | exact HB.out))) : w.heap.size ≤ gb240))
                        clear BX HB
                        have BX := n0_
                        have HB := n1_
                        have GE240 := n2_
                        clear n0_ n1_ n2_
                        clear hb hbox hg
                        refine hK.out _ _ ⟨(blk_cell (BX.out.get 1 rfl) 0).trans rfl, (blk_cell (BX.out.get 1 rfl) 1).trans rfl⟩ (fun hHeld => ?_)
                        clear hK K
                        refine norm_ (a' := ?_) ?_ ?_
                        rotate_left
                        ·show Act.put _ (some 16) _ = _
                         simp only [Act.put, List.setIfInBounds_toArray, List.set_cons_zero, List.set_cons_succ, i64_w, i32_w]
                         rfl
                        refine one_ (i := 2) (N := some 116) #[true, true, true, false, false, false, true, false, false] rfl rfl (one_of HT_.out (by kernel_rfl)) (by decide) (fun K hK => ?_)
                        refine goes_ Tryd.func33 (by kernel_rfl) rfl #[.agg #[.int .i64 t232, .int .i64 t233], .agg #[.int .i64 t235, .int .i64 t236]] (by rfl) rfl rfl (by (try simp only [List.map_toArray, List.map_cons, List.map_nil]); first | done | rfl | (simp only [List.length_drop, List.length_take]; rfl)) ?_
                        with_reducible refine (num_Add.calls kj91 t232 t233 t235 t236 t237 t238 true _ A128.out).mono ?_
                        rintro e w212 ⟨rfl, hb⟩
                        refine ⟨_, rfl, ?_⟩
                        have n0_ := Aside0.mk (Boxes.below (by (with_reducible repeat (first | apply boxes_drewN | apply boxes_drew | apply boxes_alloc)); exact BX.out) hb)
                        have n1_ := Aside0.mk (below_step (by repeat (first | (with_reducible first | exact HB.out | apply below_alloc | apply pw_below_drewN | apply below_drew1 | refine below_set ?_ (Aside0.out (by assumption))) | exact HB.out)) hb)
                        clear BX HB
                        have BX := n0_
                        have HB := n1_
                        clear n0_ n1_
                        (try clear hb)
                        (try clear hb2)
                        (try clear hk)
                        (try clear hi)
                        refine hK.out _ _ ⟨(blk_cell (BX.out.get 1 rfl) 0).trans rfl, (blk_cell (BX.out.get 1 rfl) 1).trans rfl⟩ (fun hHeld => ?_)
                        clear hK K
                        refine norm_ (a' := ?_) ?_ ?_
                        rotate_left
                        ·show Act.put _ (some 116) _ = _
                         simp only [Act.put, List.setIfInBounds_toArray, List.set_cons_zero, List.set_cons_succ, i64_w, i32_w]
                         rfl
                        refine pure_ (i := 3) (N := some 113) (v := ?_) (a' := ?_) #[true, true, true, true, false, false, true, false, false] rfl rfl (any_of HT_.out (by kernel_rfl)) (fun _ _ _ h => h) (Or.inl ⟨by rfl, ?_⟩) ?_ ?_
                        rotate_left
                        ·intro w'
                         go_simp
                         with_reducible rfl
                        rotate_left
                        ·simp only [Act.put, List.setIfInBounds_toArray, List.set_cons_zero, List.set_cons_succ, i64_w, i32_w]
                         rfl
                        refine pure_ (i := 4) (N := some 117) (v := ?_) (a' := ?_) #[true, true, true, true, true, false, true, false, false] rfl rfl (any_of HT_.out (by kernel_rfl)) (fun _ _ _ h => h) (Or.inl ⟨by rfl, ?_⟩) ?_ ?_
                        rotate_left
                        ·intro w'
                         go_simp
                         with_reducible rfl
                        rotate_left
                        ·simp only [Act.put, List.setIfInBounds_toArray, List.set_cons_zero, List.set_cons_succ, i64_w, i32_w]
                         rfl
                        refine pure_ (i := 5) (N := some 118) (v := ?_) (a' := ?_) #[true, true, true, true, true, true, true, false, false] rfl rfl (any_of HT_.out (by kernel_rfl)) (fun _ _ _ h => h) (Or.inl ⟨by rfl, ?_⟩) ?_ ?_
                        rotate_left
                        ·intro w'
                         go_simp
                         with_reducible rfl
                        rotate_left
                        ·simp only [Act.put, List.setIfInBounds_toArray, List.set_cons_zero, List.set_cons_succ, i64_w, i32_w]
                         rfl
                        exact norm_ (by simp only [putAll, Act.put, List.setIfInBounds_toArray, List.set_cons_zero, List.set_cons_succ]) (hCont (gb240) _ ⟨hHeld, (by (with_reducible repeat (first | apply boxes_drewN | apply boxes_drew | apply boxes_alloc)); exact BX.out), GE240.out, (by repeat (first | (with_reducible first | exact HB.out | apply below_alloc | apply pw_below_drewN | apply below_drew1 | refine below_set ?_ (Aside0.out (by assumption))) | exact HB.out))⟩)
                      ·skip
                       refine box_step ?hg (N := 16) ?hd (cs := #[.int .i64 0, .int .i64 0]) (t := 23) ?hr ?_; (case hd => rfl); (case hg => rfl); (case hr => first | (go_simp; done) | (go_simp; rfl))
                       intro gb240 hg w210 hbox hb
                       have n0_ := Aside0.mk (Boxes.new (by (with_reducible repeat (first | apply boxes_drewN | apply boxes_drew | apply boxes_alloc)); exact BX.out) hg hbox hb (below_size (by repeat (first | (with_reducible first | exact HB.out | apply below_alloc | apply pw_below_drewN | apply below_drew1 | refine below_set ?_ (Aside0.out (by assumption))) | exact HB.out))))
                       have n1_ := Aside0.mk (below_step (by repeat (first | (with_reducible first | exact HB.out | apply below_alloc | apply pw_below_drewN | apply below_drew1 | refine below_set ?_ (Aside0.out (by assumption))) | exact HB.out)) hb)
                       have n2_ := Aside0.mk ((by rw [hg]; exact (below_size (by repeat (first | (with_reducible first | exact HB.out | apply below_alloc | apply pw_below_drewN | apply below_drew1 | refine below_set ?_ (Aside0.out (by assumption))) | exact HB.out))) : w.heap.size ≤ gb240))
                       clear BX HB
                       have BX := n0_
                       have HB := n1_
                       have GE240 := n2_
                       clear n0_ n1_ n2_
                       clear hb hbox hg
                       refine hK.out _ _ ⟨(blk_cell (BX.out.get 1 rfl) 0).trans rfl, (blk_cell (BX.out.get 1 rfl) 1).trans rfl⟩ (fun hHeld => ?_)
                       clear hK K
                       refine norm_ (a' := ?_) ?_ ?_
                       rotate_left
                       ·show Act.put _ (some 16) _ = _
                        simp only [Act.put, List.setIfInBounds_toArray, List.set_cons_zero, List.set_cons_succ, i64_w, i32_w]
                        rfl
                       refine one_ (i := 1) (N := some 115) #[true, true, false, false, false, false, true, false, false] rfl rfl (one_of HT_.out (by kernel_rfl)) (by decide) (fun K hK => ?_)
                       refine goes_ Tryd.func48 (by kernel_rfl) rfl #[] (by rfl) rfl rfl (by (try simp only [List.map_toArray, List.map_cons, List.map_nil]); first | done | rfl | (simp only [List.length_drop, List.length_take]; rfl)) ?_
                       with_reducible refine (whittlelaw1_one.calls  t235 t236 _ A127.out).mono ?_
                       rintro e w211 ⟨rfl, hb⟩
                       refine ⟨_, rfl, ?_⟩
                       have n0_ := Aside0.mk (Boxes.below (by (with_reducible repeat (first | apply boxes_drewN | apply boxes_drew | apply boxes_alloc)); exact BX.out) hb)
                       have n1_ := Aside0.mk (below_step (by repeat (first | (with_reducible first | exact HB.out | apply below_alloc | apply pw_below_drewN | apply below_drew1 | refine below_set ?_ (Aside0.out (by assumption))) | exact HB.out)) hb)
                       clear BX HB
                       have BX := n0_
                       have HB := n1_
                       clear n0_ n1_
                       (try clear hb)
                       (try clear hb2)
                       (try clear hk)
                       (try clear hi)
                       refine hK.out _ _ ⟨(blk_cell (BX.out.get 1 rfl) 0).trans rfl, (blk_cell (BX.out.get 1 rfl) 1).trans rfl⟩ (fun hHeld => ?_)
                       clear hK K
                       refine norm_ (a' := ?_) ?_ ?_
                       rotate_left
                       ·show Act.put _ (some 115) _ = _
                        simp only [Act.put, List.setIfInBounds_toArray, List.set_cons_zero, List.set_cons_succ, i64_w, i32_w]
                        rfl
                       refine one_ (i := 2) (N := some 116) #[true, true, true, false, false, false, true, false, false] rfl rfl (one_of HT_.out (by kernel_rfl)) (by decide) (fun K hK => ?_)
                       refine goes_ Tryd.func33 (by kernel_rfl) rfl #[.agg #[.int .i64 t232, .int .i64 t233], .agg #[.int .i64 t235, .int .i64 t236]] (by rfl) rfl rfl (by (try simp only [List.map_toArray, List.map_cons, List.map_nil]); first | done | rfl | (simp only [List.length_drop, List.length_take]; rfl)) ?_
                       with_reducible refine (num_Add.calls kj91 t232 t233 t235 t236 t237 t238 true _ A128.out).mono ?_
                       rintro e w212 ⟨rfl, hb⟩
                       refine ⟨_, rfl, ?_⟩
                       have n0_ := Aside0.mk (Boxes.below (by (with_reducible repeat (first | apply boxes_drewN | apply boxes_drew | apply boxes_alloc)); exact BX.out) hb)
                       have n1_ := Aside0.mk (below_step (by repeat (first | (with_reducible first | exact HB.out | apply below_alloc | apply pw_below_drewN | apply below_drew1 | refine below_set ?_ (Aside0.out (by assumption))) | exact HB.out)) hb)
                       clear BX HB
                       have BX := n0_
                       have HB := n1_
                       clear n0_ n1_
                       (try clear hb)
                       (try clear hb2)
                       (try clear hk)
                       (try clear hi)
                       refine hK.out _ _ ⟨(blk_cell (BX.out.get 1 rfl) 0).trans rfl, (blk_cell (BX.out.get 1 rfl) 1).trans rfl⟩ (fun hHeld => ?_)
                       clear hK K
                       refine norm_ (a' := ?_) ?_ ?_
                       rotate_left
                       ·show Act.put _ (some 116) _ = _
                        simp only [Act.put, List.setIfInBounds_toArray, List.set_cons_zero, List.set_cons_succ, i64_w, i32_w]
                        rfl
                       refine pure_ (i := 3) (N := some 113) (v := ?_) (a' := ?_) #[true, true, true, true, false, false, true, false, false] rfl rfl (any_of HT_.out (by kernel_rfl)) (fun _ _ _ h => h) (Or.inl ⟨by rfl, ?_⟩) ?_ ?_
                       rotate_left
                       ·intro w'
                        go_simp
                        with_reducible rfl
                       rotate_left
                       ·simp only [Act.put, List.setIfInBounds_toArray, List.set_cons_zero, List.set_cons_succ, i64_w, i32_w]
                        rfl
                       refine pure_ (i := 4) (N := some 117) (v := ?_) (a' := ?_) #[true, true, true, true, true, false, true, false, false] rfl rfl (any_of HT_.out (by kernel_rfl)) (fun _ _ _ h => h) (Or.inl ⟨by rfl, ?_⟩) ?_ ?_
                       rotate_left
                       ·intro w'
                        go_simp
                        with_reducible rfl
                       rotate_left
                       ·simp only [Act.put, List.setIfInBounds_toArray, List.set_cons_zero, List.set_cons_succ, i64_w, i32_w]
                        rfl
                       refine pure_ (i := 5) (N := some 118) (v := ?_) (a' := ?_) #[true, true, true, true, true, true, true, false, false] rfl rfl (any_of HT_.out (by kernel_rfl)) (fun _ _ _ h => h) (Or.inl ⟨by rfl, ?_⟩) ?_ ?_
                       rotate_left
                       ·intro w'
                        go_simp
                        with_reducible rfl
                       rotate_left
                       ·simp only [Act.put, List.setIfInBounds_toArray, List.set_cons_zero, List.set_cons_succ, i64_w, i32_w]
                        rfl
                       exact norm_ (by simp only [putAll, Act.put, List.setIfInBounds_toArray, List.set_cons_zero, List.set_cons_succ]) (hCont (gb240) _ ⟨hHeld, (by (with_reducible repeat (first | apply boxes_drewN | apply boxes_drew | apply boxes_alloc)); exact BX.out), GE240.out, (by repeat (first | (with_reducible first | exact HB.out | apply below_alloc | apply pw_below_drewN | apply below_drew1 | refine below_set ?_ (Aside0.out (by assumption))) | exact HB.out))⟩)
                     rintro gb240 w213 ⟨hS_, hBX_, hJ0_, hJ1_⟩
                     have n0_ : Aside0 (Boxes w.heap.size w213 [(gb240, 23, #[.int .i64 0, .int .i64 0]), (gb234, 23, #[.int .i64 t232, .int .i64 t233]), (gb222, 23, #[.int .i64 t219, .int .i64 t220]), (gb216, 23, #[.int .i64 t213, .int .i64 t214]), (gb212, 23, #[.int .i64 t209, .int .i64 t210]), (gb204, 23, #[.int .i64 a1_0, .int .i64 a1_1]), (gb203, 23, #[.int .i64 a0_0, .int .i64 a0_1])]) := ⟨hBX_⟩
                     have n1_ : Aside0 (w.heap.size ≤ gb240) := ⟨hJ0_⟩
                     have n2_ : Aside0 (Below w.heap.size w w213) := ⟨hJ1_⟩
                     clear BX HB hBX_ hJ0_ hJ1_
                     have BX := n0_
                     have GE240 := n1_
                     have HB := n2_
                     clear n0_ n1_ n2_
                     have hHeld : w213.cell? ⟨gb234, 0, none⟩ = some (.int .i64 t232) ∧ w213.cell? ⟨gb234, 1, none⟩ = some (.int .i64 t233) := hS_
                     refine norm_ (a' := ?_) ?_ ?_
                     rotate_left
                     ·simp only [putAll, Act.put, List.setIfInBounds_toArray, List.set_cons_zero, List.set_cons_succ]
                      rfl
                     refine one_ (i := 7) (N := none) #[true, true, true, true, true, true, true, true, false] rfl rfl (one_of HT_.out (by kernel_rfl)) (by decide) (fun K hK => ?_)
                     have hs214 : w213.cell? ⟨gb240, 0, none⟩ = some (.int .i64 0) := (blk_cell (BX.out.get 0 rfl) 0).trans rfl
                     have hfs214 := blk_frozen (BX.out.get 0 rfl) 0
                     obtain ⟨⟨hms214_5, hns214_5⟩, ⟨hms214_4, hns214_4⟩, ⟨hms214_3, hns214_3⟩, ⟨hms214_2, hns214_2⟩, ⟨hms214_1, hns214_1⟩, ⟨hms214_0, hns214_0⟩, -⟩ := BX.out.apart 0 rfl
                     have hs215 : w213.cell? ⟨gb240, 1, none⟩ = some (.int .i64 0) := (blk_cell (BX.out.get 0 rfl) 1).trans rfl
                     have hfs215 := blk_frozen (BX.out.get 0 rfl) 1
                     obtain ⟨⟨hms215_5, hns215_5⟩, ⟨hms215_4, hns215_4⟩, ⟨hms215_3, hns215_3⟩, ⟨hms215_2, hns215_2⟩, ⟨hms215_1, hns215_1⟩, ⟨hms215_0, hns215_0⟩, -⟩ := BX.out.apart 0 rfl
                     refine skip_ (w1 := ?_) (by rfl) rfl ?_ ?_
                     rotate_left
                     ·go_simp
                      rfl
                     refine hK.out _ _ ⟨((cell_far (p := ⟨gb240, _, none⟩) (BX.out.ne 1 0 rfl rfl (by decide)) _).trans (((cell_far (p := ⟨gb240, _, none⟩) (BX.out.ne 1 0 rfl rfl (by decide)) _).trans (hHeld.1)))), ((cell_far (p := ⟨gb240, _, none⟩) (BX.out.ne 1 0 rfl rfl (by decide)) _).trans (((cell_far (p := ⟨gb240, _, none⟩) (BX.out.ne 1 0 rfl rfl (by decide)) _).trans (hHeld.2))))⟩ (fun hHeld => ?_)
                     clear hK K
                     refine pure_ (i := 8) (N := some 17) (v := ?_) (a' := ?_) #[true, true, true, true, true, true, true, true, true] rfl rfl (any_of HT_.out (by kernel_rfl)) (fun _ _ _ h => h) (Or.inl ⟨by rfl, ?_⟩) ?_ ?_
                     rotate_left
                     ·intro w'
                      go_simp
                      with_reducible rfl
                     rotate_left
                     ·simp only [Act.put, List.setIfInBounds_toArray, List.set_cons_zero, List.set_cons_succ, i64_w, i32_w]
                      rfl
                     refine done_ (done_of HT_.out (by kernel_rfl)) ?_
                     obtain ⟨⟨hnb219, hnc219⟩, -, ⟨hnb218, hnc218⟩, ⟨hnb217, hnc217⟩, ⟨hnb216, hnc216⟩, -⟩ := BX.out.apart 4 rfl
                     have hcz220_0 : w213.cell? ⟨gb212, 0, none⟩ = some (.int .i64 t209) := (blk_cell (BX.out.get 4 rfl) 0).trans rfl
                     have hcz220_1 : w213.cell? ⟨gb212, 1, none⟩ = some (.int .i64 t210) := (blk_cell (BX.out.get 4 rfl) 1).trans rfl
                     have hfz220_0 := blk_frozen (BX.out.get 4 rfl) 0
                     have hfz220_1 := blk_frozen (BX.out.get 4 rfl) 1
                     obtain ⟨⟨hnc221, hnb221⟩, -⟩ := BX.out.apart 0 rfl
                     have hcz222_0 : w213.cell? ⟨gb234, 0, none⟩ = some (.int .i64 t232) := (blk_cell (BX.out.get 1 rfl) 0).trans rfl
                     have hcz222_1 : w213.cell? ⟨gb234, 1, none⟩ = some (.int .i64 t233) := (blk_cell (BX.out.get 1 rfl) 1).trans rfl
                     have hfz222_0 := blk_frozen (BX.out.get 1 rfl) 0
                     have hfz222_1 := blk_frozen (BX.out.get 1 rfl) 1
                     obtain ⟨-, ⟨hnb226, hnc226⟩, ⟨hnb225, hnc225⟩, -, ⟨hnb224, hnc224⟩, ⟨hnb223, hnc223⟩, -⟩ := BX.out.apart 0 rfl
                     have hcz227_0 : w213.cell? ⟨gb240, 0, none⟩ = some (.int .i64 0) := (blk_cell (BX.out.get 0 rfl) 0).trans rfl
                     have hcz227_1 : w213.cell? ⟨gb240, 1, none⟩ = some (.int .i64 0) := (blk_cell (BX.out.get 0 rfl) 1).trans rfl
                     have hfz227_0 := blk_frozen (BX.out.get 0 rfl) 0
                     have hfz227_1 := blk_frozen (BX.out.get 0 rfl) 1
                     have hcz228_0 : w213.cell? ⟨gb203, 0, none⟩ = some (.int .i64 a0_0) := (blk_cell (BX.out.get 6 rfl) 0).trans rfl
                     have hcz228_1 : w213.cell? ⟨gb203, 1, none⟩ = some (.int .i64 a0_1) := (blk_cell (BX.out.get 6 rfl) 1).trans rfl
                     have hfz228_0 := blk_frozen (BX.out.get 6 rfl) 0
                     have hfz228_1 := blk_frozen (BX.out.get 6 rfl) 1
                     try go_wp2
                     go_ret
                     exact ⟨by first | rfl | (simp [errW_none, errW_some] <;> rfl) | (simp [*, errW_none, errW_some] <;> rfl), by repeat (first | (with_reducible first | exact HB.out | apply below_alloc | apply pw_below_drewN | apply below_drew1 | refine below_set ?_ (Aside0.out (by assumption))) | exact HB.out)⟩
                    ·rw [if_neg c194] at H
                     have c194b0 : decide (1 < a0_1) = false := decide_eq_false c194
                     clear c194
                     clear HR
                     obtain rfl := Option.some.inj H
                     obtain ⟨⟨hnb232, hnc232⟩, ⟨hnb231, hnc231⟩, ⟨hnb230, hnc230⟩, ⟨hnb229, hnc229⟩, -⟩ := BX.out.apart 4 rfl
                     have hcz233_0 : wc.cell? ⟨gb203, 0, none⟩ = some (.int .i64 a0_0) := (blk_cell (BX.out.get 4 rfl) 0).trans rfl
                     have hcz233_1 : wc.cell? ⟨gb203, 1, none⟩ = some (.int .i64 a0_1) := (blk_cell (BX.out.get 4 rfl) 1).trans rfl
                     have hfz233_0 := blk_frozen (BX.out.get 4 rfl) 0
                     have hfz233_1 := blk_frozen (BX.out.get 4 rfl) 1
                     try go_wp2_with (first | ((with_reducible refine gate_callee (f := 47) rfl ?_); refine goesL_ (some 112) rfl rfl Tryd.func47 (by kernel_rfl) rfl #[.agg #[.int .i64 a0_0, .int .i64 a0_1]] rfl (by (try simp only [List.map_toArray, List.map_cons, List.map_nil]); first | done | rfl | (simp only [List.length_drop, List.length_take]; rfl)) ?_; (with_reducible refine (num_Floor.calls kj91 a0_0 a0_1 t232 t233 _ A126.out).mono ?_); rintro e w234 ⟨rfl, hb⟩; refine ⟨_, rfl, ?_⟩; have n0_ := Aside0.mk (Boxes.below (by (with_reducible repeat (first | apply boxes_drewN | apply boxes_drew | apply boxes_alloc)); exact BX.out) hb); have n1_ := Aside0.mk (below_step (by repeat (first | (with_reducible first | exact HB.out | apply below_alloc | apply pw_below_drewN | apply below_drew1 | refine below_set ?_ (Aside0.out (by assumption))) | exact HB.out)) hb); clear BX HB; have BX := n0_; have HB := n1_; clear n0_ n1_; (try clear hb); (try clear hb2); (try clear hk); (try clear hi)) | ((with_reducible refine gate_dst (N := 15) rfl ?_); refine box_event ?hg (N := 15) ?hd (cs := #[.int .i64 0, .int .i64 0]) (t := 23) ?hr ?_; (case hd => rfl); (case hg => rfl); (case hr => first | (go_simp; done) | (go_simp; rfl)); intro gb234 hg w235 hbox hb; have n0_ := Aside0.mk (Boxes.new (by (with_reducible repeat (first | apply boxes_drewN | apply boxes_drew | apply boxes_alloc)); exact BX.out) hg hbox hb (below_size (by repeat (first | (with_reducible first | exact HB.out | apply below_alloc | apply pw_below_drewN | apply below_drew1 | refine below_set ?_ (Aside0.out (by assumption))) | exact HB.out)))); have n1_ := Aside0.mk (below_step (by repeat (first | (with_reducible first | exact HB.out | apply below_alloc | apply pw_below_drewN | apply below_drew1 | refine below_set ?_ (Aside0.out (by assumption))) | exact HB.out)) hb); have n2_ := Aside0.mk ((by rw [hg]; exact (below_size (by repeat (first | (with_reducible first | exact HB.out | apply below_alloc | apply pw_below_drewN | apply below_drew1 | refine below_set ?_ (Aside0.out (by assumption))) | exact HB.out))) : w.heap.size ≤ gb234)); clear BX HB; have BX := n0_; have HB := n1_; have GE234 := n2_; clear n0_ n1_ n2_; clear hb hbox hg; obtain ⟨⟨hnb240, hnc240⟩, ⟨hnb239, hnc239⟩, ⟨hnb238, hnc238⟩, ⟨hnb237, hnc237⟩, ⟨hnb236, hnc236⟩, -⟩ := BX.out.apart 0 rfl; have hcz241_0 : w235.cell? ⟨gb234, 0, none⟩ = some (.int .i64 0) := (blk_cell (BX.out.get 0 rfl) 0).trans rfl; have hcz241_1 : w235.cell? ⟨gb234, 1, none⟩ = some (.int .i64 0) := (blk_cell (BX.out.get 0 rfl) 1).trans rfl; have hfz241_0 := blk_frozen (BX.out.get 0 rfl) 0; have hfz241_1 := blk_frozen (BX.out.get 0 rfl) 1))
                     have n0_ : Aside0 (Boxes w.heap.size ((w235.setCell ⟨gb234, 0, none⟩ (.int .i64 t232)).setCell ⟨gb234, 1, none⟩ (.int .i64 t233)) ((gb234, 23, #[.int .i64 t232, .int .i64 t233]) :: _)) := ⟨by (with_reducible repeat (first | apply boxes_drewN | apply boxes_drew | apply boxes_alloc)); apply boxes_put 0; (with_reducible repeat (first | apply boxes_drewN | apply boxes_drew | apply boxes_alloc)); apply boxes_put 0; (with_reducible repeat (first | apply boxes_drewN | apply boxes_drew | apply boxes_alloc)); exact BX.out; any_goals rfl⟩
                     have n1_ : Aside0 (Below w.heap.size w ((w235.setCell ⟨gb234, 0, none⟩ (.int .i64 t232)).setCell ⟨gb234, 1, none⟩ (.int .i64 t233))) := ⟨by repeat (first | (with_reducible first | exact HB.out | apply below_alloc | apply pw_below_drewN | apply below_drew1 | refine below_set ?_ (Aside0.out (by assumption))) | exact HB.out)⟩
                     (try clear BX)
                     (try clear HB)
                     generalize ((w235.setCell ⟨gb234, 0, none⟩ (.int .i64 t232)).setCell ⟨gb234, 1, none⟩ (.int .i64 t233)) = w242 at n0_ n1_ ⊢
                     have BX := n0_
                     have HB := n1_
                     clear n0_ n1_
                     have n0_ := Aside0.mk (boxes_drew BX.out)
                     have n1_ := Aside0.mk (below_drew1 HB.out)
                     clear BX HB
                     have BX := n0_
                     have HB := n1_
                     clear n0_ n1_
                     refine start_ (n := 9) (S := fun w' => w'.cell? ⟨gb234, 0, none⟩ = some (.int .i64 t232) ∧ w'.cell? ⟨gb234, 1, none⟩ = some (.int .i64 t233)) (ds := []) #[false, false, false, false, false, false, false, false, false] (by kernel_rfl) rfl rfl ⟨(blk_cell (BX.out.get 0 rfl) 0).trans rfl, (blk_cell (BX.out.get 0 rfl) 1).trans rfl⟩ (fun hHeld => ?_); refine with_tabW whittlelaw1_NumRounds.tab19 whittlelaw1_NumRounds.bits19 (fun HT_ HW_ => ?_)
                     generalize w242.drew = w243 at BX HB hHeld ⊢
                     refine take_ (i := 0) (N := some 114) (v := ?_) (a' := ?_) #[true, false, false, false, false, false, false, false, false] rfl rfl (take_ofW HT_.out HW_.out (by kernel_rfl)) (fun _ _ _ h => h) (Or.inl ⟨by rfl, ?_⟩) hHeld ?_ ?_
                     rotate_left
                     ·rintro w' ⟨s0, s1⟩
                      go_simp
                      with_reducible rfl
                     rotate_left
                     ·simp only [Act.put, List.setIfInBounds_toArray, List.set_cons_zero, List.set_cons_succ, i64_w, i32_w]
                      rfl
                     refine join_ (σ := Nat) 2 #[true, true, true, true, true, true, true, false, false] (fun s_ => [(115, .agg #[.int .i64 t235, .int .i64 t236]), (116, .tuple #[.agg #[.int .i64 t237, .int .i64 t238], .bool true]), (16, .pointer (some ⟨s_, 0, none⟩)), (113, .tuple #[.agg #[.int .i64 t237, .int .i64 t238], .bool true]), (117, .agg #[.int .i64 t237, .int .i64 t238]), (118, .bool true)]) (fun s_ w' => (w'.cell? ⟨gb234, 0, none⟩ = some (.int .i64 t232) ∧ w'.cell? ⟨gb234, 1, none⟩ = some (.int .i64 t233)) ∧ (Boxes w.heap.size w' [(s_, 23, #[.int .i64 0, .int .i64 0]), (gb234, 23, #[.int .i64 t232, .int .i64 t233]), (gb222, 23, #[.int .i64 t219, .int .i64 t220]), (gb216, 23, #[.int .i64 t213, .int .i64 t214]), (gb212, 23, #[.int .i64 t209, .int .i64 t210]), (gb204, 23, #[.int .i64 a1_0, .int .i64 a1_1]), (gb203, 23, #[.int .i64 a0_0, .int .i64 a0_1])]) ∧ (w.heap.size ≤ s_) ∧ (Below w.heap.size w w')) ?_ ?_
                     rotate_left
                     ·intro hCont
                      refine two_ (i := 1) (j := 6) (Ni := some 115) (Nj := some 16) #[true, true, false, false, false, false, false, false, false] #[true, false, false, false, false, false, true, false, false] rfl rfl rfl rfl (two_of HT_.out (by kernel_rfl)) (by decide) (by decide) (fun K hK => ?_) (fun K hK => ?_)
                      ·skip
                       refine goes_ Tryd.func48 (by kernel_rfl) rfl #[] (by rfl) rfl rfl (by (try simp only [List.map_toArray, List.map_cons, List.map_nil]); first | done | rfl | (simp only [List.length_drop, List.length_take]; rfl)) ?_
                       with_reducible refine (whittlelaw1_one.calls  t235 t236 _ A127.out).mono ?_
                       rintro e w244 ⟨rfl, hb⟩
                       refine ⟨_, rfl, ?_⟩
                       have n0_ := Aside0.mk (Boxes.below (by (with_reducible repeat (first | apply boxes_drewN | apply boxes_drew | apply boxes_alloc)); exact BX.out) hb)
                       have n1_ := Aside0.mk (below_step (by repeat (first | (with_reducible first | exact HB.out | apply below_alloc | apply pw_below_drewN | apply below_drew1 | refine below_set ?_ (Aside0.out (by assumption))) | exact HB.out)) hb)
                       clear BX HB
                       have BX := n0_
                       have HB := n1_
                       clear n0_ n1_
                       (try clear hb)
                       (try clear hb2)
                       (try clear hk)
                       (try clear hi)
                       refine hK.out _ _ ⟨(blk_cell (BX.out.get 0 rfl) 0).trans rfl, (blk_cell (BX.out.get 0 rfl) 1).trans rfl⟩ (fun hHeld => ?_)
                       clear hK K
                       refine norm_ (a' := ?_) ?_ ?_
                       rotate_left
                       ·show Act.put _ (some 115) _ = _
                        simp only [Act.put, List.setIfInBounds_toArray, List.set_cons_zero, List.set_cons_succ, i64_w, i32_w]
                        rfl
                       refine two_ (i := 2) (j := 6) (Ni := some 116) (Nj := some 16) #[true, true, true, false, false, false, false, false, false] #[true, true, false, false, false, false, true, false, false] rfl rfl rfl rfl (two_of HT_.out (by kernel_rfl)) (by decide) (by decide) (fun K hK => ?_) (fun K hK => ?_)
                       ·skip
                        refine goes_ Tryd.func33 (by kernel_rfl) rfl #[.agg #[.int .i64 t232, .int .i64 t233], .agg #[.int .i64 t235, .int .i64 t236]] (by rfl) rfl rfl (by (try simp only [List.map_toArray, List.map_cons, List.map_nil]); first | done | rfl | (simp only [List.length_drop, List.length_take]; rfl)) ?_
                        with_reducible refine (num_Add.calls kj91 t232 t233 t235 t236 t237 t238 true _ A128.out).mono ?_
                        rintro e w245 ⟨rfl, hb⟩
                        refine ⟨_, rfl, ?_⟩
                        have n0_ := Aside0.mk (Boxes.below (by (with_reducible repeat (first | apply boxes_drewN | apply boxes_drew | apply boxes_alloc)); exact BX.out) hb)
                        have n1_ := Aside0.mk (below_step (by repeat (first | (with_reducible first | exact HB.out | apply below_alloc | apply pw_below_drewN | apply below_drew1 | refine below_set ?_ (Aside0.out (by assumption))) | exact HB.out)) hb)
                        clear BX HB
                        have BX := n0_
                        have HB := n1_
                        clear n0_ n1_
                        (try clear hb)
                        (try clear hb2)
                        (try clear hk)
                        (try clear hi)
                        refine hK.out _ _ ⟨(blk_cell (BX.out.get 0 rfl) 0).trans rfl, (blk_cell (BX.out.get 0 rfl) 1).trans rfl⟩ (fun hHeld => ?_)
                        clear hK K
                        refine norm_ (a' := ?_) ?_ ?_
                        rotate_left
                        ·show Act.put _ (some 116) _ = _
                         simp only [Act.put, List.setIfInBounds_toArray, List.set_cons_zero, List.set_cons_succ, i64_w, i32_w]
                         rfl
                        refine pure_ (i := 3) (N := some 113) (v := ?_) (a' := ?_) #[true, true, true, true, false, false, false, false, false] rfl rfl (any_of HT_.out (by kernel_rfl)) (fun _ _ _ h => h) (Or.inl ⟨by rfl, ?_⟩) ?_ ?_
                        rotate_left
                        ·intro w'
                         go_simp
                         with_reducible rfl
                        rotate_left
                        ·simp only [Act.put, List.setIfInBounds_toArray, List.set_cons_zero, List.set_cons_succ, i64_w, i32_w]
                         rfl
                        refine pure_ (i := 4) (N := some 117) (v := ?_) (a' := ?_) #[true, true, true, true, true, false, false, false, false] rfl rfl (any_of HT_.out (by kernel_rfl)) (fun _ _ _ h => h) (Or.inl ⟨by rfl, ?_⟩) ?_ ?_
                        rotate_left
                        ·intro w'
                         go_simp
                         with_reducible rfl
                        rotate_left
                        ·simp only [Act.put, List.setIfInBounds_toArray, List.set_cons_zero, List.set_cons_succ, i64_w, i32_w]
                         rfl
                        refine pure_ (i := 5) (N := some 118) (v := ?_) (a' := ?_) #[true, true, true, true, true, true, false, false, false] rfl rfl (any_of HT_.out (by kernel_rfl)) (fun _ _ _ h => h) (Or.inl ⟨by rfl, ?_⟩) ?_ ?_
                        rotate_left
                        ·intro w'
                         go_simp
                         with_reducible rfl
                        rotate_left
                        ·simp only [Act.put, List.setIfInBounds_toArray, List.set_cons_zero, List.set_cons_succ, i64_w, i32_w]
                         rfl
                        refine one_ (i := 6) (N := some 16) #[true, true, true, true, true, true, true, false, false] rfl rfl (one_of HT_.out (by kernel_rfl)) (by decide) (fun K hK => ?_)
                        refine box_step ?hg (N := 16) ?hd (cs := #[.int .i64 0, .int .i64 0]) (t := 23) ?hr ?_; (case hd => rfl); (case hg => rfl); (case hr => first | (go_simp; done) | (go_simp; rfl))
                        intro gb240 hg w246 hbox hb
                        have n0_ := Aside0.mk (Boxes.new (by (with_reducible repeat (first | apply boxes_drewN | apply boxes_drew | apply boxes_alloc)); exact BX.out) hg hbox hb (below_size (by repeat (first | (with_reducible first | exact HB.out | apply below_alloc | apply pw_below_drewN | apply below_drew1 | refine below_set ?_ (Aside0.out (by assumption))) | exact HB.out))))
                        have n1_ := Aside0.mk (below_step (by repeat (first | (with_reducible first | exact HB.out | apply below_alloc | apply pw_below_drewN | apply below_drew1 | refine below_set ?_ (Aside0.out (by assumption))) | exact HB.out)) hb)
                        have n2_ := Aside0.mk ((by rw [hg]; exact (below_size (by repeat (first | (with_reducible first | exact HB.out | apply below_alloc | apply pw_below_drewN | apply below_drew1 | refine below_set ?_ (Aside0.out (by assumption))) | exact HB.out))) : w.heap.size ≤ gb240))
                        clear BX HB
                        have BX := n0_
                        have HB := n1_
                        have GE240 := n2_
                        clear n0_ n1_ n2_
                        clear hb hbox hg
                        refine hK.out _ _ ⟨(blk_cell (BX.out.get 1 rfl) 0).trans rfl, (blk_cell (BX.out.get 1 rfl) 1).trans rfl⟩ (fun hHeld => ?_)
                        clear hK K
                        refine norm_ (a' := ?_) ?_ ?_
                        rotate_left
                        ·show Act.put _ (some 16) _ = _
                         simp only [Act.put, List.setIfInBounds_toArray, List.set_cons_zero, List.set_cons_succ, i64_w, i32_w]
                         rfl
                        exact norm_ (by simp only [putAll, Act.put, List.setIfInBounds_toArray, List.set_cons_zero, List.set_cons_succ]) (hCont (gb240) _ ⟨hHeld, (by (with_reducible repeat (first | apply boxes_drewN | apply boxes_drew | apply boxes_alloc)); exact BX.out), GE240.out, (by repeat (first | (with_reducible first | exact HB.out | apply below_alloc | apply pw_below_drewN | apply below_drew1 | refine below_set ?_ (Aside0.out (by assumption))) | exact HB.out))⟩)
                       ·skip
                        refine box_step ?hg (N := 16) ?hd (cs := #[.int .i64 0, .int .i64 0]) (t := 23) ?hr ?_; (case hd => rfl); (case hg => rfl); (case hr => first | (go_simp; done) | (go_simp; rfl))
                        intro gb240 hg w245 hbox hb
                        have n0_ := Aside0.mk (Boxes.new (by (with_reducible repeat (first | apply boxes_drewN | apply boxes_drew | apply boxes_alloc)); exact BX.out) hg hbox hb (below_size (by repeat (first | (with_reducible first | exact HB.out | apply below_alloc | apply pw_below_drewN | apply below_drew1 | refine below_set ?_ (Aside0.out (by assumption))) | exact HB.out))))
                        have n1_ := Aside0.mk (below_step (by repeat (first | (with_reducible first | exact HB.out | apply below_alloc | apply pw_below_drewN | apply below_drew1 | refine below_set ?_ (Aside0.out (by assumption))) | exact HB.out)) hb)
                        have n2_ := Aside0.mk ((by rw [hg]; exact (below_size (by repeat (first | (with_reducible first | exact HB.out | apply below_alloc | apply pw_below_drewN | apply below_drew1 | refine below_set ?_ (Aside0.out (by assumption))) | exact HB.out))) : w.heap.size ≤ gb240))
                        clear BX HB
                        have BX := n0_
                        have HB := n1_
                        have GE240 := n2_
                        clear n0_ n1_ n2_
                        clear hb hbox hg
                        refine hK.out _ _ ⟨(blk_cell (BX.out.get 1 rfl) 0).trans rfl, (blk_cell (BX.out.get 1 rfl) 1).trans rfl⟩ (fun hHeld => ?_)
                        clear hK K
                        refine norm_ (a' := ?_) ?_ ?_
                        rotate_left
                        ·show Act.put _ (some 16) _ = _
                         simp only [Act.put, List.setIfInBounds_toArray, List.set_cons_zero, List.set_cons_succ, i64_w, i32_w]
                         rfl
                        refine one_ (i := 2) (N := some 116) #[true, true, true, false, false, false, true, false, false] rfl rfl (one_of HT_.out (by kernel_rfl)) (by decide) (fun K hK => ?_)
                        refine goes_ Tryd.func33 (by kernel_rfl) rfl #[.agg #[.int .i64 t232, .int .i64 t233], .agg #[.int .i64 t235, .int .i64 t236]] (by rfl) rfl rfl (by (try simp only [List.map_toArray, List.map_cons, List.map_nil]); first | done | rfl | (simp only [List.length_drop, List.length_take]; rfl)) ?_
                        with_reducible refine (num_Add.calls kj91 t232 t233 t235 t236 t237 t238 true _ A128.out).mono ?_
                        rintro e w246 ⟨rfl, hb⟩
                        refine ⟨_, rfl, ?_⟩
                        have n0_ := Aside0.mk (Boxes.below (by (with_reducible repeat (first | apply boxes_drewN | apply boxes_drew | apply boxes_alloc)); exact BX.out) hb)
                        have n1_ := Aside0.mk (below_step (by repeat (first | (with_reducible first | exact HB.out | apply below_alloc | apply pw_below_drewN | apply below_drew1 | refine below_set ?_ (Aside0.out (by assumption))) | exact HB.out)) hb)
                        clear BX HB
                        have BX := n0_
                        have HB := n1_
                        clear n0_ n1_
                        (try clear hb)
                        (try clear hb2)
                        (try clear hk)
                        (try clear hi)
                        refine hK.out _ _ ⟨(blk_cell (BX.out.get 1 rfl) 0).trans rfl, (blk_cell (BX.out.get 1 rfl) 1).trans rfl⟩ (fun hHeld => ?_)
                        clear hK K
                        refine norm_ (a' := ?_) ?_ ?_
                        rotate_left
                        ·show Act.put _ (some 116) _ = _
                         simp only [Act.put, List.setIfInBounds_toArray, List.set_cons_zero, List.set_cons_succ, i64_w, i32_w]
                         rfl
                        refine pure_ (i := 3) (N := some 113) (v := ?_) (a' := ?_) #[true, true, true, true, false, false, true, false, false] rfl rfl (any_of HT_.out (by kernel_rfl)) (fun _ _ _ h => h) (Or.inl ⟨by rfl, ?_⟩) ?_ ?_
                        rotate_left
                        ·intro w'
                         go_simp
                         with_reducible rfl
                        rotate_left
                        ·simp only [Act.put, List.setIfInBounds_toArray, List.set_cons_zero, List.set_cons_succ, i64_w, i32_w]
                         rfl
                        refine pure_ (i := 4) (N := some 117) (v := ?_) (a' := ?_) #[true, true, true, true, true, false, true, false, false] rfl rfl (any_of HT_.out (by kernel_rfl)) (fun _ _ _ h => h) (Or.inl ⟨by rfl, ?_⟩) ?_ ?_
                        rotate_left
                        ·intro w'
                         go_simp
                         with_reducible rfl
                        rotate_left
                        ·simp only [Act.put, List.setIfInBounds_toArray, List.set_cons_zero, List.set_cons_succ, i64_w, i32_w]
                         rfl
                        refine pure_ (i := 5) (N := some 118) (v := ?_) (a' := ?_) #[true, true, true, true, true, true, true, false, false] rfl rfl (any_of HT_.out (by kernel_rfl)) (fun _ _ _ h => h) (Or.inl ⟨by rfl, ?_⟩) ?_ ?_
                        rotate_left
                        ·intro w'
                         go_simp
                         with_reducible rfl
                        rotate_left
                        ·simp only [Act.put, List.setIfInBounds_toArray, List.set_cons_zero, List.set_cons_succ, i64_w, i32_w]
                         rfl
                        exact norm_ (by simp only [putAll, Act.put, List.setIfInBounds_toArray, List.set_cons_zero, List.set_cons_succ]) (hCont (gb240) _ ⟨hHeld, (by (with_reducible repeat (first | apply boxes_drewN | apply boxes_drew | apply boxes_alloc)); exact BX.out), GE240.out, (by repeat (first | (with_reducible first | exact HB.out | apply below_alloc | apply pw_below_drewN | apply below_drew1 | refine below_set ?_ (Aside0.out (by assumption))) | exact HB.out))⟩)
                      ·skip
                       refine box_step ?hg (N := 16) ?hd (cs := #[.int .i64 0, .int .i64 0]) (t := 23) ?hr ?_; (case hd => rfl); (case hg => rfl); (case hr => first | (go_simp; done) | (go_simp; rfl))
                       intro gb240 hg w244 hbox hb
                       have n0_ := Aside0.mk (Boxes.new (by (with_reducible repeat (first | apply boxes_drewN | apply boxes_drew | apply boxes_alloc)); exact BX.out) hg hbox hb (below_size (by repeat (first | (with_reducible first | exact HB.out | apply below_alloc | apply pw_below_drewN | apply below_drew1 | refine below_set ?_ (Aside0.out (by assumption))) | exact HB.out))))
                       have n1_ := Aside0.mk (below_step (by repeat (first | (with_reducible first | exact HB.out | apply below_alloc | apply pw_below_drewN | apply below_drew1 | refine below_set ?_ (Aside0.out (by assumption))) | exact HB.out)) hb)
                       have n2_ := Aside0.mk ((by rw [hg]; exact (below_size (by repeat (first | (with_reducible first | exact HB.out | apply below_alloc | apply pw_below_drewN | apply below_drew1 | refine below_set ?_ (Aside0.out (by assumption))) | exact HB.out))) : w.heap.size ≤ gb240))
                       clear BX HB
                       have BX := n0_
                       have HB := n1_
                       have GE240 := n2_
                       clear n0_ n1_ n2_
                       clear hb hbox hg
                       refine hK.out _ _ ⟨(blk_cell (BX.out.get 1 rfl) 0).trans rfl, (blk_cell (BX.out.get 1 rfl) 1).trans rfl⟩ (fun hHeld => ?_)
                       clear hK K
                       refine norm_ (a' := ?_) ?_ ?_
                       rotate_left
                       ·show Act.put _ (some 16) _ = _
                        simp only [Act.put, List.setIfInBounds_toArray, List.set_cons_zero, List.set_cons_succ, i64_w, i32_w]
                        rfl
                       refine one_ (i := 1) (N := some 115) #[true, true, false, false, false, false, true, false, false] rfl rfl (one_of HT_.out (by kernel_rfl)) (by decide) (fun K hK => ?_)
                       refine goes_ Tryd.func48 (by kernel_rfl) rfl #[] (by rfl) rfl rfl (by (try simp only [List.map_toArray, List.map_cons, List.map_nil]); first | done | rfl | (simp only [List.length_drop, List.length_take]; rfl)) ?_
                       with_reducible refine (whittlelaw1_one.calls  t235 t236 _ A127.out).mono ?_
                       rintro e w245 ⟨rfl, hb⟩
                       refine ⟨_, rfl, ?_⟩
                       have n0_ := Aside0.mk (Boxes.below (by (with_reducible repeat (first | apply boxes_drewN | apply boxes_drew | apply boxes_alloc)); exact BX.out) hb)
                       have n1_ := Aside0.mk (below_step (by repeat (first | (with_reducible first | exact HB.out | apply below_alloc | apply pw_below_drewN | apply below_drew1 | refine below_set ?_ (Aside0.out (by assumption))) | exact HB.out)) hb)
                       clear BX HB
                       have BX := n0_
                       have HB := n1_
                       clear n0_ n1_
                       (try clear hb)
                       (try clear hb2)
                       (try clear hk)
                       (try clear hi)
                       refine hK.out _ _ ⟨(blk_cell (BX.out.get 1 rfl) 0).trans rfl, (blk_cell (BX.out.get 1 rfl) 1).trans rfl⟩ (fun hHeld => ?_)
                       clear hK K
                       refine norm_ (a' := ?_) ?_ ?_
                       rotate_left
                       ·show Act.put _ (some 115) _ = _
                        simp only [Act.put, List.setIfInBounds_toArray, List.set_cons_zero, List.set_cons_succ, i64_w, i32_w]
                        rfl
                       refine one_ (i := 2) (N := some 116) #[true, true, true, false, false, false, true, false, false] rfl rfl (one_of HT_.out (by kernel_rfl)) (by decide) (fun K hK => ?_)
                       refine goes_ Tryd.func33 (by kernel_rfl) rfl #[.agg #[.int .i64 t232, .int .i64 t233], .agg #[.int .i64 t235, .int .i64 t236]] (by rfl) rfl rfl (by (try simp only [List.map_toArray, List.map_cons, List.map_nil]); first | done | rfl | (simp only [List.length_drop, List.length_take]; rfl)) ?_
                       with_reducible refine (num_Add.calls kj91 t232 t233 t235 t236 t237 t238 true _ A128.out).mono ?_
                       rintro e w246 ⟨rfl, hb⟩
                       refine ⟨_, rfl, ?_⟩
                       have n0_ := Aside0.mk (Boxes.below (by (with_reducible repeat (first | apply boxes_drewN | apply boxes_drew | apply boxes_alloc)); exact BX.out) hb)
                       have n1_ := Aside0.mk (below_step (by repeat (first | (with_reducible first | exact HB.out | apply below_alloc | apply pw_below_drewN | apply below_drew1 | refine below_set ?_ (Aside0.out (by assumption))) | exact HB.out)) hb)
                       clear BX HB
                       have BX := n0_
                       have HB := n1_
                       clear n0_ n1_
                       (try clear hb)
                       (try clear hb2)
                       (try clear hk)
                       (try clear hi)
                       refine hK.out _ _ ⟨(blk_cell (BX.out.get 1 rfl) 0).trans rfl, (blk_cell (BX.out.get 1 rfl) 1).trans rfl⟩ (fun hHeld => ?_)
                       clear hK K
                       refine norm_ (a' := ?_) ?_ ?_
                       rotate_left
                       ·show Act.put _ (some 116) _ = _
                        simp only [Act.put, List.setIfInBounds_toArray, List.set_cons_zero, List.set_cons_succ, i64_w, i32_w]
                        rfl
                       refine pure_ (i := 3) (N := some 113) (v := ?_) (a' := ?_) #[true, true, true, true, false, false, true, false, false] rfl rfl (any_of HT_.out (by kernel_rfl)) (fun _ _ _ h => h) (Or.inl ⟨by rfl, ?_⟩) ?_ ?_
                       rotate_left
                       ·intro w'
                        go_simp
                        with_reducible rfl
                       rotate_left
                       ·simp only [Act.put, List.setIfInBounds_toArray, List.set_cons_zero, List.set_cons_succ, i64_w, i32_w]
                        rfl
                       refine pure_ (i := 4) (N := some 117) (v := ?_) (a' := ?_) #[true, true, true, true, true, false, true, false, false] rfl rfl (any_of HT_.out (by kernel_rfl)) (fun _ _ _ h => h) (Or.inl ⟨by rfl, ?_⟩) ?_ ?_
                       rotate_left
                       ·intro w'
                        go_simp
                        with_reducible rfl
                       rotate_left
                       ·simp only [Act.put, List.setIfInBounds_toArray, List.set_cons_zero, List.set_cons_succ, i64_w, i32_w]
                        rfl
                       refine pure_ (i := 5) (N := some 118) (v := ?_) (a' := ?_) #[true, true, true, true, true, true, true, false, false] rfl rfl (any_of HT_.out (by kernel_rfl)) (fun _ _ _ h => h) (Or.inl ⟨by rfl, ?_⟩) ?_ ?_
                       rotate_left
                       ·intro w'
                        go_simp
                        with_reducible rfl
                       rotate_left
                       ·simp only [Act.put, List.setIfInBounds_toArray, List.set_cons_zero, List.set_cons_succ, i64_w, i32_w]
                        rfl
                       exact norm_ (by simp only [putAll, Act.put, List.setIfInBounds_toArray, List.set_cons_zero, List.set_cons_succ]) (hCont (gb240) _ ⟨hHeld, (by (with_reducible repeat (first | apply boxes_drewN | apply boxes_drew | apply boxes_alloc)); exact BX.out), GE240.out, (by repeat (first | (with_reducible first | exact HB.out | apply below_alloc | apply pw_below_drewN | apply below_drew1 | refine below_set ?_ (Aside0.out (by assumption))) | exact HB.out))⟩)
                     rintro gb240 w247 ⟨hS_, hBX_, hJ0_, hJ1_⟩
                     have n0_ : Aside0 (Boxes w.heap.size w247 [(gb240, 23, #[.int .i64 0, .int .i64 0]), (gb234, 23, #[.int .i64 t232, .int .i64 t233]), (gb222, 23, #[.int .i64 t219, .int .i64 t220]), (gb216, 23, #[.int .i64 t213, .int .i64 t214]), (gb212, 23, #[.int .i64 t209, .int .i64 t210]), (gb204, 23, #[.int .i64 a1_0, .int .i64 a1_1]), (gb203, 23, #[.int .i64 a0_0, .int .i64 a0_1])]) := ⟨hBX_⟩
                     have n1_ : Aside0 (w.heap.size ≤ gb240) := ⟨hJ0_⟩
                     have n2_ : Aside0 (Below w.heap.size w w247) := ⟨hJ1_⟩
                     clear BX HB hBX_ hJ0_ hJ1_
                     have BX := n0_
                     have GE240 := n1_
                     have HB := n2_
                     clear n0_ n1_ n2_
                     have hHeld : w247.cell? ⟨gb234, 0, none⟩ = some (.int .i64 t232) ∧ w247.cell? ⟨gb234, 1, none⟩ = some (.int .i64 t233) := hS_
                     refine norm_ (a' := ?_) ?_ ?_
                     rotate_left
                     ·simp only [putAll, Act.put, List.setIfInBounds_toArray, List.set_cons_zero, List.set_cons_succ]
                      rfl
                     refine one_ (i := 7) (N := none) #[true, true, true, true, true, true, true, true, false] rfl rfl (one_of HT_.out (by kernel_rfl)) (by decide) (fun K hK => ?_)
                     have hs248 : w247.cell? ⟨gb240, 0, none⟩ = some (.int .i64 0) := (blk_cell (BX.out.get 0 rfl) 0).trans rfl
                     have hfs248 := blk_frozen (BX.out.get 0 rfl) 0
                     obtain ⟨⟨hms248_5, hns248_5⟩, ⟨hms248_4, hns248_4⟩, ⟨hms248_3, hns248_3⟩, ⟨hms248_2, hns248_2⟩, ⟨hms248_1, hns248_1⟩, ⟨hms248_0, hns248_0⟩, -⟩ := BX.out.apart 0 rfl
                     have hs249 : w247.cell? ⟨gb240, 1, none⟩ = some (.int .i64 0) := (blk_cell (BX.out.get 0 rfl) 1).trans rfl
                     have hfs249 := blk_frozen (BX.out.get 0 rfl) 1
                     obtain ⟨⟨hms249_5, hns249_5⟩, ⟨hms249_4, hns249_4⟩, ⟨hms249_3, hns249_3⟩, ⟨hms249_2, hns249_2⟩, ⟨hms249_1, hns249_1⟩, ⟨hms249_0, hns249_0⟩, -⟩ := BX.out.apart 0 rfl
                     refine skip_ (w1 := ?_) (by rfl) rfl ?_ ?_
                     rotate_left
                     ·go_simp
                      rfl
                     refine hK.out _ _ ⟨((cell_far (p := ⟨gb240, _, none⟩) (BX.out.ne 1 0 rfl rfl (by decide)) _).trans (((cell_far (p := ⟨gb240, _, none⟩) (BX.out.ne 1 0 rfl rfl (by decide)) _).trans (hHeld.1)))), ((cell_far (p := ⟨gb240, _, none⟩) (BX.out.ne 1 0 rfl rfl (by decide)) _).trans (((cell_far (p := ⟨gb240, _, none⟩) (BX.out.ne 1 0 rfl rfl (by decide)) _).trans (hHeld.2))))⟩ (fun hHeld => ?_)
                     clear hK K
                     refine pure_ (i := 8) (N := some 17) (v := ?_) (a' := ?_) #[true, true, true, true, true, true, true, true, true] rfl rfl (any_of HT_.out (by kernel_rfl)) (fun _ _ _ h => h) (Or.inl ⟨by rfl, ?_⟩) ?_ ?_
                     rotate_left
                     ·intro w'
                      go_simp
                      with_reducible rfl
                     rotate_left
                     ·simp only [Act.put, List.setIfInBounds_toArray, List.set_cons_zero, List.set_cons_succ, i64_w, i32_w]
                      rfl
                     refine done_ (done_of HT_.out (by kernel_rfl)) ?_
                     obtain ⟨⟨hnb253, hnc253⟩, -, ⟨hnb252, hnc252⟩, ⟨hnb251, hnc251⟩, ⟨hnb250, hnc250⟩, -⟩ := BX.out.apart 4 rfl
                     have hcz254_0 : w247.cell? ⟨gb212, 0, none⟩ = some (.int .i64 t209) := (blk_cell (BX.out.get 4 rfl) 0).trans rfl
                     have hcz254_1 : w247.cell? ⟨gb212, 1, none⟩ = some (.int .i64 t210) := (blk_cell (BX.out.get 4 rfl) 1).trans rfl
                     have hfz254_0 := blk_frozen (BX.out.get 4 rfl) 0
                     have hfz254_1 := blk_frozen (BX.out.get 4 rfl) 1
                     obtain ⟨⟨hnc255, hnb255⟩, -⟩ := BX.out.apart 0 rfl
                     have hcz256_0 : w247.cell? ⟨gb234, 0, none⟩ = some (.int .i64 t232) := (blk_cell (BX.out.get 1 rfl) 0).trans rfl
                     have hcz256_1 : w247.cell? ⟨gb234, 1, none⟩ = some (.int .i64 t233) := (blk_cell (BX.out.get 1 rfl) 1).trans rfl
                     have hfz256_0 := blk_frozen (BX.out.get 1 rfl) 0
                     have hfz256_1 := blk_frozen (BX.out.get 1 rfl) 1
                     obtain ⟨-, ⟨hnb260, hnc260⟩, ⟨hnb259, hnc259⟩, -, ⟨hnb258, hnc258⟩, ⟨hnb257, hnc257⟩, -⟩ := BX.out.apart 0 rfl
                     have hcz261_0 : w247.cell? ⟨gb240, 0, none⟩ = some (.int .i64 0) := (blk_cell (BX.out.get 0 rfl) 0).trans rfl
                     have hcz261_1 : w247.cell? ⟨gb240, 1, none⟩ = some (.int .i64 0) := (blk_cell (BX.out.get 0 rfl) 1).trans rfl
                     have hfz261_0 := blk_frozen (BX.out.get 0 rfl) 0
                     have hfz261_1 := blk_frozen (BX.out.get 0 rfl) 1
                     have hcz262_0 : w247.cell? ⟨gb203, 0, none⟩ = some (.int .i64 a0_0) := (blk_cell (BX.out.get 6 rfl) 0).trans rfl
                     have hcz262_1 : w247.cell? ⟨gb203, 1, none⟩ = some (.int .i64 a0_1) := (blk_cell (BX.out.get 6 rfl) 1).trans rfl
                     have hfz262_0 := blk_frozen (BX.out.get 6 rfl) 0
                     have hfz262_1 := blk_frozen (BX.out.get 6 rfl) 1
                     try go_wp2
                     go_ret
                     exact ⟨by first | rfl | (simp [errW_none, errW_some] <;> rfl) | (simp [*, errW_none, errW_some] <;> rfl), by repeat (first | (with_reducible first | exact HB.out | apply below_alloc | apply pw_below_drewN | apply below_drew1 | refine below_set ?_ (Aside0.out (by assumption))) | exact HB.out)⟩
                   ·rw [if_neg c193] at H
                    have c193b0 : (t209 == t237 && (t210 == t238)) = false := by simpa using c193
                    (try (have c193b1 : decide (t209 = t237 && (t210 == t238)) = false := by simpa using c193))
                    (try (have c193b2 : (t209 == t237 && (t210 == t238)) = false := by simpa using c193))
                    (try (have c193b3 : ¬ (t209 = t237 && (t210 == t238)) := by simpa using c193))
                    clear c193
                    exact absurd (Option.some.inj H) (by rw [HR.out]; decide)
                  ·replace c192 := Bool.eq_false_iff.mpr c192
                   subst c192
                   have H1 : (some false) = some r := by rw [if_neg (show ¬ (false = true) by decide)] at H; exact H
                   clear H
                   have H := H1
                   clear H1
                   exact absurd (Option.some.inj H) (by rw [HR.out]; decide)
                ·replace c129 := Bool.eq_false_iff.mpr c129
                 subst c129
                 have H1 : (some false) = some r := by rw [if_neg (show ¬ (false = true) by decide)] at H; exact H
                 clear H
                 have H := H1
                 clear H1
                 exact absurd (Option.some.inj H) (by rw [HR.out]; decide)
               ·rw [if_neg c125] at H
                have c125b0 : (a2 == 0) = false := beq_eq_false_iff_ne.mpr c125
                have c125b1 : (a2 != 0) = true := bne_iff_ne.mpr c125
                clear HR
                obtain rfl := Option.some.inj H
                go_wp2
                go_ret
                exact ⟨by first | rfl | (simp [errW_none, errW_some] <;> rfl) | (simp [*, errW_none, errW_some] <;> rfl), by repeat (first | (with_reducible first | exact HB.out | apply below_alloc | apply pw_below_drewN | apply below_drew1 | refine below_set ?_ (Aside0.out (by assumption))) | exact HB.out)⟩

end Go.Proofs.YtlcjfabbnclalaaDoor.F
