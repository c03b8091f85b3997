-- Laid by program (wip/tools/gen.sh of this repo) out of the translation; Lean checks it.
import Derived.Test.YtlcjfabbnclalaaDoorC0
import Derived.Test.YtlcjfabbnclalaaDoorF0
import Derived.Test.YtlcjfabbnclalaaDoorF1
import Derived.Test.YtlcjfabbnclalaaDoorF5
import Derived.Test.YtlcjfabbnclalaaDoorF6
import Derived.Test.YtlcjfabbnclalaaDoorF15
import Derived.Test.YtlcjfabbnclalaaDoorF21
import Derived.Test.YtlcjfabbnclalaaDoorG1
namespace Go.Proofs.YtlcjfabbnclalaaDoor.F
open Go.RowKit Go.Proofs.YtlcjfabbnclalaaDoorW.PrintWords Go.Proofs.YtlcjfabbnclalaaDoorW.PrintLast Go.Proofs.YtlcjfabbnclalaaDoorW.PrintMore
attribute [local go_sem] max2_int min2_int max_two min_two max_three min_three max_four min_four   -- for this text's walks alone
attribute [local go_sem high] bx_cell bx_frozen
set_option linter.unusedVariables false
set_option linter.unusedSimpArgs false

attribute [local go_sem high] eqA23
/-! ### whittlelaw1_NumGroups: function 10 -/
mutual
def whittlelaw1_NumGroups.j0 : Nat → Bool → Bool → Bool → Int → Int → Int → Int → Int → Int → Int → Int → Int → Int → Option (Bool)
 | 0, _, _, _, _, _, _, _, _, _, _, _, _, _ => none
 | k + 1, x8, x12, x78, x198000, x198001, x199000, x199001, x200000, x200001, x204000, x204001, x212000, x212001 => if x78 = true then (some false) else (if x8 = true then ((whittlelaw1_right.f k x204000 x204001).bind fun t217 => (if t217 = true then (if x12 = true then ((whittlelaw1_right.f k x212000 x212001).bind fun t218 => (whittlelaw1_NumGroups.j1 k x8 x12 (!t218) x198000 x198001 x199000 x199001 x200000 x200001 x204000 x204001 x212000 x212001)) else (whittlelaw1_NumGroups.j1 k x8 x12 false x198000 x198001 x199000 x199001 x200000 x200001 x204000 x204001 x212000 x212001)) else (whittlelaw1_NumGroups.j1 k x8 x12 true x198000 x198001 x199000 x199001 x200000 x200001 x204000 x204001 x212000 x212001))) else (if x12 = true then ((whittlelaw1_right.f k x212000 x212001).bind fun t219 => (whittlelaw1_NumGroups.j1 k x8 x12 (!t219) x198000 x198001 x199000 x199001 x200000 x200001 x204000 x204001 x212000 x212001)) else (whittlelaw1_NumGroups.j1 k x8 x12 false x198000 x198001 x199000 x199001 x200000 x200001 x204000 x204001 x212000 x212001)))
def whittlelaw1_NumGroups.j1 : Nat → Bool → Bool → Bool → Int → Int → Int → Int → Int → Int → Int → Int → Int → Int → Option (Bool)
 | 0, _, _, _, _, _, _, _, _, _, _, _, _, _ => none
 | k + 1, x8, x12, x92, x198000, x198001, x199000, x199001, x200000, x200001, x204000, x204001, x212000, x212001 => if x92 = true then (some false) else ((num_Add.f k x204000 x204001 x200000 x200001).bind fun bt220 => ((num_Add.f k x199000 x199001 x200000 x200001).bind fun bt224 => ((num_Add.f k x198000 x198001 bt224.1 bt224.2.1).bind fun bt228 => (if x8 = true then (if bt220.2.2 = true then (if bt224.2.2 = true then (if bt228.2.2 = true then (whittlelaw1_NumGroups.j2 k x12 bt224.2.2 (!(bt220.1 == bt228.1) || (!(bt220.2.1 == bt228.2.1))) x198000 x198001 x199000 x199001 x200000 x200001 x212000 x212001 bt224.1 bt224.2.1) else (whittlelaw1_NumGroups.j2 k x12 bt224.2.2 false x198000 x198001 x199000 x199001 x200000 x200001 x212000 x212001 bt224.1 bt224.2.1)) else (whittlelaw1_NumGroups.j2 k x12 bt224.2.2 false x198000 x198001 x199000 x199001 x200000 x200001 x212000 x212001 bt224.1 bt224.2.1)) else (whittlelaw1_NumGroups.j2 k x12 bt224.2.2 false x198000 x198001 x199000 x199001 x200000 x200001 x212000 x212001 bt224.1 bt224.2.1)) else (whittlelaw1_NumGroups.j2 k x12 bt224.2.2 false x198000 x198001 x199000 x199001 x200000 x200001 x212000 x212001 bt224.1 bt224.2.1)))))
def whittlelaw1_NumGroups.j2 : Nat → Bool → Bool → Bool → Int → Int → Int → Int → Int → Int → Int → Int → Int → Int → Option (Bool)
 | 0, _, _, _, _, _, _, _, _, _, _, _, _, _ => none
 | k + 1, x12, x18, x125, x198000, x198001, x199000, x199001, x200000, x200001, x212000, x212001, x228000, x228001 => if x125 = true then (some false) else ((num_Mul.f k x212000 x212001 x200000 x200001).bind fun bt232 => ((num_Mul.f k x199000 x199001 x200000 x200001).bind fun bt236 => ((num_Mul.f k x198000 x198001 bt236.1 bt236.2.1).bind fun bt240 => (if x12 = true then (if bt232.2.2 = true then (if bt236.2.2 = true then (if bt240.2.2 = true then (whittlelaw1_NumGroups.j3 k x12 x18 (!(bt232.1 == bt240.1) || (!(bt232.2.1 == bt240.2.1))) x198000 x198001 x200000 x200001 x212000 x212001 x228000 x228001) else (whittlelaw1_NumGroups.j3 k x12 x18 false x198000 x198001 x200000 x200001 x212000 x212001 x228000 x228001)) else (whittlelaw1_NumGroups.j3 k x12 x18 false x198000 x198001 x200000 x200001 x212000 x212001 x228000 x228001)) else (whittlelaw1_NumGroups.j3 k x12 x18 false x198000 x198001 x200000 x200001 x212000 x212001 x228000 x228001)) else (whittlelaw1_NumGroups.j3 k x12 x18 false x198000 x198001 x200000 x200001 x212000 x212001 x228000 x228001)))))
def whittlelaw1_NumGroups.j3 : Nat → Bool → Bool → Bool → Int → Int → Int → Int → Int → Int → Int → Int → Option (Bool)
 | 0, _, _, _, _, _, _, _, _, _, _, _ => none
 | k + 1, x12, x18, x158, x198000, x198001, x200000, x200001, x212000, x212001, x228000, x228001 => if x158 = true then (some false) else ((num_Mul.f k x198000 x198001 x228000 x228001).bind fun bt244 => ((num_Mul.f k x198000 x198001 x200000 x200001).bind fun bt248 => ((num_Add.f k x212000 x212001 bt248.1 bt248.2.1).bind fun bt252 => (if x18 = true then (if bt244.2.2 = true then (if x12 = true then (if bt248.2.2 = true then (if bt252.2.2 = true then (some (bt244.1 == bt252.1 && (bt244.2.1 == bt252.2.1))) else (some true)) else (some true)) else (some true)) else (some true)) else (some true)))))
end
def whittlelaw1_NumGroups.f (k : Nat) (a0_0 : Int) (a0_1 : Int) (a1_0 : Int) (a1_1 : Int) (a2_0 : Int) (a2_1 : Int) : Option (Bool) := (num_Add.f k a0_0 a0_1 a1_0 a1_1).bind fun bt200 => ((num_Add.f k a1_0 a1_1 a0_0 a0_1).bind fun bt204 => ((num_Mul.f k a0_0 a0_1 a1_0 a1_1).bind fun bt208 => ((num_Mul.f k a1_0 a1_1 a0_0 a0_1).bind fun bt212 => (if (!(bt200.1 == bt204.1) || (!(bt200.2.1 == bt204.2.1))) = true then (whittlelaw1_NumGroups.j0 k bt200.2.2 bt208.2.2 true a0_0 a0_1 a1_0 a1_1 a2_0 a2_1 bt200.1 bt200.2.1 bt208.1 bt208.2.1) else (if (bt200.2.2 != bt204.2.2) = true then (whittlelaw1_NumGroups.j0 k bt200.2.2 bt208.2.2 true a0_0 a0_1 a1_0 a1_1 a2_0 a2_1 bt200.1 bt200.2.1 bt208.1 bt208.2.1) else (if (!(bt208.1 == bt212.1) || (!(bt208.2.1 == bt212.2.1))) = true then (whittlelaw1_NumGroups.j0 k bt200.2.2 bt208.2.2 true a0_0 a0_1 a1_0 a1_1 a2_0 a2_1 bt200.1 bt200.2.1 bt208.1 bt208.2.1) else (if (bt208.2.2 != bt212.2.2) = true then (whittlelaw1_NumGroups.j0 k bt200.2.2 bt208.2.2 true a0_0 a0_1 a1_0 a1_1 a2_0 a2_1 bt200.1 bt200.2.1 bt208.1 bt208.2.1) else ((whittlelaw1_able.f k).bind fun t216 => (whittlelaw1_NumGroups.j0 k bt200.2.2 bt208.2.2 (!t216) a0_0 a0_1 a1_0 a1_1 a2_0 a2_1 bt200.1 bt200.2.1 bt208.1 bt208.2.1)))))))))
theorem whittlelaw1_NumGroups.mono_l : ∀ k, (∀ y0 y1 y2 y3 y4 y5 y6 y7 y8 y9 y10 y11 y12, LeO (whittlelaw1_NumGroups.j0 k y0 y1 y2 y3 y4 y5 y6 y7 y8 y9 y10 y11 y12) (whittlelaw1_NumGroups.j0 (k + 1) y0 y1 y2 y3 y4 y5 y6 y7 y8 y9 y10 y11 y12)) ∧ (∀ y0 y1 y2 y3 y4 y5 y6 y7 y8 y9 y10 y11 y12, LeO (whittlelaw1_NumGroups.j1 k y0 y1 y2 y3 y4 y5 y6 y7 y8 y9 y10 y11 y12) (whittlelaw1_NumGroups.j1 (k + 1) y0 y1 y2 y3 y4 y5 y6 y7 y8 y9 y10 y11 y12)) ∧ (∀ y0 y1 y2 y3 y4 y5 y6 y7 y8 y9 y10 y11 y12, LeO (whittlelaw1_NumGroups.j2 k y0 y1 y2 y3 y4 y5 y6 y7 y8 y9 y10 y11 y12) (whittlelaw1_NumGroups.j2 (k + 1) y0 y1 y2 y3 y4 y5 y6 y7 y8 y9 y10 y11 y12)) ∧ (∀ y0 y1 y2 y3 y4 y5 y6 y7 y8 y9 y10, LeO (whittlelaw1_NumGroups.j3 k y0 y1 y2 y3 y4 y5 y6 y7 y8 y9 y10) (whittlelaw1_NumGroups.j3 (k + 1) y0 y1 y2 y3 y4 y5 y6 y7 y8 y9 y10))
 | 0 => ⟨fun _ _ _ _ _ _ _ _ _ _ _ _ _ r h => by simp [whittlelaw1_NumGroups.j0] at h, fun _ _ _ _ _ _ _ _ _ _ _ _ _ r h => by simp [whittlelaw1_NumGroups.j1] at h, fun _ _ _ _ _ _ _ _ _ _ _ _ _ r h => by simp [whittlelaw1_NumGroups.j2] at h, fun _ _ _ _ _ _ _ _ _ _ _ r h => by simp [whittlelaw1_NumGroups.j3] at h⟩
 | k + 1 => by
  obtain ⟨ih0, ih1, ih2, ih3⟩ := whittlelaw1_NumGroups.mono_l k
  refine ⟨?_, ?_, ?_, ?_⟩
  ·intro y0 y1 y2 y3 y4 y5 y6 y7 y8 y9 y10 y11 y12
   unfold whittlelaw1_NumGroups.j0
   repeat' first
   | (with_reducible exact ih0 _ _ _ _ _ _ _ _ _ _ _ _ _)
   | (with_reducible exact ih1 _ _ _ _ _ _ _ _ _ _ _ _ _)
   | (with_reducible exact ih2 _ _ _ _ _ _ _ _ _ _ _ _ _)
   | (with_reducible exact ih3 _ _ _ _ _ _ _ _ _ _ _)
   | (with_reducible exact num_Add.mono _ _ _ _ _)
   | (with_reducible exact num_Mul.mono _ _ _ _ _)
   | (with_reducible exact whittlelaw1_able.mono _)
   | (with_reducible exact whittlelaw1_right.mono _ _ _)
   | (with_reducible exact LeO.refl _)
   | (with_reducible exact LeO.none _)
   | (with_reducible refine LeO.ite ?_ ?_)
   | (with_reducible refine LeO.bind ?_ (fun _ => ?_))
   | exact ih0 _ _ _ _ _ _ _ _ _ _ _ _ _
   | exact ih1 _ _ _ _ _ _ _ _ _ _ _ _ _
   | exact ih2 _ _ _ _ _ _ _ _ _ _ _ _ _
   | exact ih3 _ _ _ _ _ _ _ _ _ _ _
   | exact num_Add.mono _ _ _ _ _
   | exact num_Mul.mono _ _ _ _ _
   | exact whittlelaw1_able.mono _
   | exact whittlelaw1_right.mono _ _ _
   | exact LeO.none _
   | refine LeO.ite ?_ ?_
   | refine LeO.bind ?_ (fun _ => ?_)
  ·intro y0 y1 y2 y3 y4 y5 y6 y7 y8 y9 y10 y11 y12
   unfold whittlelaw1_NumGroups.j1
   repeat' first
   | (with_reducible exact ih0 _ _ _ _ _ _ _ _ _ _ _ _ _)
   | (with_reducible exact ih1 _ _ _ _ _ _ _ _ _ _ _ _ _)
   | (with_reducible exact ih2 _ _ _ _ _ _ _ _ _ _ _ _ _)
   | (with_reducible exact ih3 _ _ _ _ _ _ _ _ _ _ _)
   | (with_reducible exact num_Add.mono _ _ _ _ _)
   | (with_reducible exact num_Mul.mono _ _ _ _ _)
   | (with_reducible exact whittlelaw1_able.mono _)
   | (with_reducible exact whittlelaw1_right.mono _ _ _)
   | (with_reducible exact LeO.refl _)
   | (with_reducible exact LeO.none _)
   | (with_reducible refine LeO.ite ?_ ?_)
   | (with_reducible refine LeO.bind ?_ (fun _ => ?_))
   | exact ih0 _ _ _ _ _ _ _ _ _ _ _ _ _
   | exact ih1 _ _ _ _ _ _ _ _ _ _ _ _ _
   | exact ih2 _ _ _ _ _ _ _ _ _ _ _ _ _
   | exact ih3 _ _ _ _ _ _ _ _ _ _ _
   | exact num_Add.mono _ _ _ _ _
   | exact num_Mul.mono _ _ _ _ _
   | exact whittlelaw1_able.mono _
   | exact whittlelaw1_right.mono _ _ _
   | exact LeO.none _
   | refine LeO.ite ?_ ?_
   | refine LeO.bind ?_ (fun _ => ?_)
  ·intro y0 y1 y2 y3 y4 y5 y6 y7 y8 y9 y10 y11 y12
   unfold whittlelaw1_NumGroups.j2
   repeat' first
   | (with_reducible exact ih0 _ _ _ _ _ _ _ _ _ _ _ _ _)
   | (with_reducible exact ih1 _ _ _ _ _ _ _ _ _ _ _ _ _)
   | (with_reducible exact ih2 _ _ _ _ _ _ _ _ _ _ _ _ _)
   | (with_reducible exact ih3 _ _ _ _ _ _ _ _ _ _ _)
   | (with_reducible exact num_Add.mono _ _ _ _ _)
   | (with_reducible exact num_Mul.mono _ _ _ _ _)
   | (with_reducible exact whittlelaw1_able.mono _)
   | (with_reducible exact whittlelaw1_right.mono _ _ _)
   | (with_reducible exact LeO.refl _)
   | (with_reducible exact LeO.none _)
   | (with_reducible refine LeO.ite ?_ ?_)
   | (with_reducible refine LeO.bind ?_ (fun _ => ?_))
   | exact ih0 _ _ _ _ _ _ _ _ _ _ _ _ _
   | exact ih1 _ _ _ _ _ _ _ _ _ _ _ _ _
   | exact ih2 _ _ _ _ _ _ _ _ _ _ _ _ _
   | exact ih3 _ _ _ _ _ _ _ _ _ _ _
   | exact num_Add.mono _ _ _ _ _
   | exact num_Mul.mono _ _ _ _ _
   | exact whittlelaw1_able.mono _
   | exact whittlelaw1_right.mono _ _ _
   | exact LeO.none _
   | refine LeO.ite ?_ ?_
   | refine LeO.bind ?_ (fun _ => ?_)
  ·intro y0 y1 y2 y3 y4 y5 y6 y7 y8 y9 y10
   unfold whittlelaw1_NumGroups.j3
   repeat' first
   | (with_reducible exact ih0 _ _ _ _ _ _ _ _ _ _ _ _ _)
   | (with_reducible exact ih1 _ _ _ _ _ _ _ _ _ _ _ _ _)
   | (with_reducible exact ih2 _ _ _ _ _ _ _ _ _ _ _ _ _)
   | (with_reducible exact ih3 _ _ _ _ _ _ _ _ _ _ _)
   | (with_reducible exact num_Add.mono _ _ _ _ _)
   | (with_reducible exact num_Mul.mono _ _ _ _ _)
   | (with_reducible exact whittlelaw1_able.mono _)
   | (with_reducible exact whittlelaw1_right.mono _ _ _)
   | (with_reducible exact LeO.refl _)
   | (with_reducible exact LeO.none _)
   | (with_reducible refine LeO.ite ?_ ?_)
   | (with_reducible refine LeO.bind ?_ (fun _ => ?_))
   | exact ih0 _ _ _ _ _ _ _ _ _ _ _ _ _
   | exact ih1 _ _ _ _ _ _ _ _ _ _ _ _ _
   | exact ih2 _ _ _ _ _ _ _ _ _ _ _ _ _
   | exact ih3 _ _ _ _ _ _ _ _ _ _ _
   | exact num_Add.mono _ _ _ _ _
   | exact num_Mul.mono _ _ _ _ _
   | exact whittlelaw1_able.mono _
   | exact whittlelaw1_right.mono _ _ _
   | exact LeO.none _
   | refine LeO.ite ?_ ?_
   | refine LeO.bind ?_ (fun _ => ?_)
theorem whittlelaw1_NumGroups.mono : ∀ a0 a1 a2 a3 a4 a5 k, LeO (whittlelaw1_NumGroups.f k a0 a1 a2 a3 a4 a5) (whittlelaw1_NumGroups.f (k + 1) a0 a1 a2 a3 a4 a5) := by
 intro a0 a1 a2 a3 a4 a5 k
 obtain ⟨ih0, ih1, ih2, ih3⟩ := whittlelaw1_NumGroups.mono_l k
 unfold whittlelaw1_NumGroups.f
 repeat' first
   | (with_reducible exact ih0 _ _ _ _ _ _ _ _ _ _ _ _ _)
   | (with_reducible exact ih1 _ _ _ _ _ _ _ _ _ _ _ _ _)
   | (with_reducible exact ih2 _ _ _ _ _ _ _ _ _ _ _ _ _)
   | (with_reducible exact ih3 _ _ _ _ _ _ _ _ _ _ _)
   | (with_reducible exact num_Add.mono _ _ _ _ _)
   | (with_reducible exact num_Mul.mono _ _ _ _ _)
   | (with_reducible exact whittlelaw1_able.mono _)
   | (with_reducible exact whittlelaw1_right.mono _ _ _)
   | (with_reducible exact LeO.refl _)
   | (with_reducible exact LeO.none _)
   | (with_reducible refine LeO.ite ?_ ?_)
   | (with_reducible refine LeO.bind ?_ (fun _ => ?_))
   | exact ih0 _ _ _ _ _ _ _ _ _ _ _ _ _
   | exact ih1 _ _ _ _ _ _ _ _ _ _ _ _ _
   | exact ih2 _ _ _ _ _ _ _ _ _ _ _ _ _
   | exact ih3 _ _ _ _ _ _ _ _ _ _ _
   | exact num_Add.mono _ _ _ _ _
   | exact num_Mul.mono _ _ _ _ _
   | exact whittlelaw1_able.mono _
   | exact whittlelaw1_right.mono _ _ _
   | exact LeO.none _
   | refine LeO.ite ?_ ?_
   | refine LeO.bind ?_ (fun _ => ?_)
set_option maxHeartbeats 8000000 in
set_option maxRecDepth 100000 in
theorem whittlelaw1_NumGroups.calls (k : Nat) (a0_0 : Int) (a0_1 : Int) (a1_0 : Int) (a1_1 : Int) (a2_0 : Int) (a2_1 : Int) (r : Bool) (w : World) (HT0 : TabAt w) (hr0 : r = true) (h : whittlelaw1_NumGroups.f k a0_0 a0_1 a1_0 a1_1 a2_0 a2_1 = some r) :
  Calls Tryd.prog 10 #[.agg #[.int .i64 a0_0, .int .i64 a0_1], .agg #[.int .i64 a1_0, .int .i64 a1_1], .agg #[.int .i64 a2_0, .int .i64 a2_1]] w fun e w' => e = .returned (.bool r) ∧ Below w.heap.size w w' := by
 have hu23 := Tryd.underlying23
 have HT := Aside0.mk HT0
 clear HT0
 have HR := Aside0.mk hr0
 clear hr0
 have BX := Bx.start w
 have H : ((num_Add.f k a0_0 a0_1 a1_0 a1_1).bind fun bt200 => ((num_Add.f k a1_0 a1_1 a0_0 a0_1).bind fun bt204 => ((num_Mul.f k a0_0 a0_1 a1_0 a1_1).bind fun bt208 => ((num_Mul.f k a1_0 a1_1 a0_0 a0_1).bind fun bt212 => (if (!(bt200.1 == bt204.1) || (!(bt200.2.1 == bt204.2.1))) = true then (whittlelaw1_NumGroups.j0 k bt200.2.2 bt208.2.2 true a0_0 a0_1 a1_0 a1_1 a2_0 a2_1 bt200.1 bt200.2.1 bt208.1 bt208.2.1) else (if (bt200.2.2 != bt204.2.2) = true then (whittlelaw1_NumGroups.j0 k bt200.2.2 bt208.2.2 true a0_0 a0_1 a1_0 a1_1 a2_0 a2_1 bt200.1 bt200.2.1 bt208.1 bt208.2.1) else (if (!(bt208.1 == bt212.1) || (!(bt208.2.1 == bt212.2.1))) = true then (whittlelaw1_NumGroups.j0 k bt200.2.2 bt208.2.2 true a0_0 a0_1 a1_0 a1_1 a2_0 a2_1 bt200.1 bt200.2.1 bt208.1 bt208.2.1) else (if (bt208.2.2 != bt212.2.2) = true then (whittlelaw1_NumGroups.j0 k bt200.2.2 bt208.2.2 true a0_0 a0_1 a1_0 a1_1 a2_0 a2_1 bt200.1 bt200.2.1 bt208.1 bt208.2.1) else ((whittlelaw1_able.f k).bind fun t216 => (whittlelaw1_NumGroups.j0 k bt200.2.2 bt208.2.2 (!t216) a0_0 a0_1 a1_0 a1_1 a2_0 a2_1 bt200.1 bt200.2.1 bt208.1 bt208.2.1)))))))))) = some r := h
 clear h
 replace H := Option.bind_eq_some_iff.mp H
 obtain ⟨⟨t200, t201, t202⟩, A40, H⟩ := H
 have A4 := Aside0.mk A40
 clear A40
 replace H := Option.bind_eq_some_iff.mp H
 obtain ⟨⟨t204, t205, t206⟩, A50, H⟩ := H
 have A5 := Aside0.mk A50
 clear A50
 replace H := Option.bind_eq_some_iff.mp H
 obtain ⟨⟨t208, t209, t210⟩, A60, H⟩ := H
 have A6 := Aside0.mk A60
 clear A60
 replace H := Option.bind_eq_some_iff.mp H
 obtain ⟨⟨t212, t213, t214⟩, A70, H⟩ := H
 replace H : (if (!(t200 == t204) || (!(t201 == t205))) = true then (whittlelaw1_NumGroups.j0 k t202 t210 true a0_0 a0_1 a1_0 a1_1 a2_0 a2_1 t200 t201 t208 t209) else (if (t202 != t206) = true then (whittlelaw1_NumGroups.j0 k t202 t210 true a0_0 a0_1 a1_0 a1_1 a2_0 a2_1 t200 t201 t208 t209) else (if (!(t208 == t212) || (!(t209 == t213))) = true then (whittlelaw1_NumGroups.j0 k t202 t210 true a0_0 a0_1 a1_0 a1_1 a2_0 a2_1 t200 t201 t208 t209) else (if (t210 != t214) = true then (whittlelaw1_NumGroups.j0 k t202 t210 true a0_0 a0_1 a1_0 a1_1 a2_0 a2_1 t200 t201 t208 t209) else ((whittlelaw1_able.f k).bind fun t216 => (whittlelaw1_NumGroups.j0 k t202 t210 (!t216) a0_0 a0_1 a1_0 a1_1 a2_0 a2_1 t200 t201 t208 t209)))))) = some r := H
 have A7 := Aside0.mk A70
 clear A70
 have HC8 := Aside0.mk H
 clear H
 go_enter Tryd.func10, Tryd.ntmps10
 go_upto_region 5 with (first | ((with_reducible refine gate_dst (N := 3) rfl ?_); refine bxe 3 #[.int .i64 a0_0, .int .i64 a0_1] 23 rfl rfl gr ?_; clear BX; intro gb197 w9 GE197 BX) | ((with_reducible refine gate_dst (N := 4) rfl ?_); refine bxe 4 #[.int .i64 a1_0, .int .i64 a1_1] 23 rfl rfl gr ?_; clear BX; intro gb198 w10 GE198 BX) | ((with_reducible refine gate_dst (N := 5) rfl ?_); refine bxe 5 #[.int .i64 a2_0, .int .i64 a2_1] 23 rfl rfl gr ?_; clear BX; intro gb199 w11 GE199 BX) | ((with_reducible refine gate_callee (f := 33) rfl ?_); refine goesL_ (some 36) rfl rfl Tryd.func33 kr rfl #[.agg #[.int .i64 a0_0, .int .i64 a0_1], .agg #[.int .i64 a1_0, .int .i64 a1_1]] rfl ga ?_; (with_reducible refine (num_Add.calls k a0_0 a0_1 a1_0 a1_1 t200 t201 t202 _ A4.out).mono ?_); rintro e w17 ⟨rfl, hb⟩; refine ⟨_, rfl, ?_⟩; replace BX := bx_call hb; clear hb) | ((with_reducible refine gate_dst (N := 7) rfl ?_); refine bxe 7 #[.int .i64 0, .int .i64 0] 23 rfl rfl gr ?_; clear BX; intro gb203 w18 GE203 BX) | ((with_reducible refine gate_callee (f := 33) rfl ?_); refine goesL_ (some 42) rfl rfl Tryd.func33 kr rfl #[.agg #[.int .i64 a1_0, .int .i64 a1_1], .agg #[.int .i64 a0_0, .int .i64 a0_1]] rfl ga ?_; (with_reducible refine (num_Add.calls k a1_0 a1_1 a0_0 a0_1 t204 t205 t206 _ A5.out).mono ?_); rintro e w25 ⟨rfl, hb⟩; refine ⟨_, rfl, ?_⟩; replace BX := bx_call hb; clear hb) | ((with_reducible refine gate_dst (N := 9) rfl ?_); refine bxe 9 #[.int .i64 0, .int .i64 0] 23 rfl rfl gr ?_; clear BX; intro gb207 w26 GE207 BX) | ((with_reducible refine gate_callee (f := 39) rfl ?_); refine goesL_ (some 48) rfl rfl Tryd.func39 kr rfl #[.agg #[.int .i64 a0_0, .int .i64 a0_1], .agg #[.int .i64 a1_0, .int .i64 a1_1]] rfl ga ?_; (with_reducible refine (num_Mul.calls k a0_0 a0_1 a1_0 a1_1 t208 t209 t210 _ A6.out).mono ?_); rintro e w34 ⟨rfl, hb⟩; refine ⟨_, rfl, ?_⟩; replace BX := bx_call hb; clear hb) | ((with_reducible refine gate_dst (N := 11) rfl ?_); refine bxe 11 #[.int .i64 0, .int .i64 0] 23 rfl rfl gr ?_; clear BX; intro gb211 w35 GE211 BX) | ((with_reducible refine gate_callee (f := 39) rfl ?_); refine goesL_ (some 54) rfl rfl Tryd.func39 kr rfl #[.agg #[.int .i64 a1_0, .int .i64 a1_1], .agg #[.int .i64 a0_0, .int .i64 a0_1]] rfl ga ?_; (with_reducible refine (num_Mul.calls k a1_0 a1_1 a0_0 a0_1 t212 t213 t214 _ A7.out).mono ?_); rintro e w44 ⟨rfl, hb⟩; refine ⟨_, rfl, ?_⟩; replace BX := bx_call hb; clear hb) | ((with_reducible refine gate_dst (N := 13) rfl ?_); refine bxe 13 #[.int .i64 0, .int .i64 0] 23 rfl rfl gr ?_; clear BX; intro gb215 w45 GE215 BX))
 (try simp only [Act.put, List.setIfInBounds_toArray, List.set_cons_zero, List.set_cons_succ])
 go_cut [78] (fun v78 wc => ∃ (kq : Nat) (x78_7 : Bool), v78 = .bool x78_7 ∧ Aside0 (whittlelaw1_NumGroups.j0 kq t202 t210 x78_7 a0_0 a0_1 a1_0 a1_1 a2_0 a2_1 t200 t201 t208 t209 = some r) ∧ Aside0 (kq ≤ k) ∧ Bx w wc [(gb215, 23, #[.int .i64 t212, .int .i64 t213]), (gb211, 23, #[.int .i64 t208, .int .i64 t209]), (gb207, 23, #[.int .i64 t204, .int .i64 t205]), (gb203, 23, #[.int .i64 t200, .int .i64 t201]), (gb199, 23, #[.int .i64 a2_0, .int .i64 a2_1]), (gb198, 23, #[.int .i64 a1_0, .int .i64 a1_1]), (gb197, 23, #[.int .i64 a0_0, .int .i64 a0_1])])
 case first => as_aux_lemma =>
  have H := HC8.out
  clear HC8
  by_cases c53 : (!(t200 == t204) || (!(t201 == t205))) = true
  ·rw [if_pos c53] at H
   have c53b0 : (!(t200 == t204) || (!(t201 == t205))) = true := c53
   clear c53
   (first | rw [c53b0] | (simp only [i64_w, i32_w]; rw [c53b0]) | skip)
   exact (no_meet (g := fun k_ => whittlelaw1_NumGroups.j0 k_ t202 t210 true a0_0 a0_1 a1_0 a1_1 a2_0 a2_1 t200 t201 t208 t209) HR.out H (by simp only [whittlelaw1_NumGroups.j0]) (fun k_ => by simp only [whittlelaw1_NumGroups.j0]; first | exact if_pos rfl | rfl | simp)).elim
  ·rw [if_neg c53] at H
   have c53b0 : (!(t200 == t204) || (!(t201 == t205))) = false := by simpa using c53
   clear c53
   (first | rw [c53b0] | (simp only [i64_w, i32_w]; rw [c53b0]) | skip)
   by_cases c54 : (t202 != t206) = true
   ·rw [if_pos c54] at H
    have c54b0 : (t202 != t206) = true := c54
    (try (have c54b1 : decide (t202 = t206) = false := by simpa using c54))
    (try (have c54b2 : (t202 == t206) = false := by simpa using c54))
    (try (have c54b3 : ¬ (t202 = t206) := by simpa using c54))
    clear c54
    exact (no_meet (g := fun k_ => whittlelaw1_NumGroups.j0 k_ t202 t210 true a0_0 a0_1 a1_0 a1_1 a2_0 a2_1 t200 t201 t208 t209) HR.out H (by simp only [whittlelaw1_NumGroups.j0]) (fun k_ => by simp only [whittlelaw1_NumGroups.j0]; first | exact if_pos rfl | rfl | simp)).elim
   ·rw [if_neg c54] at H
    have c54b0 : (t202 != t206) = false := by simpa using c54
    (try (have c54b1 : decide (t202 = t206) = true := by simpa using c54))
    (try (have c54b2 : (t202 == t206) = true := by simpa using c54))
    clear c54
    by_cases c55 : (!(t208 == t212) || (!(t209 == t213))) = true
    ·rw [if_pos c55] at H
     have c55b0 : (!(t208 == t212) || (!(t209 == t213))) = true := c55
     clear c55
     exact (no_meet (g := fun k_ => whittlelaw1_NumGroups.j0 k_ t202 t210 true a0_0 a0_1 a1_0 a1_1 a2_0 a2_1 t200 t201 t208 t209) HR.out H (by simp only [whittlelaw1_NumGroups.j0]) (fun k_ => by simp only [whittlelaw1_NumGroups.j0]; first | exact if_pos rfl | rfl | simp)).elim
    ·rw [if_neg c55] at H
     have c55b0 : (!(t208 == t212) || (!(t209 == t213))) = false := by simpa using c55
     clear c55
     by_cases c56 : (t210 != t214) = true
     ·rw [if_pos c56] at H
      have c56b0 : (t210 != t214) = true := c56
      (try (have c56b1 : decide (t210 = t214) = false := by simpa using c56))
      (try (have c56b2 : (t210 == t214) = false := by simpa using c56))
      (try (have c56b3 : ¬ (t210 = t214) := by simpa using c56))
      clear c56
      exact (no_meet (g := fun k_ => whittlelaw1_NumGroups.j0 k_ t202 t210 true a0_0 a0_1 a1_0 a1_1 a2_0 a2_1 t200 t201 t208 t209) HR.out H (by simp only [whittlelaw1_NumGroups.j0]) (fun k_ => by simp only [whittlelaw1_NumGroups.j0]; first | exact if_pos rfl | rfl | simp)).elim
     ·rw [if_neg c56] at H
      have c56b0 : (t210 != t214) = false := by simpa using c56
      (try (have c56b1 : decide (t210 = t214) = true := by simpa using c56))
      (try (have c56b2 : (t210 == t214) = true := by simpa using c56))
      clear c56
      replace H := Option.bind_eq_some_iff.mp H
      obtain ⟨t216, A570, H⟩ := H
      replace H : (whittlelaw1_NumGroups.j0 k t202 t210 (!t216) a0_0 a0_1 a1_0 a1_1 a2_0 a2_1 t200 t201 t208 t209) = some r := H
      have A57 := Aside0.mk A570
      clear A570
      have H' := Aside0.mk H
      clear H
      go_wp2_with (first | (go_at_call 22; (with_reducible refine (whittlelaw1_able.calls k  t216 _ ?side1 A57.out).mono ?_); (case side1 => exact HT.out.on bx_bl); rintro e w80 ⟨rfl, hb⟩; replace BX := bx_call hb; clear hb))
      go_meet
      case rel => exact ⟨_, (!t216), er, H', ⟨by first | omega | exact Nat.le_refl _⟩, bxs⟩
 case rest => as_aux_lemma =>
  clear HC8
  try clear c1
  try clear c2
  try clear p2
  try clear c3
  try clear c4
  try clear c5
  try clear c6
  try clear c7
  try clear c10
  try clear c12
  try clear c13
  try clear c15
  try clear c19
  try clear c20
  try clear c21
  try clear c27
  try clear c28
  try clear c29
  try clear c30
  try clear c33
  try clear c36
  try clear c37
  try clear c38
  try clear c39
  try clear c40
  try clear c46
  try clear c47
  try clear c48
  try clear c49
  try clear c50
  try clear c51
  try clear c53
  try clear c53b0
  try clear c54
  try clear c54b0
  try clear c54b1
  try clear c54b2
  try clear c55
  try clear c55b0
  try clear c56
  try clear c56b0
  try clear c56b1
  try clear c56b2
  try clear c58
  try clear c59
  try clear c60
  try clear c61
  try clear c62
  try clear c63
  try clear c65
  try clear c66
  try clear c67
  try clear c68
  try clear c69
  try clear c71
  try clear c72
  try clear c73
  try clear c74
  try clear c76
  try clear c77
  try clear c78
  obtain ⟨kq, x78_7, rfl, HA, HJ7, BX⟩ := hcut
  cases kq with
  | zero => exact absurd HA.out (by simp [whittlelaw1_NumGroups.j0])
  | succ kj7 =>
   have H := HA.out
   clear HA
   simp only [whittlelaw1_NumGroups.j0] at H
   by_cases c81 : x78_7 = true
   ·subst c81
    have H1 : (some false) = some r := by rw [if_pos rfl] at H; exact H
    clear H
    have H := H1
    clear H1
    exact absurd (Option.some.inj H) (by rw [HR.out]; decide)
   ·replace c81 := Bool.eq_false_iff.mpr c81
    subst c81
    have H1 : (if t202 = true then ((whittlelaw1_right.f kj7 t200 t201).bind fun t217 => (if t217 = true then (if t210 = true then ((whittlelaw1_right.f kj7 t208 t209).bind fun t218 => (whittlelaw1_NumGroups.j1 kj7 t202 t210 (!t218) a0_0 a0_1 a1_0 a1_1 a2_0 a2_1 t200 t201 t208 t209)) else (whittlelaw1_NumGroups.j1 kj7 t202 t210 false a0_0 a0_1 a1_0 a1_1 a2_0 a2_1 t200 t201 t208 t209)) else (whittlelaw1_NumGroups.j1 kj7 t202 t210 true a0_0 a0_1 a1_0 a1_1 a2_0 a2_1 t200 t201 t208 t209))) else (if t210 = true then ((whittlelaw1_right.f kj7 t208 t209).bind fun t219 => (whittlelaw1_NumGroups.j1 kj7 t202 t210 (!t219) a0_0 a0_1 a1_0 a1_1 a2_0 a2_1 t200 t201 t208 t209)) else (whittlelaw1_NumGroups.j1 kj7 t202 t210 false a0_0 a0_1 a1_0 a1_1 a2_0 a2_1 t200 t201 t208 t209))) = some r := by rw [if_neg (show ¬ (false = true) by decide)] at H; exact H
    clear H
    have H := H1
    clear H1
    have HC82 := Aside0.mk H
    clear H
    go_upto_region 7 with (fail)
    go_cut [92] (fun v92 wc => ∃ (kq : Nat) (x92_81 : Bool), v92 = .bool x92_81 ∧ Aside0 (whittlelaw1_NumGroups.j1 kq t202 t210 x92_81 a0_0 a0_1 a1_0 a1_1 a2_0 a2_1 t200 t201 t208 t209 = some r) ∧ Aside0 (kq ≤ kj7) ∧ Bx w wc [(gb215, 23, #[.int .i64 t212, .int .i64 t213]), (gb211, 23, #[.int .i64 t208, .int .i64 t209]), (gb207, 23, #[.int .i64 t204, .int .i64 t205]), (gb203, 23, #[.int .i64 t200, .int .i64 t201]), (gb199, 23, #[.int .i64 a2_0, .int .i64 a2_1]), (gb198, 23, #[.int .i64 a1_0, .int .i64 a1_1]), (gb197, 23, #[.int .i64 a0_0, .int .i64 a0_1])])
    case first => as_aux_lemma =>
     have H := HC82.out
     clear HC82
     by_cases c83 : t202 = true
     ·subst c83
      have H1 : ((whittlelaw1_right.f kj7 t200 t201).bind fun t217 => (if t217 = true then (if t210 = true then ((whittlelaw1_right.f kj7 t208 t209).bind fun t218 => (whittlelaw1_NumGroups.j1 kj7 true t210 (!t218) a0_0 a0_1 a1_0 a1_1 a2_0 a2_1 t200 t201 t208 t209)) else (whittlelaw1_NumGroups.j1 kj7 true t210 false a0_0 a0_1 a1_0 a1_1 a2_0 a2_1 t200 t201 t208 t209)) else (whittlelaw1_NumGroups.j1 kj7 true t210 true a0_0 a0_1 a1_0 a1_1 a2_0 a2_1 t200 t201 t208 t209))) = some r := by rw [if_pos rfl] at H; exact H
      clear H
      have H := H1
      clear H1
      replace H := Option.bind_eq_some_iff.mp H
      obtain ⟨t217, A840, H⟩ := H
      replace H : (if t217 = true then (if t210 = true then ((whittlelaw1_right.f kj7 t208 t209).bind fun t218 => (whittlelaw1_NumGroups.j1 kj7 true t210 (!t218) a0_0 a0_1 a1_0 a1_1 a2_0 a2_1 t200 t201 t208 t209)) else (whittlelaw1_NumGroups.j1 kj7 true t210 false a0_0 a0_1 a1_0 a1_1 a2_0 a2_1 t200 t201 t208 t209)) else (whittlelaw1_NumGroups.j1 kj7 true t210 true a0_0 a0_1 a1_0 a1_1 a2_0 a2_1 t200 t201 t208 t209)) = some r := H
      have A84 := Aside0.mk A840
      clear A840
      by_cases c85 : t217 = true
      ·subst c85
       have H1 : (if t210 = true then ((whittlelaw1_right.f kj7 t208 t209).bind fun t218 => (whittlelaw1_NumGroups.j1 kj7 true t210 (!t218) a0_0 a0_1 a1_0 a1_1 a2_0 a2_1 t200 t201 t208 t209)) else (whittlelaw1_NumGroups.j1 kj7 true t210 false a0_0 a0_1 a1_0 a1_1 a2_0 a2_1 t200 t201 t208 t209)) = some r := by rw [if_pos rfl] at H; exact H
       clear H
       have H := H1
       clear H1
       by_cases c86 : t210 = true
       ·subst c86
        have H1 : ((whittlelaw1_right.f kj7 t208 t209).bind fun t218 => (whittlelaw1_NumGroups.j1 kj7 true true (!t218) a0_0 a0_1 a1_0 a1_1 a2_0 a2_1 t200 t201 t208 t209)) = some r := by rw [if_pos rfl] at H; exact H
        clear H
        have H := H1
        clear H1
        replace H := Option.bind_eq_some_iff.mp H
        obtain ⟨t218, A870, H⟩ := H
        replace H : (whittlelaw1_NumGroups.j1 kj7 true true (!t218) a0_0 a0_1 a1_0 a1_1 a2_0 a2_1 t200 t201 t208 t209) = some r := H
        have A87 := Aside0.mk A870
        clear A870
        have H' := Aside0.mk H
        clear H
        go_wp2_with (first | (go_at_call 31; (with_reducible refine (whittlelaw1_right.calls kj7 t200 t201 true _ A84.out).mono ?_); rintro e w95 ⟨rfl, hb⟩; replace BX := bx_call hb; clear hb) | (go_at_call 31; (with_reducible refine (whittlelaw1_right.calls kj7 t208 t209 t218 _ A87.out).mono ?_); rintro e w102 ⟨rfl, hb⟩; replace BX := bx_call hb; clear hb))
        go_meet
        case rel => exact ⟨_, (!t218), er, H', ⟨by have := HJ7.out; first | omega | exact Nat.le_refl _⟩, bxs⟩
       ·replace c86 := Bool.eq_false_iff.mpr c86
        subst c86
        have H1 : (whittlelaw1_NumGroups.j1 kj7 true false false a0_0 a0_1 a1_0 a1_1 a2_0 a2_1 t200 t201 t208 t209) = some r := by rw [if_neg (show ¬ (false = true) by decide)] at H; exact H
        clear H
        have H := H1
        clear H1
        have H' := Aside0.mk H
        clear H
        go_wp2_with (first | (go_at_call 31; (with_reducible refine (whittlelaw1_right.calls kj7 t200 t201 true _ A84.out).mono ?_); rintro e w110 ⟨rfl, hb⟩; replace BX := bx_call hb; clear hb))
        go_meet
        case rel => exact ⟨_, (false), er, H', ⟨by have := HJ7.out; first | omega | exact Nat.le_refl _⟩, bxs⟩
      ·replace c85 := Bool.eq_false_iff.mpr c85
       subst c85
       have H1 : (whittlelaw1_NumGroups.j1 kj7 true t210 true a0_0 a0_1 a1_0 a1_1 a2_0 a2_1 t200 t201 t208 t209) = some r := by rw [if_neg (show ¬ (false = true) by decide)] at H; exact H
       clear H
       have H := H1
       clear H1
       exact (no_meet (g := fun k_ => whittlelaw1_NumGroups.j1 k_ true t210 true a0_0 a0_1 a1_0 a1_1 a2_0 a2_1 t200 t201 t208 t209) HR.out H (by simp only [whittlelaw1_NumGroups.j1]) (fun k_ => by simp only [whittlelaw1_NumGroups.j1]; first | exact if_pos rfl | rfl | simp)).elim
     ·replace c83 := Bool.eq_false_iff.mpr c83
      subst c83
      have H1 : (if t210 = true then ((whittlelaw1_right.f kj7 t208 t209).bind fun t219 => (whittlelaw1_NumGroups.j1 kj7 false t210 (!t219) a0_0 a0_1 a1_0 a1_1 a2_0 a2_1 t200 t201 t208 t209)) else (whittlelaw1_NumGroups.j1 kj7 false t210 false a0_0 a0_1 a1_0 a1_1 a2_0 a2_1 t200 t201 t208 t209)) = some r := by rw [if_neg (show ¬ (false = true) by decide)] at H; exact H
      clear H
      have H := H1
      clear H1
      by_cases c111 : t210 = true
      ·subst c111
       have H1 : ((whittlelaw1_right.f kj7 t208 t209).bind fun t219 => (whittlelaw1_NumGroups.j1 kj7 false true (!t219) a0_0 a0_1 a1_0 a1_1 a2_0 a2_1 t200 t201 t208 t209)) = some r := by rw [if_pos rfl] at H; exact H
       clear H
       have H := H1
       clear H1
       replace H := Option.bind_eq_some_iff.mp H
       obtain ⟨t219, A1120, H⟩ := H
       replace H : (whittlelaw1_NumGroups.j1 kj7 false true (!t219) a0_0 a0_1 a1_0 a1_1 a2_0 a2_1 t200 t201 t208 t209) = some r := H
       have A112 := Aside0.mk A1120
       clear A1120
       have H' := Aside0.mk H
       clear H
       go_wp2_with (first | (go_at_call 31; (with_reducible refine (whittlelaw1_right.calls kj7 t208 t209 t219 _ A112.out).mono ?_); rintro e w120 ⟨rfl, hb⟩; replace BX := bx_call hb; clear hb))
       go_meet
       case rel => exact ⟨_, (!t219), er, H', ⟨by have := HJ7.out; first | omega | exact Nat.le_refl _⟩, bxs⟩
      ·replace c111 := Bool.eq_false_iff.mpr c111
       subst c111
       have H1 : (whittlelaw1_NumGroups.j1 kj7 false false false a0_0 a0_1 a1_0 a1_1 a2_0 a2_1 t200 t201 t208 t209) = some r := by rw [if_neg (show ¬ (false = true) by decide)] at H; exact H
       clear H
       have H := H1
       clear H1
       have H' := Aside0.mk H
       clear H
       go_wp2
       go_meet
       case rel => exact ⟨_, (false), er, H', ⟨by have := HJ7.out; first | omega | exact Nat.le_refl _⟩, bxs⟩
    case rest => as_aux_lemma =>
     clear HC82
     try clear c1
     try clear c2
     try clear p2
     try clear c3
     try clear c4
     try clear c5
     try clear c6
     try clear c7
     try clear c8
     try clear c9
     try clear c10
     try clear c11
     try clear c12
     try clear c13
     try clear c15
     try clear c19
     try clear c20
     try clear c21
     try clear c27
     try clear c28
     try clear c29
     try clear c30
     try clear c33
     try clear c36
     try clear c37
     try clear c38
     try clear c39
     try clear c40
     try clear c46
     try clear c47
     try clear c48
     try clear c49
     try clear c50
     try clear c51
     try clear c53
     try clear c53b0
     try clear c54
     try clear c54b0
     try clear c54b1
     try clear c54b2
     try clear c55
     try clear c55b0
     try clear c56
     try clear c56b0
     try clear c56b1
     try clear c56b2
     try clear c58
     try clear c59
     try clear c60
     try clear c61
     try clear c62
     try clear c63
     try clear c65
     try clear c66
     try clear c67
     try clear c68
     try clear c69
     try clear c71
     try clear c72
     try clear c73
     try clear c74
     try clear c76
     try clear c77
     try clear c78
     try clear c81
     try clear c83
     try clear c85
     try clear c86
     try clear c88
     try clear c89
     try clear c90
     try clear c91
     try clear c92
     try clear c93
     try clear c96
     try clear c97
     try clear c98
     try clear c99
     try clear c100
     try clear c103
     try clear c104
     try clear c105
     try clear c106
     try clear c107
     try clear c108
     try clear c111
     try clear c113
     try clear c114
     try clear c115
     try clear c116
     try clear c117
     try clear c118
     try clear p2
     obtain ⟨kq, x92_81, rfl, HA, HJ81, BX⟩ := hcut
     cases kq with
     | zero => exact absurd HA.out (by simp [whittlelaw1_NumGroups.j1])
     | succ kj81 =>
      have H := HA.out
      clear HA
      simp only [whittlelaw1_NumGroups.j1] at H
      by_cases c121 : x92_81 = true
      ·subst c121
       have H1 : (some false) = some r := by rw [if_pos rfl] at H; exact H
       clear H
       have H := H1
       clear H1
       exact absurd (Option.some.inj H) (by rw [HR.out]; decide)
      ·replace c121 := Bool.eq_false_iff.mpr c121
       subst c121
       have H1 : ((num_Add.f kj81 t200 t201 a2_0 a2_1).bind fun bt220 => ((num_Add.f kj81 a1_0 a1_1 a2_0 a2_1).bind fun bt224 => ((num_Add.f kj81 a0_0 a0_1 bt224.1 bt224.2.1).bind fun bt228 => (if t202 = true then (if bt220.2.2 = true then (if bt224.2.2 = true then (if bt228.2.2 = true then (whittlelaw1_NumGroups.j2 kj81 t210 bt224.2.2 (!(bt220.1 == bt228.1) || (!(bt220.2.1 == bt228.2.1))) a0_0 a0_1 a1_0 a1_1 a2_0 a2_1 t208 t209 bt224.1 bt224.2.1) else (whittlelaw1_NumGroups.j2 kj81 t210 bt224.2.2 false a0_0 a0_1 a1_0 a1_1 a2_0 a2_1 t208 t209 bt224.1 bt224.2.1)) else (whittlelaw1_NumGroups.j2 kj81 t210 bt224.2.2 false a0_0 a0_1 a1_0 a1_1 a2_0 a2_1 t208 t209 bt224.1 bt224.2.1)) else (whittlelaw1_NumGroups.j2 kj81 t210 bt224.2.2 false a0_0 a0_1 a1_0 a1_1 a2_0 a2_1 t208 t209 bt224.1 bt224.2.1)) else (whittlelaw1_NumGroups.j2 kj81 t210 bt224.2.2 false a0_0 a0_1 a1_0 a1_1 a2_0 a2_1 t208 t209 bt224.1 bt224.2.1))))) = some r := by rw [if_neg (show ¬ (false = true) by decide)] at H; exact H
       clear H
       have H := H1
       clear H1
       replace H := Option.bind_eq_some_iff.mp H
       obtain ⟨⟨t220, t221, t222⟩, A1220, H⟩ := H
       have A122 := Aside0.mk A1220
       clear A1220
       replace H := Option.bind_eq_some_iff.mp H
       obtain ⟨⟨t224, t225, t226⟩, A1230, H⟩ := H
       have A123 := Aside0.mk A1230
       clear A1230
       replace H := Option.bind_eq_some_iff.mp H
       obtain ⟨⟨t228, t229, t230⟩, A1240, H⟩ := H
       replace H : (if t202 = true then (if t222 = true then (if t226 = true then (if t230 = true then (whittlelaw1_NumGroups.j2 kj81 t210 t226 (!(t220 == t228) || (!(t221 == t229))) a0_0 a0_1 a1_0 a1_1 a2_0 a2_1 t208 t209 t224 t225) else (whittlelaw1_NumGroups.j2 kj81 t210 t226 false a0_0 a0_1 a1_0 a1_1 a2_0 a2_1 t208 t209 t224 t225)) else (whittlelaw1_NumGroups.j2 kj81 t210 t226 false a0_0 a0_1 a1_0 a1_1 a2_0 a2_1 t208 t209 t224 t225)) else (whittlelaw1_NumGroups.j2 kj81 t210 t226 false a0_0 a0_1 a1_0 a1_1 a2_0 a2_1 t208 t209 t224 t225)) else (whittlelaw1_NumGroups.j2 kj81 t210 t226 false a0_0 a0_1 a1_0 a1_1 a2_0 a2_1 t208 t209 t224 t225)) = some r := H
       have A124 := Aside0.mk A1240
       clear A1240
       have HC125 := Aside0.mk H
       clear H
       go_upto_region 12 with (first | ((with_reducible refine gate_callee (f := 33) rfl ?_); refine goesL_ (some 96) rfl rfl Tryd.func33 kr rfl #[.agg #[.int .i64 t200, .int .i64 t201], .agg #[.int .i64 a2_0, .int .i64 a2_1]] rfl ga ?_; (with_reducible refine (num_Add.calls kj81 t200 t201 a2_0 a2_1 t220 t221 t222 _ A122.out).mono ?_); rintro e w139 ⟨rfl, hb⟩; refine ⟨_, rfl, ?_⟩; replace BX := bx_call hb; clear hb) | ((with_reducible refine gate_dst (N := 15) rfl ?_); refine bxe 15 #[.int .i64 0, .int .i64 0] 23 rfl rfl gr ?_; clear BX; intro gb223 w140 GE223 BX) | ((with_reducible refine gate_callee (f := 33) rfl ?_); refine goesL_ (some 102) rfl rfl Tryd.func33 kr rfl #[.agg #[.int .i64 a1_0, .int .i64 a1_1], .agg #[.int .i64 a2_0, .int .i64 a2_1]] rfl ga ?_; (with_reducible refine (num_Add.calls kj81 a1_0 a1_1 a2_0 a2_1 t224 t225 t226 _ A123.out).mono ?_); rintro e w155 ⟨rfl, hb⟩; refine ⟨_, rfl, ?_⟩; replace BX := bx_call hb; clear hb) | ((with_reducible refine gate_dst (N := 17) rfl ?_); refine bxe 17 #[.int .i64 0, .int .i64 0] 23 rfl rfl gr ?_; clear BX; intro gb227 w156 GE227 BX) | ((with_reducible refine gate_callee (f := 33) rfl ?_); refine goesL_ (some 108) rfl rfl Tryd.func33 kr rfl #[.agg #[.int .i64 a0_0, .int .i64 a0_1], .agg #[.int .i64 t224, .int .i64 t225]] rfl ga ?_; (with_reducible refine (num_Add.calls kj81 a0_0 a0_1 t224 t225 t228 t229 t230 _ A124.out).mono ?_); rintro e w170 ⟨rfl, hb⟩; refine ⟨_, rfl, ?_⟩; replace BX := bx_call hb; clear hb) | ((with_reducible refine gate_dst (N := 19) rfl ?_); refine bxe 19 #[.int .i64 0, .int .i64 0] 23 rfl rfl gr ?_; clear BX; intro gb231 w171 GE231 BX))
       (try simp only [Act.put, List.setIfInBounds_toArray, List.set_cons_zero, List.set_cons_succ])
       go_cut [125] (fun v125 wc => ∃ (kq : Nat) (x125_124 : Bool), v125 = .bool x125_124 ∧ Aside0 (whittlelaw1_NumGroups.j2 kq t210 t226 x125_124 a0_0 a0_1 a1_0 a1_1 a2_0 a2_1 t208 t209 t224 t225 = some r) ∧ Aside0 (kq ≤ kj81) ∧ Bx w wc [(gb231, 23, #[.int .i64 t228, .int .i64 t229]), (gb227, 23, #[.int .i64 t224, .int .i64 t225]), (gb223, 23, #[.int .i64 t220, .int .i64 t221]), (gb215, 23, #[.int .i64 t212, .int .i64 t213]), (gb211, 23, #[.int .i64 t208, .int .i64 t209]), (gb207, 23, #[.int .i64 t204, .int .i64 t205]), (gb203, 23, #[.int .i64 t200, .int .i64 t201]), (gb199, 23, #[.int .i64 a2_0, .int .i64 a2_1]), (gb198, 23, #[.int .i64 a1_0, .int .i64 a1_1]), (gb197, 23, #[.int .i64 a0_0, .int .i64 a0_1])])
       case first => as_aux_lemma =>
        have H := HC125.out
        clear HC125
        by_cases c182 : t202 = true
        ·subst c182
         have H1 : (if t222 = true then (if t226 = true then (if t230 = true then (whittlelaw1_NumGroups.j2 kj81 t210 t226 (!(t220 == t228) || (!(t221 == t229))) a0_0 a0_1 a1_0 a1_1 a2_0 a2_1 t208 t209 t224 t225) else (whittlelaw1_NumGroups.j2 kj81 t210 t226 false a0_0 a0_1 a1_0 a1_1 a2_0 a2_1 t208 t209 t224 t225)) else (whittlelaw1_NumGroups.j2 kj81 t210 t226 false a0_0 a0_1 a1_0 a1_1 a2_0 a2_1 t208 t209 t224 t225)) else (whittlelaw1_NumGroups.j2 kj81 t210 t226 false a0_0 a0_1 a1_0 a1_1 a2_0 a2_1 t208 t209 t224 t225)) = some r := by rw [if_pos rfl] at H; exact H
         clear H
         have H := H1
         clear H1
         by_cases c183 : t222 = true
         ·subst c183
          have H1 : (if t226 = true then (if t230 = true then (whittlelaw1_NumGroups.j2 kj81 t210 t226 (!(t220 == t228) || (!(t221 == t229))) a0_0 a0_1 a1_0 a1_1 a2_0 a2_1 t208 t209 t224 t225) else (whittlelaw1_NumGroups.j2 kj81 t210 t226 false a0_0 a0_1 a1_0 a1_1 a2_0 a2_1 t208 t209 t224 t225)) else (whittlelaw1_NumGroups.j2 kj81 t210 t226 false a0_0 a0_1 a1_0 a1_1 a2_0 a2_1 t208 t209 t224 t225)) = some r := by rw [if_pos rfl] at H; exact H
          clear H
          have H := H1
          clear H1
          by_cases c184 : t226 = true
          ·subst c184
           have H1 : (if t230 = true then (whittlelaw1_NumGroups.j2 kj81 t210 true (!(t220 == t228) || (!(t221 == t229))) a0_0 a0_1 a1_0 a1_1 a2_0 a2_1 t208 t209 t224 t225) else (whittlelaw1_NumGroups.j2 kj81 t210 true false a0_0 a0_1 a1_0 a1_1 a2_0 a2_1 t208 t209 t224 t225)) = some r := by rw [if_pos rfl] at H; exact H
           clear H
           have H := H1
           clear H1
           by_cases c185 : t230 = true
           ·subst c185
            have H1 : (whittlelaw1_NumGroups.j2 kj81 t210 true (!(t220 == t228) || (!(t221 == t229))) a0_0 a0_1 a1_0 a1_1 a2_0 a2_1 t208 t209 t224 t225) = some r := by rw [if_pos rfl] at H; exact H
            clear H
            have H := H1
            clear H1
            have H' := Aside0.mk H
            clear H
            go_wp2
            go_meet
            case rel => exact ⟨_, ((!(t220 == t228) || (!(t221 == t229)))), er, H', ⟨by have := HJ7.out; have := HJ81.out; first | omega | exact Nat.le_refl _⟩, bxs⟩
           ·replace c185 := Bool.eq_false_iff.mpr c185
            subst c185
            have H1 : (whittlelaw1_NumGroups.j2 kj81 t210 true false a0_0 a0_1 a1_0 a1_1 a2_0 a2_1 t208 t209 t224 t225) = some r := by rw [if_neg (show ¬ (false = true) by decide)] at H; exact H
            clear H
            have H := H1
            clear H1
            have H' := Aside0.mk H
            clear H
            go_wp2
            go_meet
            case rel => exact ⟨_, (false), er, H', ⟨by have := HJ7.out; have := HJ81.out; first | omega | exact Nat.le_refl _⟩, bxs⟩
          ·replace c184 := Bool.eq_false_iff.mpr c184
           subst c184
           have H1 : (whittlelaw1_NumGroups.j2 kj81 t210 false false a0_0 a0_1 a1_0 a1_1 a2_0 a2_1 t208 t209 t224 t225) = some r := by rw [if_neg (show ¬ (false = true) by decide)] at H; exact H
           clear H
           have H := H1
           clear H1
           have H' := Aside0.mk H
           clear H
           go_wp2
           go_meet
           case rel => exact ⟨_, (false), er, H', ⟨by have := HJ7.out; have := HJ81.out; first | omega | exact Nat.le_refl _⟩, bxs⟩
         ·replace c183 := Bool.eq_false_iff.mpr c183
          subst c183
          have H1 : (whittlelaw1_NumGroups.j2 kj81 t210 t226 false a0_0 a0_1 a1_0 a1_1 a2_0 a2_1 t208 t209 t224 t225) = some r := by rw [if_neg (show ¬ (false = true) by decide)] at H; exact H
          clear H
          have H := H1
          clear H1
          have H' := Aside0.mk H
          clear H
          go_wp2
          go_meet
          case rel => exact ⟨_, (false), er, H', ⟨by have := HJ7.out; have := HJ81.out; first | omega | exact Nat.le_refl _⟩, bxs⟩
        ·replace c182 := Bool.eq_false_iff.mpr c182
         subst c182
         have H1 : (whittlelaw1_NumGroups.j2 kj81 t210 t226 false a0_0 a0_1 a1_0 a1_1 a2_0 a2_1 t208 t209 t224 t225) = some r := by rw [if_neg (show ¬ (false = true) by decide)] at H; exact H
         clear H
         have H := H1
         clear H1
         have H' := Aside0.mk H
         clear H
         go_wp2
         go_meet
         case rel => exact ⟨_, (false), er, H', ⟨by have := HJ7.out; have := HJ81.out; first | omega | exact Nat.le_refl _⟩, bxs⟩
       case rest => as_aux_lemma =>
        clear HC125
        try clear c1
        try clear c2
        try clear p2
        try clear c3
        try clear c4
        try clear c5
        try clear c6
        try clear c7
        try clear c8
        try clear c9
        try clear c10
        try clear c11
        try clear c12
        try clear c13
        try clear c14
        try clear c15
        try clear c16
        try clear c17
        try clear c18
        try clear c19
        try clear c20
        try clear c21
        try clear c27
        try clear c28
        try clear c29
        try clear c30
        try clear c33
        try clear c36
        try clear c37
        try clear c38
        try clear c39
        try clear c40
        try clear c46
        try clear c47
        try clear c48
        try clear c49
        try clear c50
        try clear c51
        try clear c53
        try clear c53b0
        try clear c54
        try clear c54b0
        try clear c54b1
        try clear c54b2
        try clear c55
        try clear c55b0
        try clear c56
        try clear c56b0
        try clear c56b1
        try clear c56b2
        try clear c58
        try clear c59
        try clear c60
        try clear c61
        try clear c62
        try clear c63
        try clear c65
        try clear c66
        try clear c67
        try clear c68
        try clear c69
        try clear c71
        try clear c72
        try clear c73
        try clear c74
        try clear c76
        try clear c77
        try clear c78
        try clear c81
        try clear c83
        try clear c85
        try clear c86
        try clear c88
        try clear c89
        try clear c90
        try clear c91
        try clear c92
        try clear c93
        try clear c96
        try clear c97
        try clear c98
        try clear c99
        try clear c100
        try clear c103
        try clear c104
        try clear c105
        try clear c106
        try clear c107
        try clear c108
        try clear c111
        try clear c113
        try clear c114
        try clear c115
        try clear c116
        try clear c117
        try clear c118
        try clear c121
        try clear c126
        try clear c127
        try clear c128
        try clear c129
        try clear c130
        try clear c131
        try clear c133
        try clear c134
        try clear c135
        try clear c136
        try clear c137
        try clear c141
        try clear c142
        try clear c143
        try clear c144
        try clear c145
        try clear c146
        try clear c147
        try clear c149
        try clear c150
        try clear c151
        try clear c152
        try clear c157
        try clear c158
        try clear c159
        try clear c160
        try clear c161
        try clear c162
        try clear c163
        try clear c164
        try clear c166
        try clear c167
        try clear c168
        try clear c172
        try clear c173
        try clear c174
        try clear c175
        try clear c176
        try clear c177
        try clear c178
        try clear c179
        try clear c180
        try clear c182
        try clear c183
        try clear c184
        try clear c185
        try clear c186
        try clear c187
        try clear c188
        try clear c189
        try clear c190
        try clear c191
        try clear c192
        try clear c193
        try clear c194
        try clear c196
        try clear c197
        try clear c198
        try clear c199
        try clear c200
        try clear c201
        try clear c202
        try clear c203
        try clear p2
        obtain ⟨kq, x125_124, rfl, HA, HJ124, BX⟩ := hcut
        cases kq with
        | zero => exact absurd HA.out (by simp [whittlelaw1_NumGroups.j2])
        | succ kj124 =>
         have H := HA.out
         clear HA
         simp only [whittlelaw1_NumGroups.j2] at H
         by_cases c205 : x125_124 = true
         ·subst c205
          have H1 : (some false) = some r := by rw [if_pos rfl] at H; exact H
          clear H
          have H := H1
          clear H1
          exact absurd (Option.some.inj H) (by rw [HR.out]; decide)
         ·replace c205 := Bool.eq_false_iff.mpr c205
          subst c205
          have H1 : ((num_Mul.f kj124 t208 t209 a2_0 a2_1).bind fun bt232 => ((num_Mul.f kj124 a1_0 a1_1 a2_0 a2_1).bind fun bt236 => ((num_Mul.f kj124 a0_0 a0_1 bt236.1 bt236.2.1).bind fun bt240 => (if t210 = true then (if bt232.2.2 = true then (if bt236.2.2 = true then (if bt240.2.2 = true then (whittlelaw1_NumGroups.j3 kj124 t210 t226 (!(bt232.1 == bt240.1) || (!(bt232.2.1 == bt240.2.1))) a0_0 a0_1 a2_0 a2_1 t208 t209 t224 t225) else (whittlelaw1_NumGroups.j3 kj124 t210 t226 false a0_0 a0_1 a2_0 a2_1 t208 t209 t224 t225)) else (whittlelaw1_NumGroups.j3 kj124 t210 t226 false a0_0 a0_1 a2_0 a2_1 t208 t209 t224 t225)) else (whittlelaw1_NumGroups.j3 kj124 t210 t226 false a0_0 a0_1 a2_0 a2_1 t208 t209 t224 t225)) else (whittlelaw1_NumGroups.j3 kj124 t210 t226 false a0_0 a0_1 a2_0 a2_1 t208 t209 t224 t225))))) = some r := by rw [if_neg (show ¬ (false = true) by decide)] at H; exact H
          clear H
          have H := H1
          clear H1
          replace H := Option.bind_eq_some_iff.mp H
          obtain ⟨⟨t232, t233, t234⟩, A2060, H⟩ := H
          have A206 := Aside0.mk A2060
          clear A2060
          replace H := Option.bind_eq_some_iff.mp H
          obtain ⟨⟨t236, t237, t238⟩, A2070, H⟩ := H
          have A207 := Aside0.mk A2070
          clear A2070
          replace H := Option.bind_eq_some_iff.mp H
          obtain ⟨⟨t240, t241, t242⟩, A2080, H⟩ := H
          replace H : (if t210 = true then (if t234 = true then (if t238 = true then (if t242 = true then (whittlelaw1_NumGroups.j3 kj124 t210 t226 (!(t232 == t240) || (!(t233 == t241))) a0_0 a0_1 a2_0 a2_1 t208 t209 t224 t225) else (whittlelaw1_NumGroups.j3 kj124 t210 t226 false a0_0 a0_1 a2_0 a2_1 t208 t209 t224 t225)) else (whittlelaw1_NumGroups.j3 kj124 t210 t226 false a0_0 a0_1 a2_0 a2_1 t208 t209 t224 t225)) else (whittlelaw1_NumGroups.j3 kj124 t210 t226 false a0_0 a0_1 a2_0 a2_1 t208 t209 t224 t225)) else (whittlelaw1_NumGroups.j3 kj124 t210 t226 false a0_0 a0_1 a2_0 a2_1 t208 t209 t224 t225)) = some r := H
          have A208 := Aside0.mk A2080
          clear A2080
          have HC209 := Aside0.mk H
          clear H
          go_upto_region 17 with (first | ((with_reducible refine gate_callee (f := 39) rfl ?_); refine goesL_ (some 129) rfl rfl Tryd.func39 kr rfl #[.agg #[.int .i64 t208, .int .i64 t209], .agg #[.int .i64 a2_0, .int .i64 a2_1]] rfl ga ?_; (with_reducible refine (num_Mul.calls kj124 t208 t209 a2_0 a2_1 t232 t233 t234 _ A206.out).mono ?_); rintro e w229 ⟨rfl, hb⟩; refine ⟨_, rfl, ?_⟩; replace BX := bx_call hb; clear hb) | ((with_reducible refine gate_dst (N := 21) rfl ?_); refine bxe 21 #[.int .i64 0, .int .i64 0] 23 rfl rfl gr ?_; clear BX; intro gb235 w230 GE235 BX) | ((with_reducible refine gate_callee (f := 39) rfl ?_); refine goesL_ (some 135) rfl rfl Tryd.func39 kr rfl #[.agg #[.int .i64 a1_0, .int .i64 a1_1], .agg #[.int .i64 a2_0, .int .i64 a2_1]] rfl ga ?_; (with_reducible refine (num_Mul.calls kj124 a1_0 a1_1 a2_0 a2_1 t236 t237 t238 _ A207.out).mono ?_); rintro e w251 ⟨rfl, hb⟩; refine ⟨_, rfl, ?_⟩; replace BX := bx_call hb; clear hb) | ((with_reducible refine gate_dst (N := 23) rfl ?_); refine bxe 23 #[.int .i64 0, .int .i64 0] 23 rfl rfl gr ?_; clear BX; intro gb239 w252 GE239 BX) | ((with_reducible refine gate_callee (f := 39) rfl ?_); refine goesL_ (some 141) rfl rfl Tryd.func39 kr rfl #[.agg #[.int .i64 a0_0, .int .i64 a0_1], .agg #[.int .i64 t236, .int .i64 t237]] rfl ga ?_; (with_reducible refine (num_Mul.calls kj124 a0_0 a0_1 t236 t237 t240 t241 t242 _ A208.out).mono ?_); rintro e w272 ⟨rfl, hb⟩; refine ⟨_, rfl, ?_⟩; replace BX := bx_call hb; clear hb) | ((with_reducible refine gate_dst (N := 25) rfl ?_); refine bxe 25 #[.int .i64 0, .int .i64 0] 23 rfl rfl gr ?_; clear BX; intro gb243 w273 GE243 BX))
          (try simp only [Act.put, List.setIfInBounds_toArray, List.set_cons_zero, List.set_cons_succ])
          go_cut [158] (fun v158 wc => ∃ (kq : Nat) (x158_208 : Bool), v158 = .bool x158_208 ∧ Aside0 (whittlelaw1_NumGroups.j3 kq t210 t226 x158_208 a0_0 a0_1 a2_0 a2_1 t208 t209 t224 t225 = some r) ∧ Aside0 (kq ≤ kj124) ∧ Bx w wc [(gb243, 23, #[.int .i64 t240, .int .i64 t241]), (gb239, 23, #[.int .i64 t236, .int .i64 t237]), (gb235, 23, #[.int .i64 t232, .int .i64 t233]), (gb231, 23, #[.int .i64 t228, .int .i64 t229]), (gb227, 23, #[.int .i64 t224, .int .i64 t225]), (gb223, 23, #[.int .i64 t220, .int .i64 t221]), (gb215, 23, #[.int .i64 t212, .int .i64 t213]), (gb211, 23, #[.int .i64 t208, .int .i64 t209]), (gb207, 23, #[.int .i64 t204, .int .i64 t205]), (gb203, 23, #[.int .i64 t200, .int .i64 t201]), (gb199, 23, #[.int .i64 a2_0, .int .i64 a2_1]), (gb198, 23, #[.int .i64 a1_0, .int .i64 a1_1]), (gb197, 23, #[.int .i64 a0_0, .int .i64 a0_1])])
          case first => as_aux_lemma =>
           have H := HC209.out
           clear HC209
           by_cases c287 : t210 = true
           ·subst c287
            have H1 : (if t234 = true then (if t238 = true then (if t242 = true then (whittlelaw1_NumGroups.j3 kj124 true t226 (!(t232 == t240) || (!(t233 == t241))) a0_0 a0_1 a2_0 a2_1 t208 t209 t224 t225) else (whittlelaw1_NumGroups.j3 kj124 true t226 false a0_0 a0_1 a2_0 a2_1 t208 t209 t224 t225)) else (whittlelaw1_NumGroups.j3 kj124 true t226 false a0_0 a0_1 a2_0 a2_1 t208 t209 t224 t225)) else (whittlelaw1_NumGroups.j3 kj124 true t226 false a0_0 a0_1 a2_0 a2_1 t208 t209 t224 t225)) = some r := by rw [if_pos rfl] at H; exact H
            clear H
            have H := H1
            clear H1
            by_cases c288 : t234 = true
            ·subst c288
             have H1 : (if t238 = true then (if t242 = true then (whittlelaw1_NumGroups.j3 kj124 true t226 (!(t232 == t240) || (!(t233 == t241))) a0_0 a0_1 a2_0 a2_1 t208 t209 t224 t225) else (whittlelaw1_NumGroups.j3 kj124 true t226 false a0_0 a0_1 a2_0 a2_1 t208 t209 t224 t225)) else (whittlelaw1_NumGroups.j3 kj124 true t226 false a0_0 a0_1 a2_0 a2_1 t208 t209 t224 t225)) = some r := by rw [if_pos rfl] at H; exact H
             clear H
             have H := H1
             clear H1
             by_cases c289 : t238 = true
             ·subst c289
              have H1 : (if t242 = true then (whittlelaw1_NumGroups.j3 kj124 true t226 (!(t232 == t240) || (!(t233 == t241))) a0_0 a0_1 a2_0 a2_1 t208 t209 t224 t225) else (whittlelaw1_NumGroups.j3 kj124 true t226 false a0_0 a0_1 a2_0 a2_1 t208 t209 t224 t225)) = some r := by rw [if_pos rfl] at H; exact H
              clear H
              have H := H1
              clear H1
              by_cases c290 : t242 = true
              ·subst c290
               have H1 : (whittlelaw1_NumGroups.j3 kj124 true t226 (!(t232 == t240) || (!(t233 == t241))) a0_0 a0_1 a2_0 a2_1 t208 t209 t224 t225) = some r := by rw [if_pos rfl] at H; exact H
               clear H
               have H := H1
               clear H1
               have H' := Aside0.mk H
               clear H
               go_wp2
               go_meet
               case rel => exact ⟨_, ((!(t232 == t240) || (!(t233 == t241)))), er, H', ⟨by have := HJ7.out; have := HJ81.out; have := HJ124.out; first | omega | exact Nat.le_refl _⟩, bxs⟩
              ·replace c290 := Bool.eq_false_iff.mpr c290
               subst c290
               have H1 : (whittlelaw1_NumGroups.j3 kj124 true t226 false a0_0 a0_1 a2_0 a2_1 t208 t209 t224 t225) = some r := by rw [if_neg (show ¬ (false = true) by decide)] at H; exact H
               clear H
               have H := H1
               clear H1
               have H' := Aside0.mk H
               clear H
               go_wp2
               go_meet
               case rel => exact ⟨_, (false), er, H', ⟨by have := HJ7.out; have := HJ81.out; have := HJ124.out; first | omega | exact Nat.le_refl _⟩, bxs⟩
             ·replace c289 := Bool.eq_false_iff.mpr c289
              subst c289
              have H1 : (whittlelaw1_NumGroups.j3 kj124 true t226 false a0_0 a0_1 a2_0 a2_1 t208 t209 t224 t225) = some r := by rw [if_neg (show ¬ (false = true) by decide)] at H; exact H
              clear H
              have H := H1
              clear H1
              have H' := Aside0.mk H
              clear H
              go_wp2
              go_meet
              case rel => exact ⟨_, (false), er, H', ⟨by have := HJ7.out; have := HJ81.out; have := HJ124.out; first | omega | exact Nat.le_refl _⟩, bxs⟩
            ·replace c288 := Bool.eq_false_iff.mpr c288
             subst c288
             have H1 : (whittlelaw1_NumGroups.j3 kj124 true t226 false a0_0 a0_1 a2_0 a2_1 t208 t209 t224 t225) = some r := by rw [if_neg (show ¬ (false = true) by decide)] at H; exact H
             clear H
             have H := H1
             clear H1
             have H' := Aside0.mk H
             clear H
             go_wp2
             go_meet
             case rel => exact ⟨_, (false), er, H', ⟨by have := HJ7.out; have := HJ81.out; have := HJ124.out; first | omega | exact Nat.le_refl _⟩, bxs⟩
           ·replace c287 := Bool.eq_false_iff.mpr c287
            subst c287
            have H1 : (whittlelaw1_NumGroups.j3 kj124 false t226 false a0_0 a0_1 a2_0 a2_1 t208 t209 t224 t225) = some r := by rw [if_neg (show ¬ (false = true) by decide)] at H; exact H
            clear H
            have H := H1
            clear H1
            have H' := Aside0.mk H
            clear H
            go_wp2
            go_meet
            case rel => exact ⟨_, (false), er, H', ⟨by have := HJ7.out; have := HJ81.out; have := HJ124.out; first | omega | exact Nat.le_refl _⟩, bxs⟩
          case rest => as_aux_lemma =>
           clear HC209
           try clear c1
           try clear c2
           try clear p2
           try clear c3
           try clear c4
           try clear c5
           try clear c6
           try clear c7
           try clear c8
           try clear c9
           try clear c10
           try clear c11
           try clear c12
           try clear c13
           try clear c14
           try clear c15
           try clear c16
           try clear c17
           try clear c18
           try clear c19
           try clear c20
           try clear c21
           try clear c22
           try clear c23
           try clear c24
           try clear c25
           try clear c26
           try clear c27
           try clear c28
           try clear c29
           try clear c30
           try clear c31
           try clear c33
           try clear c36
           try clear c37
           try clear c38
           try clear c39
           try clear c40
           try clear c46
           try clear c47
           try clear c48
           try clear c49
           try clear c50
           try clear c51
           try clear c53
           try clear c53b0
           try clear c54
           try clear c54b0
           try clear c54b1
           try clear c54b2
           try clear c55
           try clear c55b0
           try clear c56
           try clear c56b0
           try clear c56b1
           try clear c56b2
           try clear c58
           try clear c59
           try clear c60
           try clear c61
           try clear c62
           try clear c63
           try clear c65
           try clear c66
           try clear c67
           try clear c68
           try clear c69
           try clear c71
           try clear c72
           try clear c73
           try clear c74
           try clear c76
           try clear c77
           try clear c78
           try clear c81
           try clear c83
           try clear c85
           try clear c86
           try clear c88
           try clear c89
           try clear c90
           try clear c91
           try clear c92
           try clear c93
           try clear c96
           try clear c97
           try clear c98
           try clear c99
           try clear c100
           try clear c103
           try clear c104
           try clear c105
           try clear c106
           try clear c107
           try clear c108
           try clear c111
           try clear c113
           try clear c114
           try clear c115
           try clear c116
           try clear c117
           try clear c118
           try clear c121
           try clear c126
           try clear c127
           try clear c128
           try clear c129
           try clear c130
           try clear c131
           try clear c133
           try clear c134
           try clear c135
           try clear c136
           try clear c137
           try clear c141
           try clear c142
           try clear c143
           try clear c144
           try clear c145
           try clear c146
           try clear c147
           try clear c149
           try clear c150
           try clear c151
           try clear c152
           try clear c157
           try clear c158
           try clear c159
           try clear c160
           try clear c161
           try clear c162
           try clear c163
           try clear c164
           try clear c166
           try clear c167
           try clear c168
           try clear c172
           try clear c173
           try clear c174
           try clear c175
           try clear c176
           try clear c177
           try clear c178
           try clear c179
           try clear c180
           try clear c182
           try clear c183
           try clear c184
           try clear c185
           try clear c186
           try clear c187
           try clear c188
           try clear c189
           try clear c190
           try clear c191
           try clear c192
           try clear c193
           try clear c194
           try clear c196
           try clear c197
           try clear c198
           try clear c199
           try clear c200
           try clear c201
           try clear c202
           try clear c203
           try clear c205
           try clear c210
           try clear c211
           try clear c212
           try clear c213
           try clear c214
           try clear c215
           try clear c216
           try clear c217
           try clear c218
           try clear c220
           try clear c221
           try clear c222
           try clear c223
           try clear c224
           try clear c225
           try clear c226
           try clear c227
           try clear c231
           try clear c232
           try clear c233
           try clear c234
           try clear c235
           try clear c236
           try clear c237
           try clear c238
           try clear c239
           try clear c240
           try clear c242
           try clear c243
           try clear c244
           try clear c245
           try clear c246
           try clear c247
           try clear c248
           try clear c253
           try clear c254
           try clear c255
           try clear c256
           try clear c257
           try clear c258
           try clear c259
           try clear c260
           try clear c261
           try clear c262
           try clear c263
           try clear c265
           try clear c266
           try clear c267
           try clear c268
           try clear c269
           try clear c270
           try clear c274
           try clear c275
           try clear c276
           try clear c277
           try clear c278
           try clear c279
           try clear c280
           try clear c281
           try clear c282
           try clear c283
           try clear c284
           try clear c285
           try clear c287
           try clear c288
           try clear c289
           try clear c290
           try clear c291
           try clear c292
           try clear c293
           try clear c294
           try clear c295
           try clear c296
           try clear c297
           try clear c298
           try clear c299
           try clear c300
           try clear c301
           try clear c302
           try clear c304
           try clear c305
           try clear c306
           try clear c307
           try clear c308
           try clear c309
           try clear c310
           try clear c311
           try clear c312
           try clear c313
           try clear c314
           try clear p2
           obtain ⟨kq, x158_208, rfl, HA, HJ208, BX⟩ := hcut
           cases kq with
           | zero => exact absurd HA.out (by simp [whittlelaw1_NumGroups.j3])
           | succ kj208 =>
            have H := HA.out
            clear HA
            simp only [whittlelaw1_NumGroups.j3] at H
            by_cases c316 : x158_208 = true
            ·subst c316
             have H1 : (some false) = some r := by rw [if_pos rfl] at H; exact H
             clear H
             have H := H1
             clear H1
             exact absurd (Option.some.inj H) (by rw [HR.out]; decide)
            ·replace c316 := Bool.eq_false_iff.mpr c316
             subst c316
             have H1 : ((num_Mul.f kj208 a0_0 a0_1 t224 t225).bind fun bt244 => ((num_Mul.f kj208 a0_0 a0_1 a2_0 a2_1).bind fun bt248 => ((num_Add.f kj208 t208 t209 bt248.1 bt248.2.1).bind fun bt252 => (if t226 = true then (if bt244.2.2 = true then (if t210 = true then (if bt248.2.2 = true then (if bt252.2.2 = true then (some (bt244.1 == bt252.1 && (bt244.2.1 == bt252.2.1))) else (some true)) else (some true)) else (some true)) else (some true)) else (some true))))) = some r := by rw [if_neg (show ¬ (false = true) by decide)] at H; exact H
             clear H
             have H := H1
             clear H1
             replace H := Option.bind_eq_some_iff.mp H
             obtain ⟨⟨t244, t245, t246⟩, A3170, H⟩ := H
             have A317 := Aside0.mk A3170
             clear A3170
             replace H := Option.bind_eq_some_iff.mp H
             obtain ⟨⟨t248, t249, t250⟩, A3180, H⟩ := H
             have A318 := Aside0.mk A3180
             clear A3180
             replace H := Option.bind_eq_some_iff.mp H
             obtain ⟨⟨t252, t253, t254⟩, A3190, H⟩ := H
             replace H : (if t226 = true then (if t246 = true then (if t210 = true then (if t250 = true then (if t254 = true then (some (t244 == t252 && (t245 == t253))) else (some true)) else (some true)) else (some true)) else (some true)) else (some true)) = some r := H
             have A319 := Aside0.mk A3190
             clear A3190
             by_cases c320 : t226 = true
             ·subst c320
              have H1 : (if t246 = true then (if t210 = true then (if t250 = true then (if t254 = true then (some (t244 == t252 && (t245 == t253))) else (some true)) else (some true)) else (some true)) else (some true)) = some r := by rw [if_pos rfl] at H; exact H
              clear H
              have H := H1
              clear H1
              by_cases c321 : t246 = true
              ·subst c321
               have H1 : (if t210 = true then (if t250 = true then (if t254 = true then (some (t244 == t252 && (t245 == t253))) else (some true)) else (some true)) else (some true)) = some r := by rw [if_pos rfl] at H; exact H
               clear H
               have H := H1
               clear H1
               by_cases c322 : t210 = true
               ·subst c322
                have H1 : (if t250 = true then (if t254 = true then (some (t244 == t252 && (t245 == t253))) else (some true)) else (some true)) = some r := by rw [if_pos rfl] at H; exact H
                clear H
                have H := H1
                clear H1
                by_cases c323 : t250 = true
                ·subst c323
                 have H1 : (if t254 = true then (some (t244 == t252 && (t245 == t253))) else (some true)) = some r := by rw [if_pos rfl] at H; exact H
                 clear H
                 have H := H1
                 clear H1
                 by_cases c324 : t254 = true
                 ·subst c324
                  have H1 : (some (t244 == t252 && (t245 == t253))) = some r := by rw [if_pos rfl] at H; exact H
                  clear H
                  have H := H1
                  clear H1
                  clear HR
                  obtain rfl := Option.some.inj H
                  go_wp2_with (first | ((with_reducible refine gate_callee (f := 39) rfl ?_); refine goesL_ (some 162) rfl rfl Tryd.func39 kr rfl #[.agg #[.int .i64 a0_0, .int .i64 a0_1], .agg #[.int .i64 t224, .int .i64 t225]] rfl ga ?_; (with_reducible refine (num_Mul.calls kj208 a0_0 a0_1 t224 t225 t244 t245 true _ A317.out).mono ?_); rintro e w350 ⟨rfl, hb⟩; refine ⟨_, rfl, ?_⟩; replace BX := bx_call hb; clear hb) | ((with_reducible refine gate_dst (N := 27) rfl ?_); refine bxe 27 #[.int .i64 0, .int .i64 0] 23 rfl rfl gr ?_; clear BX; intro gb247 w351 GE247 BX) | ((with_reducible refine gate_callee (f := 39) rfl ?_); refine goesL_ (some 168) rfl rfl Tryd.func39 kr rfl #[.agg #[.int .i64 a0_0, .int .i64 a0_1], .agg #[.int .i64 a2_0, .int .i64 a2_1]] rfl ga ?_; (with_reducible refine (num_Mul.calls kj208 a0_0 a0_1 a2_0 a2_1 t248 t249 true _ A318.out).mono ?_); rintro e w378 ⟨rfl, hb⟩; refine ⟨_, rfl, ?_⟩; replace BX := bx_call hb; clear hb) | ((with_reducible refine gate_dst (N := 29) rfl ?_); refine bxe 29 #[.int .i64 0, .int .i64 0] 23 rfl rfl gr ?_; clear BX; intro gb251 w379 GE251 BX) | ((with_reducible refine gate_callee (f := 33) rfl ?_); refine goesL_ (some 174) rfl rfl Tryd.func33 kr rfl #[.agg #[.int .i64 t208, .int .i64 t209], .agg #[.int .i64 t248, .int .i64 t249]] rfl ga ?_; (with_reducible refine (num_Add.calls kj208 t208 t209 t248 t249 t252 t253 true _ A319.out).mono ?_); rintro e w405 ⟨rfl, hb⟩; refine ⟨_, rfl, ?_⟩; replace BX := bx_call hb; clear hb) | ((with_reducible refine gate_dst (N := 31) rfl ?_); refine bxe 31 #[.int .i64 0, .int .i64 0] 23 rfl rfl gr ?_; clear BX; intro gb255 w406 GE255 BX))
                  go_ret
                  exact ⟨er2, bx_bl⟩
                 ·replace c324 := Bool.eq_false_iff.mpr c324
                  subst c324
                  have H1 : (some true) = some r := by rw [if_neg (show ¬ (false = true) by decide)] at H; exact H
                  clear H
                  have H := H1
                  clear H1
                  clear HR
                  obtain rfl := Option.some.inj H
                  go_wp2_with (first | ((with_reducible refine gate_callee (f := 39) rfl ?_); refine goesL_ (some 162) rfl rfl Tryd.func39 kr rfl #[.agg #[.int .i64 a0_0, .int .i64 a0_1], .agg #[.int .i64 t224, .int .i64 t225]] rfl ga ?_; (with_reducible refine (num_Mul.calls kj208 a0_0 a0_1 t224 t225 t244 t245 true _ A317.out).mono ?_); rintro e w449 ⟨rfl, hb⟩; refine ⟨_, rfl, ?_⟩; replace BX := bx_call hb; clear hb) | ((with_reducible refine gate_dst (N := 27) rfl ?_); refine bxe 27 #[.int .i64 0, .int .i64 0] 23 rfl rfl gr ?_; clear BX; intro gb247 w450 GE247 BX) | ((with_reducible refine gate_callee (f := 39) rfl ?_); refine goesL_ (some 168) rfl rfl Tryd.func39 kr rfl #[.agg #[.int .i64 a0_0, .int .i64 a0_1], .agg #[.int .i64 a2_0, .int .i64 a2_1]] rfl ga ?_; (with_reducible refine (num_Mul.calls kj208 a0_0 a0_1 a2_0 a2_1 t248 t249 true _ A318.out).mono ?_); rintro e w477 ⟨rfl, hb⟩; refine ⟨_, rfl, ?_⟩; replace BX := bx_call hb; clear hb) | ((with_reducible refine gate_dst (N := 29) rfl ?_); refine bxe 29 #[.int .i64 0, .int .i64 0] 23 rfl rfl gr ?_; clear BX; intro gb251 w478 GE251 BX) | ((with_reducible refine gate_callee (f := 33) rfl ?_); refine goesL_ (some 174) rfl rfl Tryd.func33 kr rfl #[.agg #[.int .i64 t208, .int .i64 t209], .agg #[.int .i64 t248, .int .i64 t249]] rfl ga ?_; (with_reducible refine (num_Add.calls kj208 t208 t209 t248 t249 t252 t253 false _ A319.out).mono ?_); rintro e w504 ⟨rfl, hb⟩; refine ⟨_, rfl, ?_⟩; replace BX := bx_call hb; clear hb) | ((with_reducible refine gate_dst (N := 31) rfl ?_); refine bxe 31 #[.int .i64 0, .int .i64 0] 23 rfl rfl gr ?_; clear BX; intro gb255 w505 GE255 BX))
                  go_ret
                  exact ⟨er2, bx_bl⟩
                ·replace c323 := Bool.eq_false_iff.mpr c323
                 subst c323
                 have H1 : (some true) = some r := by rw [if_neg (show ¬ (false = true) by decide)] at H; exact H
                 clear H
                 have H := H1
                 clear H1
                 clear HR
                 obtain rfl := Option.some.inj H
                 go_wp2_with (first | ((with_reducible refine gate_callee (f := 39) rfl ?_); refine goesL_ (some 162) rfl rfl Tryd.func39 kr rfl #[.agg #[.int .i64 a0_0, .int .i64 a0_1], .agg #[.int .i64 t224, .int .i64 t225]] rfl ga ?_; (with_reducible refine (num_Mul.calls kj208 a0_0 a0_1 t224 t225 t244 t245 true _ A317.out).mono ?_); rintro e w547 ⟨rfl, hb⟩; refine ⟨_, rfl, ?_⟩; replace BX := bx_call hb; clear hb) | ((with_reducible refine gate_dst (N := 27) rfl ?_); refine bxe 27 #[.int .i64 0, .int .i64 0] 23 rfl rfl gr ?_; clear BX; intro gb247 w548 GE247 BX) | ((with_reducible refine gate_callee (f := 39) rfl ?_); refine goesL_ (some 168) rfl rfl Tryd.func39 kr rfl #[.agg #[.int .i64 a0_0, .int .i64 a0_1], .agg #[.int .i64 a2_0, .int .i64 a2_1]] rfl ga ?_; (with_reducible refine (num_Mul.calls kj208 a0_0 a0_1 a2_0 a2_1 t248 t249 false _ A318.out).mono ?_); rintro e w575 ⟨rfl, hb⟩; refine ⟨_, rfl, ?_⟩; replace BX := bx_call hb; clear hb) | ((with_reducible refine gate_dst (N := 29) rfl ?_); refine bxe 29 #[.int .i64 0, .int .i64 0] 23 rfl rfl gr ?_; clear BX; intro gb251 w576 GE251 BX) | ((with_reducible refine gate_callee (f := 33) rfl ?_); refine goesL_ (some 174) rfl rfl Tryd.func33 kr rfl #[.agg #[.int .i64 t208, .int .i64 t209], .agg #[.int .i64 t248, .int .i64 t249]] rfl ga ?_; (with_reducible refine (num_Add.calls kj208 t208 t209 t248 t249 t252 t253 t254 _ A319.out).mono ?_); rintro e w602 ⟨rfl, hb⟩; refine ⟨_, rfl, ?_⟩; replace BX := bx_call hb; clear hb) | ((with_reducible refine gate_dst (N := 31) rfl ?_); refine bxe 31 #[.int .i64 0, .int .i64 0] 23 rfl rfl gr ?_; clear BX; intro gb255 w603 GE255 BX))
                 go_ret
                 exact ⟨er2, bx_bl⟩
               ·replace c322 := Bool.eq_false_iff.mpr c322
                subst c322
                have H1 : (some true) = some r := by rw [if_neg (show ¬ (false = true) by decide)] at H; exact H
                clear H
                have H := H1
                clear H1
                clear HR
                obtain rfl := Option.some.inj H
                go_wp2_with (first | ((with_reducible refine gate_callee (f := 39) rfl ?_); refine goesL_ (some 162) rfl rfl Tryd.func39 kr rfl #[.agg #[.int .i64 a0_0, .int .i64 a0_1], .agg #[.int .i64 t224, .int .i64 t225]] rfl ga ?_; (with_reducible refine (num_Mul.calls kj208 a0_0 a0_1 t224 t225 t244 t245 true _ A317.out).mono ?_); rintro e w645 ⟨rfl, hb⟩; refine ⟨_, rfl, ?_⟩; replace BX := bx_call hb; clear hb) | ((with_reducible refine gate_dst (N := 27) rfl ?_); refine bxe 27 #[.int .i64 0, .int .i64 0] 23 rfl rfl gr ?_; clear BX; intro gb247 w646 GE247 BX) | ((with_reducible refine gate_callee (f := 39) rfl ?_); refine goesL_ (some 168) rfl rfl Tryd.func39 kr rfl #[.agg #[.int .i64 a0_0, .int .i64 a0_1], .agg #[.int .i64 a2_0, .int .i64 a2_1]] rfl ga ?_; (with_reducible refine (num_Mul.calls kj208 a0_0 a0_1 a2_0 a2_1 t248 t249 t250 _ A318.out).mono ?_); rintro e w673 ⟨rfl, hb⟩; refine ⟨_, rfl, ?_⟩; replace BX := bx_call hb; clear hb) | ((with_reducible refine gate_dst (N := 29) rfl ?_); refine bxe 29 #[.int .i64 0, .int .i64 0] 23 rfl rfl gr ?_; clear BX; intro gb251 w674 GE251 BX) | ((with_reducible refine gate_callee (f := 33) rfl ?_); refine goesL_ (some 174) rfl rfl Tryd.func33 kr rfl #[.agg #[.int .i64 t208, .int .i64 t209], .agg #[.int .i64 t248, .int .i64 t249]] rfl ga ?_; (with_reducible refine (num_Add.calls kj208 t208 t209 t248 t249 t252 t253 t254 _ A319.out).mono ?_); rintro e w700 ⟨rfl, hb⟩; refine ⟨_, rfl, ?_⟩; replace BX := bx_call hb; clear hb) | ((with_reducible refine gate_dst (N := 31) rfl ?_); refine bxe 31 #[.int .i64 0, .int .i64 0] 23 rfl rfl gr ?_; clear BX; intro gb255 w701 GE255 BX))
                go_ret
                exact ⟨er2, bx_bl⟩
              ·replace c321 := Bool.eq_false_iff.mpr c321
               subst c321
               have H1 : (some true) = some r := by rw [if_neg (show ¬ (false = true) by decide)] at H; exact H
               clear H
               have H := H1
               clear H1
               clear HR
               obtain rfl := Option.some.inj H
               go_wp2_with (first | ((with_reducible refine gate_callee (f := 39) rfl ?_); refine goesL_ (some 162) rfl rfl Tryd.func39 kr rfl #[.agg #[.int .i64 a0_0, .int .i64 a0_1], .agg #[.int .i64 t224, .int .i64 t225]] rfl ga ?_; (with_reducible refine (num_Mul.calls kj208 a0_0 a0_1 t224 t225 t244 t245 false _ A317.out).mono ?_); rintro e w743 ⟨rfl, hb⟩; refine ⟨_, rfl, ?_⟩; replace BX := bx_call hb; clear hb) | ((with_reducible refine gate_dst (N := 27) rfl ?_); refine bxe 27 #[.int .i64 0, .int .i64 0] 23 rfl rfl gr ?_; clear BX; intro gb247 w744 GE247 BX) | ((with_reducible refine gate_callee (f := 39) rfl ?_); refine goesL_ (some 168) rfl rfl Tryd.func39 kr rfl #[.agg #[.int .i64 a0_0, .int .i64 a0_1], .agg #[.int .i64 a2_0, .int .i64 a2_1]] rfl ga ?_; (with_reducible refine (num_Mul.calls kj208 a0_0 a0_1 a2_0 a2_1 t248 t249 t250 _ A318.out).mono ?_); rintro e w771 ⟨rfl, hb⟩; refine ⟨_, rfl, ?_⟩; replace BX := bx_call hb; clear hb) | ((with_reducible refine gate_dst (N := 29) rfl ?_); refine bxe 29 #[.int .i64 0, .int .i64 0] 23 rfl rfl gr ?_; clear BX; intro gb251 w772 GE251 BX) | ((with_reducible refine gate_callee (f := 33) rfl ?_); refine goesL_ (some 174) rfl rfl Tryd.func33 kr rfl #[.agg #[.int .i64 t208, .int .i64 t209], .agg #[.int .i64 t248, .int .i64 t249]] rfl ga ?_; (with_reducible refine (num_Add.calls kj208 t208 t209 t248 t249 t252 t253 t254 _ A319.out).mono ?_); rintro e w798 ⟨rfl, hb⟩; refine ⟨_, rfl, ?_⟩; replace BX := bx_call hb; clear hb) | ((with_reducible refine gate_dst (N := 31) rfl ?_); refine bxe 31 #[.int .i64 0, .int .i64 0] 23 rfl rfl gr ?_; clear BX; intro gb255 w799 GE255 BX))
               go_ret
               exact ⟨er2, bx_bl⟩
             ·replace c320 := Bool.eq_false_iff.mpr c320
              subst c320
              have H1 : (some true) = some r := by rw [if_neg (show ¬ (false = true) by decide)] at H; exact H
              clear H
              have H := H1
              clear H1
              clear HR
              obtain rfl := Option.some.inj H
              go_wp2_with (first | ((with_reducible refine gate_callee (f := 39) rfl ?_); refine goesL_ (some 162) rfl rfl Tryd.func39 kr rfl #[.agg #[.int .i64 a0_0, .int .i64 a0_1], .agg #[.int .i64 t224, .int .i64 t225]] rfl ga ?_; (with_reducible refine (num_Mul.calls kj208 a0_0 a0_1 t224 t225 t244 t245 t246 _ A317.out).mono ?_); rintro e w841 ⟨rfl, hb⟩; refine ⟨_, rfl, ?_⟩; replace BX := bx_call hb; clear hb) | ((with_reducible refine gate_dst (N := 27) rfl ?_); refine bxe 27 #[.int .i64 0, .int .i64 0] 23 rfl rfl gr ?_; clear BX; intro gb247 w842 GE247 BX) | ((with_reducible refine gate_callee (f := 39) rfl ?_); refine goesL_ (some 168) rfl rfl Tryd.func39 kr rfl #[.agg #[.int .i64 a0_0, .int .i64 a0_1], .agg #[.int .i64 a2_0, .int .i64 a2_1]] rfl ga ?_; (with_reducible refine (num_Mul.calls kj208 a0_0 a0_1 a2_0 a2_1 t248 t249 t250 _ A318.out).mono ?_); rintro e w869 ⟨rfl, hb⟩; refine ⟨_, rfl, ?_⟩; replace BX := bx_call hb; clear hb) | ((with_reducible refine gate_dst (N := 29) rfl ?_); refine bxe 29 #[.int .i64 0, .int .i64 0] 23 rfl rfl gr ?_; clear BX; intro gb251 w870 GE251 BX) | ((with_reducible refine gate_callee (f := 33) rfl ?_); refine goesL_ (some 174) rfl rfl Tryd.func33 kr rfl #[.agg #[.int .i64 t208, .int .i64 t209], .agg #[.int .i64 t248, .int .i64 t249]] rfl ga ?_; (with_reducible refine (num_Add.calls kj208 t208 t209 t248 t249 t252 t253 t254 _ A319.out).mono ?_); rintro e w896 ⟨rfl, hb⟩; refine ⟨_, rfl, ?_⟩; replace BX := bx_call hb; clear hb) | ((with_reducible refine gate_dst (N := 31) rfl ?_); refine bxe 31 #[.int .i64 0, .int .i64 0] 23 rfl rfl gr ?_; clear BX; intro gb255 w897 GE255 BX))
              go_ret
              exact ⟨er2, bx_bl⟩

end Go.Proofs.YtlcjfabbnclalaaDoor.F
