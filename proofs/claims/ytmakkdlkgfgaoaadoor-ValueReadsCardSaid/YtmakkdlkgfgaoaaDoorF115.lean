-- Laid by program (wip/tools/genv.sh, pack.py, merge.py of this repo) out of the translation; Lean checks it.
import Derived.Test.YtmakkdlkgfgaoaaDoorF0
import Derived.Test.YtmakkdlkgfgaoaaDoorC0
import Derived.Test.YtmakkdlkgfgaoaaDoorF100
import Derived.Test.YtmakkdlkgfgaoaaDoorF110
import Derived.Test.YtmakkdlkgfgaoaaDoorF112
import Derived.Test.YtmakkdlkgfgaoaaDoorG3
namespace Go.Proofs.YtmakkdlkgfgaoaaDoor.F
open Go.RowKit Go.Proofs.YtmakkdlkgfgaoaaDoorW.PrintWords Go.Proofs.YtmakkdlkgfgaoaaDoorW.PrintLast Go.Proofs.YtmakkdlkgfgaoaaDoorW.PrintMore
attribute [local go_sem] max2_int min2_int max_two min_two max_three min_three max_four min_four
attribute [local go_sem high] bx_cell bx_frozen
set_option linter.unusedVariables false
set_option linter.unusedSimpArgs false

section
attribute [local go_sem high] eqA25
/-! ### whittlelaw2_ValueReads: function 4 -/
def whittlelaw2_ValueReads.f (k : Nat) (a0 : ByteArray) : Option (Bool) := (whittlelaw2_able.f k).bind fun t746 => (if t746 = true then ((value_Read.f k a0).bind fun bt747 => ((whittleref2_Read.f k a0).bind fun bt753 => (some (bt747.1 == bt753.1 && ((bt747.2.1 == bt753.2.1 && (bt747.2.2.1 == bt753.2.2.1)) && (bt747.2.2.2.1.toList == bt753.2.2.2.1.toList && (bt747.2.2.2.2.1 == bt753.2.2.2.2.1 && (bt747.2.2.2.2.2 == bt753.2.2.2.2.2)))))))) else (some false))
theorem whittlelaw2_ValueReads.mono : ∀ a0 k, LeO (whittlelaw2_ValueReads.f k a0) (whittlelaw2_ValueReads.f (k + 1) a0) := by
 intro a0 k
 unfold whittlelaw2_ValueReads.f
 repeat' first
   | (with_reducible exact value_Read.mono _ _)
   | (with_reducible exact whittlelaw2_able.mono _)
   | (with_reducible exact whittleref2_Read.mono _ _)
   | (with_reducible exact LeO.refl _)
   | (with_reducible exact LeO.none _)
   | (with_reducible refine LeO.ite ?_ ?_)
   | (with_reducible refine LeO.bind ?_ (fun _ => ?_))
   | exact value_Read.mono _ _
   | exact whittlelaw2_able.mono _
   | exact whittleref2_Read.mono _ _
   | exact LeO.none _
   | refine LeO.ite ?_ ?_
   | refine LeO.bind ?_ (fun _ => ?_)
set_option maxHeartbeats 8000000 in
set_option maxRecDepth 100000 in
theorem whittlelaw2_ValueReads.calls (k : Nat) (a0 : ByteArray) (r : Bool) (w : World) (HT0 : TabAt w) (hr0 : r = true) (h : whittlelaw2_ValueReads.f k a0 = some r) :
  Calls Tryd.prog 4 #[.string a0] w fun e w' => e = .returned (.bool r) ∧ Below w.heap.size w w' := by
 have HT := Aside0.mk HT0
 clear HT0
 have HR := Aside0.mk hr0
 clear hr0
 have BX := Bx.start w
 have H : ((whittlelaw2_able.f k).bind fun t746 => (if t746 = true then ((value_Read.f k a0).bind fun bt747 => ((whittleref2_Read.f k a0).bind fun bt753 => (some (bt747.1 == bt753.1 && ((bt747.2.1 == bt753.2.1 && (bt747.2.2.1 == bt753.2.2.1)) && (bt747.2.2.2.1.toList == bt753.2.2.2.1.toList && (bt747.2.2.2.2.1 == bt753.2.2.2.2.1 && (bt747.2.2.2.2.2 == bt753.2.2.2.2.2)))))))) else (some false))) = some r := h
 clear h
 replace H := Option.bind_eq_some_iff.mp H
 obtain ⟨t746, A20, H⟩ := H
 replace H : (if t746 = true then ((value_Read.f k a0).bind fun bt747 => ((whittleref2_Read.f k a0).bind fun bt753 => (some (bt747.1 == bt753.1 && ((bt747.2.1 == bt753.2.1 && (bt747.2.2.1 == bt753.2.2.1)) && (bt747.2.2.2.1.toList == bt753.2.2.2.1.toList && (bt747.2.2.2.2.1 == bt753.2.2.2.2.1 && (bt747.2.2.2.2.2 == bt753.2.2.2.2.2)))))))) else (some false)) = some r := H
 have A2 := Aside0.mk A20
 clear A20
 by_cases c3 : t746 = true
 ·subst c3
  have H1 : ((value_Read.f k a0).bind fun bt747 => ((whittleref2_Read.f k a0).bind fun bt753 => (some (bt747.1 == bt753.1 && ((bt747.2.1 == bt753.2.1 && (bt747.2.2.1 == bt753.2.2.1)) && (bt747.2.2.2.1.toList == bt753.2.2.2.1.toList && (bt747.2.2.2.2.1 == bt753.2.2.2.2.1 && (bt747.2.2.2.2.2 == bt753.2.2.2.2.2)))))))) = some r := by rw [if_pos rfl] at H; exact H
  clear H
  have H := H1
  clear H1
  replace H := Option.bind_eq_some_iff.mp H
  obtain ⟨⟨t747, t748, t749, t750, t751, t752⟩, A40, H⟩ := H
  have A4 := Aside0.mk A40
  clear A40
  replace H := Option.bind_eq_some_iff.mp H
  obtain ⟨⟨t753, t754, t755, t756, t757, t758⟩, A50, H⟩ := H
  replace H : (some (t747 == t753 && ((t748 == t754 && (t749 == t755)) && (t750.toList == t756.toList && (t751 == t757 && (t752 == t758)))))) = some r := H
  have A5 := Aside0.mk A50
  clear A50
  clear HR
  obtain rfl := Option.some.inj H
  go_enter Tryd.func4, Tryd.ntmps4
  go_wp2_with (first | ((with_reducible refine gate_callee (f := 15) rfl ?_); refine goesL_ (some 3) rfl rfl Tryd.func15 kr rfl #[] rfl ga ?_; (with_reducible refine (whittlelaw2_able.calls k  true _ ?side1 A2.out).mono ?_); (case side1 => exact HT.out.on bx_bl); rintro e w6 ⟨rfl, hb⟩; refine ⟨_, rfl, ?_⟩; replace BX := bx_call hb; clear hb) | (go_at_call 27; (with_reducible refine (value_Read.calls k a0 t747 t748 t749 t750 t751 t752 _ ?side1 A4.out).mono ?_); (case side1 => exact HT.out.on bx_bl); rintro e w7 ⟨rfl, hb⟩; replace BX := bx_call hb; clear hb) | (go_at_call 28; (with_reducible refine (whittleref2_Read.calls k a0 t753 t754 t755 t756 t757 t758 _ A5.out).mono ?_); rintro e w8 ⟨rfl, hb⟩; replace BX := bx_call hb; clear hb))
  go_ret
  exact ⟨er2, bx_bl⟩
 ·replace c3 := Bool.eq_false_iff.mpr c3
  subst c3
  have H1 : (some false) = some r := by rw [if_neg (show ¬ (false = true) by decide)] at H; exact H
  clear H
  have H := H1
  clear H1
  exact absurd (Option.some.inj H) (by rw [HR.out]; decide)
end
end Go.Proofs.YtmakkdlkgfgaoaaDoor.F
