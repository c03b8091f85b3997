/-
ValueAs, plainly: what any value is as another kind is what the reference says.
-/
import Derived.Test.YtmakkdlkgfgaoaaDoorF121
import Derived.Test.YtmakkdlkgfgaoaaDoorA0
import Derived.Test.YtmakkdlkgfgaoaaDoorU2
namespace Go.Proofs.YtmakkdlkgfgaoaaDoor.F
open Go.RowKit Go.Proofs.YtmakkdlkgfgaoaaDoorW.PrintWords NumM
set_option linter.unusedVariables false
set_option linter.unusedSimpArgs false
theorem ValueAs_pure (a b c : Int) (s : ByteArray) (t : Bool) (f : Int) (h : BV (a, b, c, s, t, f)) : ∃ k, whittlelaw2_ValueAs.f k a b c s t f = some true := by
  refine Ev.rounds ?_
  unfold whittlelaw2_ValueAs.f
  refine Ev.bind (asnum_ev _ h) (Ev.bind (rasnum_ev _ h) (Ev.bind (astext_ev _ h) (Ev.bind (rastext_ev _ h) (Ev.bind (astruth_ev _ h) (Ev.bind (rastruth_ev _ h) (Ev.bind vable_ev (Ev.ite_pos rfl ?_)))))))
  exact Ev.ite_pos (by simp) (Ev.ite_pos (eqB_self _) (Ev.ite_pos rfl (Ev.ite_pos (eqB_self _) (Ev.ite_pos (beq_self_eq_true _) (Ev.const (congrArg some (eqB_self _)))))))
end Go.Proofs.YtmakkdlkgfgaoaaDoor.F
