/-
ValueCmps, plainly: every order, and whether two are the same, is what the reference says.
-/
import Derived.Test.YtmakkdlkgfgaoaaDoorF119
import Derived.Test.YtmakkdlkgfgaoaaDoorA0
import Derived.Test.YtmakkdlkgfgaoaaDoorU3
namespace Go.Proofs.YtmakkdlkgfgaoaaDoor.F
open Go.RowKit Go.Proofs.YtmakkdlkgfgaoaaDoorW.PrintWords NumM
set_option linter.unusedVariables false
set_option linter.unusedSimpArgs false
theorem ValueCmps_pure (a b c : Int) (s : ByteArray) (t : Bool) (f a' b' c' : Int) (s' : ByteArray) (t' : Bool) (f' : Int) (h : BV (a, b, c, s, t, f)) (h' : BV (a', b', c', s', t', f')) : ∃ k, whittlelaw2_ValueCmps.f k a b c s t f a' b' c' s' t' f' = some true := by
  refine Ev.rounds ?_
  unfold whittlelaw2_ValueCmps.f
  exact Ev.bind vable_ev (Ev.ite_pos rfl (Ev.bind (vcmp_ev _ _ h h') (Ev.bind (rcmp_ev _ _ h h') (Ev.ite_pos rfl (Ev.bind (same_ev _ _ h h') (Ev.bind (rsame_ev _ _ h h') (Ev.const (congrArg some (beq_self_eq_true _)))))))))
end Go.Proofs.YtmakkdlkgfgaoaaDoor.F
