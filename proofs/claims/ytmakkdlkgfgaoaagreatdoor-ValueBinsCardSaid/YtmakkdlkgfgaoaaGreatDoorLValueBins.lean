/-
ValueBins, plainly: every operation of two is what the reference says.
-/
import Derived.Test.YtmakkdlkgfgaoaaGreatDoorF114
import Derived.Test.YtmakkdlkgfgaoaaGreatDoorA0
import Derived.Test.YtmakkdlkgfgaoaaGreatDoorU5
namespace Go.Proofs.YtmakkdlkgfgaoaaGreatDoor.F
open Go.RowKit Go.Proofs.YtmakkdlkgfgaoaaGreatDoorW.PrintWords NumM
set_option linter.unusedVariables false
set_option linter.unusedSimpArgs false
theorem ValueBins_pure (op a b c : Int) (s : ByteArray) (t : Bool) (f a' b' c' : Int) (s' : ByteArray) (t' : Bool) (f' : Int) (ho : I64 op) (h : BV (a, b, c, s, t, f)) (h' : BV (a', b', c', s', t', f')) : ∃ k, whittlelaw2_ValueBins.f k op a b c s t f a' b' c' s' t' f' = some true := by
  refine Ev.rounds ?_
  unfold whittlelaw2_ValueBins.f
  exact Ev.bind vable_ev (Ev.ite_pos rfl (Ev.bind (bin_ev op _ _ h h') (Ev.bind (rbin_ev op _ _ h h') (Ev.const (congrArg some (eqB_self _))))))
end Go.Proofs.YtmakkdlkgfgaoaaGreatDoor.F
