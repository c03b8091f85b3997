/-
ValueUns, plainly: every operation of one answers as the reference says.
-/
import Derived.Test.YtmakkdlkgfgaoaaDoorF122
import Derived.Test.YtmakkdlkgfgaoaaDoorA0
import Derived.Test.YtmakkdlkgfgaoaaDoorU2
namespace Go.Proofs.YtmakkdlkgfgaoaaDoor.F
open Go.RowKit Go.Proofs.YtmakkdlkgfgaoaaDoorW.PrintWords NumM
set_option linter.unusedVariables false
set_option linter.unusedSimpArgs false
theorem ValueUns_pure (op a b c : Int) (s : ByteArray) (t : Bool) (f : Int) (ho : I64 op) (h : BV (a, b, c, s, t, f)) : ∃ k, whittlelaw2_ValueUns.f k op a b c s t f = some true := by
  refine Ev.rounds ?_
  unfold whittlelaw2_ValueUns.f
  exact Ev.bind vable_ev (Ev.ite_pos rfl (Ev.bind (un_ev op _ h) (Ev.bind (run_ev op _ h) (Ev.const (congrArg some (eqB_self _))))))
end Go.Proofs.YtmakkdlkgfgaoaaDoor.F
