/-
ValueShows, plainly: how a value is shown is what the reference says.
-/
import Derived.Test.YtmakkdlkgfgaoaaDoorF116
import Derived.Test.YtmakkdlkgfgaoaaDoorA0
import Derived.Test.YtmakkdlkgfgaoaaDoorU4
namespace Go.Proofs.YtmakkdlkgfgaoaaDoor.F
open Go.RowKit Go.Proofs.YtmakkdlkgfgaoaaDoorW.PrintWords NumM
set_option linter.unusedVariables false
set_option linter.unusedSimpArgs false
theorem ValueShows_pure (a b c : Int) (s : ByteArray) (t : Bool) (f : Int) (h : BV (a, b, c, s, t, f)) : ∃ k, whittlelaw2_ValueShows.f k a b c s t f = some true := by
  refine Ev.rounds ?_
  unfold whittlelaw2_ValueShows.f
  exact Ev.bind vable_ev (Ev.ite_pos rfl (Ev.bind (show_ev _ h) (Ev.bind (rshow_ev _ h) (Ev.const (congrArg some (beq_self_eq_true _))))))
end Go.Proofs.YtmakkdlkgfgaoaaDoor.F
