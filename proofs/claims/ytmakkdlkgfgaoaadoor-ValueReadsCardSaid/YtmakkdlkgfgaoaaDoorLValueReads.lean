/-
ValueReads, plainly: what typed contents are is what the reference says.
-/
import Derived.Test.YtmakkdlkgfgaoaaDoorF115
import Derived.Test.YtmakkdlkgfgaoaaDoorA0
import Derived.Test.YtmakkdlkgfgaoaaDoorU4
namespace Go.Proofs.YtmakkdlkgfgaoaaDoor.F
open Go.RowKit Go.Proofs.YtmakkdlkgfgaoaaDoorW.PrintWords NumM
set_option linter.unusedVariables false
set_option linter.unusedSimpArgs false
theorem ValueReads_pure (s : ByteArray) (hs : s.size ≤ 140737488351232) : ∃ k, whittlelaw2_ValueReads.f k s = some true := by
  refine Ev.rounds ?_
  unfold whittlelaw2_ValueReads.f
  have h1 := rread_ev s.toList (by rw [size_toList]; omega)
  rw [by_list] at h1
  exact Ev.bind vable_ev (Ev.ite_pos rfl (Ev.bind (vreads_ev s (by omega)) (Ev.bind h1 (Ev.const (congrArg some (eqB_self _))))))
end Go.Proofs.YtmakkdlkgfgaoaaDoor.F
