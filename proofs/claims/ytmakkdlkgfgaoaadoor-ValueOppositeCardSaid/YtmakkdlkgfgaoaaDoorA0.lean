/-
The package is able at all (the statements' first question).
-/
import Derived.Test.YtmakkdlkgfgaoaaDoorF112
import Derived.Test.YtmakkdlkgfgaoaaDoorV1
namespace Go.Proofs.YtmakkdlkgfgaoaaDoor.F
open Go.RowKit Go.Proofs.YtmakkdlkgfgaoaaDoorW.PrintWords NumM
set_option linter.unusedVariables false
set_option linter.unusedSimpArgs false
set_option maxRecDepth 100000 in
theorem vable_now : whittlelaw2_able.f 60 = some true := by decide +kernel
theorem vable_ev : Ev (fun k => whittlelaw2_able.f k) true := Ev.of (fun k => whittlelaw2_able.mono k) vable_now
end Go.Proofs.YtmakkdlkgfgaoaaDoor.F
