/-
ValueMakes, plainly: what is right, and what the calls make, is what the reference says.
-/
import Derived.Test.YtmakkdlkgfgaoaaDoorF114
import Derived.Test.YtmakkdlkgfgaoaaDoorA0
import Derived.Test.YtmakkdlkgfgaoaaDoorU1
namespace Go.Proofs.YtmakkdlkgfgaoaaDoor.F
open Go.RowKit Go.Proofs.YtmakkdlkgfgaoaaDoorW.PrintWords NumM
set_option linter.unusedVariables false
set_option linter.unusedSimpArgs false
theorem ValueMakes_pure (a b c : Int) (s : ByteArray) (t : Bool) (f n d : Int) (x : ByteArray) (e : Int) (h : BV (a, b, c, s, t, f)) (hn : I64 n) (hd : I64 d) (hx : x.size ≤ 140737488351232) (he : I64 e) : ∃ k, whittlelaw2_ValueMakes.f k a b c s t f n d x e = some true := by
  refine Ev.rounds ?_
  unfold whittlelaw2_ValueMakes.f
  refine Ev.bind vable_ev (Ev.ite_pos rfl (Ev.bind (vright_ev h) (Ev.bind (rvright_ev h) (Ev.ite_pos (beq_self_eq_true _) (Ev.bind (Ev.const rfl) (Ev.ite_pos (by simp [by_nil, by_toList]) ?_))))))
  refine Ev.bind (number_ev hn hd) (Ev.bind (rnumber_ev hn hd) (Ev.ite_pos (eqB_self _) ?_))
  refine Ev.bind (vtext_ev x (by omega)) (Ev.bind (rvtext_ev x (by omega)) (Ev.ite_pos (eqB_self _) ?_))
  refine Ev.bind (Ev.const rfl) (Ev.bind (Ev.const rfl) (Ev.ite_pos (eqB_self _) (Ev.bind (Ev.const rfl) (Ev.bind (Ev.const rfl) (Ev.ite_pos (eqB_self _) ?_)))))
  refine Ev.bind (Ev.const (fault_ev e)) (Ev.bind (Ev.const (rfault_ev e)) (Ev.const ?_))
  exact congrArg some (eqB_self _)
end Go.Proofs.YtmakkdlkgfgaoaaDoor.F
