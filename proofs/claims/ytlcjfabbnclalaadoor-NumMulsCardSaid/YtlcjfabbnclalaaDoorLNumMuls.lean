/-
NumMuls, plainly: Mul and Div are the reference's.
-/
import Derived.Test.YtlcjfabbnclalaaDoorF25
import Derived.Test.YtlcjfabbnclalaaDoorM7
namespace Go.Proofs.YtlcjfabbnclalaaDoor.F
open Go.RowKit Go.Proofs.YtlcjfabbnclalaaDoorW.PrintWords NumM
theorem NumMuls_pure (n d m e : Int) (hn : I64 n) (hd : I64 d) (hm : I64 m) (he : I64 e) : ∃ k, whittlelaw1_NumMuls.f k n d m e = some true := by
  refine Ev.rounds ?_
  unfold whittlelaw1_NumMuls.f
  refine Ev.bind (mul_ev hn hd hm he) (Ev.bind (mulR_ev hn hd hm he) (Ev.bind (div_ev hn hd hm he) (Ev.bind (divR_ev hn hd hm he) (Ev.bind able_ev ?_))))
  simp only [beq_self_eq_true, Bool.and_self, if_true]
  exact Ev.now _
end Go.Proofs.YtlcjfabbnclalaaDoor.F
