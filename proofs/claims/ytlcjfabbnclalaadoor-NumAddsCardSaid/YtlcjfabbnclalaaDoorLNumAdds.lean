/-
NumAdds, plainly: Add and Sub are the reference's.
-/
import Derived.Test.YtlcjfabbnclalaaDoorF18
import Derived.Test.YtlcjfabbnclalaaDoorM5
namespace Go.Proofs.YtlcjfabbnclalaaDoor.F
open Go.RowKit Go.Proofs.YtlcjfabbnclalaaDoorW.PrintWords NumM
theorem NumAdds_pure (n d m e : Int) (hn : I64 n) (hd : I64 d) (hm : I64 m) (he : I64 e) : ∃ k, whittlelaw1_NumAdds.f k n d m e = some true := by
  refine Ev.rounds ?_
  unfold whittlelaw1_NumAdds.f
  refine Ev.bind (add_ev hn hd hm he) (Ev.bind (addR_ev hn hd hm he) (Ev.bind (sub_ev hn hd hm he) (Ev.bind (subR_ev hn hd hm he) (Ev.bind able_ev ?_))))
  simp only [beq_self_eq_true, Bool.and_self, if_true]
  exact Ev.now _
end Go.Proofs.YtlcjfabbnclalaaDoor.F
