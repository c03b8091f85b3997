/-
NumCmps, plainly: Cmp is the reference's, both ways.
-/
import Derived.Test.YtlcjfabbnclalaaDoorF9
import Derived.Test.YtlcjfabbnclalaaDoorM4
namespace Go.Proofs.YtlcjfabbnclalaaDoor.F
open Go.RowKit Go.Proofs.YtlcjfabbnclalaaDoorW.PrintWords NumM
theorem NumCmps_pure (n d m e : Int) (hn : I64 n) (hd : I64 d) (hm : I64 m) (he : I64 e) : ∃ k, whittlelaw1_NumCmps.f k n d m e = some true := by
  refine Ev.rounds ?_
  unfold whittlelaw1_NumCmps.f
  refine Ev.bind able_ev (Ev.ite_pos rfl ?_)
  refine Ev.bind (cmp_ev hn hd hm he) (Ev.bind (cmpR_ev hn hd hm he) (Ev.ite_pos rfl ?_))
  exact Ev.bind (cmp_ev hm he hn hd) (Ev.bind (cmpR_ev hm he hn hd) (Ev.const (by simp)))
end Go.Proofs.YtlcjfabbnclalaaDoor.F
