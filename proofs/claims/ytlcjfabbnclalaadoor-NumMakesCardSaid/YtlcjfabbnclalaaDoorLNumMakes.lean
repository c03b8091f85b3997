/-
NumMakes, plainly: Make of any two ints, and Right, are the reference's.
-/
import Derived.Test.YtlcjfabbnclalaaDoorF7
import Derived.Test.YtlcjfabbnclalaaDoorM4
namespace Go.Proofs.YtlcjfabbnclalaaDoor.F
open Go.RowKit Go.Proofs.YtlcjfabbnclalaaDoorW.PrintWords NumM
theorem NumMakes_pure (n d : Int) (hn : I64 n) (hd : I64 d) : ∃ k, whittlelaw1_NumMakes.f k n d = some true := by
  refine Ev.rounds ?_
  unfold whittlelaw1_NumMakes.f
  refine Ev.bind (make_ev hn hd) (Ev.bind (makeR_ev hn hd) (Ev.bind able_ev ?_))
  simp only [beq_self_eq_true, Bool.and_self, if_true]
  exact Ev.bind (right_ev hn hd) (Ev.bind (rightR_ev hn hd) (Ev.const (by simp)))
end Go.Proofs.YtlcjfabbnclalaaDoor.F
