/-
NumPows, plainly: Pow, with any exponent, is the reference's.
-/
import Derived.Test.YtlcjfabbnclalaaDoorF28
import Derived.Test.YtlcjfabbnclalaaDoorM8
namespace Go.Proofs.YtlcjfabbnclalaaDoor.F
open Go.RowKit Go.Proofs.YtlcjfabbnclalaaDoorW.PrintWords NumM
theorem NumPows_pure (n d k : Int) (hn : I64 n) (hd : I64 d) (hk : I64 k) : ∃ r, whittlelaw1_NumPows.f r n d k = some true := by
  refine Ev.rounds ?_
  unfold whittlelaw1_NumPows.f
  refine Ev.bind (pow_ev hn hd hk) (Ev.bind (powR_ev hn hd hk) (Ev.bind able_ev ?_))
  simp only [beq_self_eq_true, Bool.and_self, if_true]
  exact Ev.now _
end Go.Proofs.YtlcjfabbnclalaaDoor.F
