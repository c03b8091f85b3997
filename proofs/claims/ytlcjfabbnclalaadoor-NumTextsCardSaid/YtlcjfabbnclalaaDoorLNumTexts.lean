/-
NumTexts, plainly: Text of the program and of the reference write the same.
-/
import Derived.Test.YtlcjfabbnclalaaDoorF11
import Derived.Test.YtlcjfabbnclalaaDoorM15
namespace Go.Proofs.YtlcjfabbnclalaaDoor.F
open Go.RowKit Go.Proofs.YtlcjfabbnclalaaDoorW.PrintWords NumM
theorem NumTexts_pure (n d : Int) (hn : I64 n) (hd : I64 d) : ∃ r, whittlelaw1_NumTexts.f r n d = some true := by
  refine Ev.rounds ?_
  unfold whittlelaw1_NumTexts.f
  refine Ev.bind able_ev (Ev.ite_pos rfl (Ev.bind (text_ev hn hd) (Ev.bind (textR_ev hn hd) (Ev.const ?_))))
  rw [beq_self_eq_true]
end Go.Proofs.YtlcjfabbnclalaaDoor.F
