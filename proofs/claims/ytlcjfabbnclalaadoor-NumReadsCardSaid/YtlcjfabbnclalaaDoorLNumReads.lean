/-
NumReads, plainly: Read of the program and of the reference read every text alike.
-/
import Derived.Test.YtlcjfabbnclalaaDoorF14
import Derived.Test.YtlcjfabbnclalaaDoorM16
import Derived.Test.YtlcjfabbnclalaaDoorM3
namespace Go.Proofs.YtlcjfabbnclalaaDoor.F
open Go.RowKit Go.Proofs.YtlcjfabbnclalaaDoorW.PrintWords NumM
theorem NumReads_pure (s : ByteArray) (hs : s.size ≤ 140737488351232) : ∃ r, whittlelaw1_NumReads.f r s = some true := by
  refine Ev.rounds ?_
  unfold whittlelaw1_NumReads.f
  have hl : s.data.toList.length ≤ 140737488351232 := by rw [Array.length_toList]; exact hs
  have h1 := read_ev s.data.toList (by omega)
  have h2 := readR_ev s.data.toList (by omega)
  rw [← by_eta] at h1 h2
  refine Ev.bind h1 (Ev.bind h2 (Ev.bind able_ev (Ev.ite_pos rfl (Ev.ite_pos (by simp) (Ev.const ?_)))))
  simp
end Go.Proofs.YtlcjfabbnclalaaDoor.F
