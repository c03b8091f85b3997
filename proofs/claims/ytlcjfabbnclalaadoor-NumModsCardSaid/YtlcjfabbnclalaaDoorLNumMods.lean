/-
NumMods, plainly: Mod, Round, Whole, Neg, Abs and Floor are the reference's.
-/
import Derived.Test.YtlcjfabbnclalaaDoorF35
import Derived.Test.YtlcjfabbnclalaaDoorKNumMods
namespace Go.Proofs.YtlcjfabbnclalaaDoor.F
open Go.RowKit Go.Proofs.YtlcjfabbnclalaaDoorW.PrintWords NumM
theorem NumMods_pure (n d m e p : Int) (hn : I64 n) (hd : I64 d) (hm : I64 m) (he : I64 e) (hp : I64 p) : ∃ k, whittlelaw1_NumMods.f k n d m e p = some true := by
  refine Ev.rounds ?_
  unfold whittlelaw1_NumMods.f
  refine Ev.bind (mod_ev hn hd hm he) (Ev.bind (modR_ev hn hd hm he) (Ev.bind (round_ev hn hd hp) (Ev.bind (roundR_ev hn hd hp) (Ev.bind (whole_ev hn hd) (Ev.bind (wholeR_ev hn hd) ?_)))))
  simp only [beq_self_eq_true, Bool.not_true, Bool.or_self, bne_self_eq_false, Bool.false_eq_true, if_false, if_true]
  refine Ev.step (fun k => by simp only [whittlelaw1_NumMods.j0]; exact if_neg (by simp)) ?_
  refine Ev.bind able_ev (Ev.ite_pos rfl ?_)
  refine Ev.bind (neg_ev hn hd) (Ev.bind (negR_ev hn hd) (Ev.ite_pos (by simp) ?_))
  refine Ev.bind (abs_ev hn hd) (Ev.bind (absR_ev hn hd) (Ev.ite_pos (by simp) ?_))
  exact Ev.bind (floorF_ev hn hd) (Ev.bind (floorR_ev hn hd) (Ev.const (by simp)))
end Go.Proofs.YtlcjfabbnclalaaDoor.F
