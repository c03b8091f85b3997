/-
ValueBack, plainly: what is shown of a value is read as it, and is never a formula; what is read is right.
-/
import Derived.Test.YtmakkdlkgfgaoaaDoorF103
import Derived.Test.YtmakkdlkgfgaoaaDoorF117
import Derived.Test.YtmakkdlkgfgaoaaDoorG2
import Derived.Test.YtmakkdlkgfgaoaaDoorA0
import Derived.Test.YtmakkdlkgfgaoaaDoorV5
namespace Go.Proofs.YtmakkdlkgfgaoaaDoor.F
open Go.RowKit Go.Proofs.YtmakkdlkgfgaoaaDoorW.PrintWords NumM
set_option linter.unusedVariables false
set_option linter.unusedSimpArgs false
theorem ValueBack_pure (a b c : Int) (s : ByteArray) (t : Bool) (f : Int) (m : ByteArray) (h : BV (a, b, c, s, t, f)) (hm : m.size ≤ 140737488351232) : ∃ k, whittlelaw2_ValueBack.f k a b c s t f m = some true := by
  refine Ev.rounds ?_
  unfold whittlelaw2_ValueBack.f
  have ok := ok_tk (a, b, c, s, t, f)
  have hd := show_head ok
  have hl := show_len ok
  have hrs := read_show ok
  have last : Ev (fun k => whittlelaw2_ValueBack.j0 k m false) true := by
    refine Ev.step (fun k => by simp only [whittlelaw2_ValueBack.j0]; exact if_neg (by decide)) ?_
    refine Ev.bind (vreads_ev m (by omega)) ?_
    have kr := readW_ok m.toList
    generalize readW m.toList = w at kr ⊢
    refine Ev.bind (eright_ev kr) (Ev.ite_pos rfl ?_)
    have hs := show_ev (enc w) (bv_enc kr)
    rw [tk_enc kr] at hs
    have hl := show_len kr
    have hv := vread_ev (showW w) (by omega)
    rw [read_show kr] at hv
    exact Ev.bind hs (Ev.bind hv (Ev.const (congrArg some (eqB_self _))))
  have mid : Ev (fun k => (value_Right.f k a b c s t f).bind fun t800 => (if t800 = true then ((value_Read.f k (by' (showW (tk (a, b, c, s, t, f))))).bind fun bt801 => (whittlelaw2_ValueBack.j0 k m (!(bt801.1 == a) || ((!(bt801.2.1 == b) || (!(bt801.2.2.1 == c))) || (!(bt801.2.2.2.1.toList == s.toList) || (!(bt801.2.2.2.2.1 == t) || (!(bt801.2.2.2.2.2 == f)))))))) else (whittlelaw2_ValueBack.j0 k m false))) true := by
    refine Ev.bind (vright_ev h) ?_
    by_cases hr : rightV (a, b, c, s, t, f) = true
    · refine Ev.ite_pos hr (Ev.bind (vread_ev _ (by omega)) ?_)
      rw [hrs, enc_tk hr, neB_eq (a, b, c, s, t, f) (a, b, c, s, t, f), eqB_self]
      exact last
    · exact Ev.ite_neg hr last
  refine Ev.bind vable_ev (Ev.ite_pos rfl (Ev.bind (show_ev _ h) ?_))
  generalize hw : showW (tk (a, b, c, s, t, f)) = l at *
  cases l with
  | nil => exact Ev.ite_neg (by rw [by_size]; simp) mid
  | cons x r =>
    refine Ev.ite_pos (by rw [by_size, List.length_cons]; omega) (Ev.ite_pos (by rw [by_size, List.length_cons]; omega) ?_)
    have hbt : bt (by' (x :: r)) 0 = (x.toNat : Int) := bt_by (x :: r) 0 (by simp)
    rw [hbt]
    refine Ev.ite_neg (fun e => hd ?_) mid
    have e' : x.toNat = (61 : UInt8).toNat := by show x.toNat = 61; omega
    rw [List.head?_cons, UInt8.toNat_inj.1 e']
end Go.Proofs.YtmakkdlkgfgaoaaDoor.F
