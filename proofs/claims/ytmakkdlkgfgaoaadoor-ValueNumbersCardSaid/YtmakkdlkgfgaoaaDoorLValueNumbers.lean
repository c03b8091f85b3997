/-
ValueNumbers, plainly: what numbers come to is what chapter 1 says of them.
-/
import Derived.Test.YtmakkdlkgfgaoaaDoorF103
import Derived.Test.YtmakkdlkgfgaoaaDoorF124
import Derived.Test.YtmakkdlkgfgaoaaDoorA0
import Derived.Test.YtmakkdlkgfgaoaaDoorV4
namespace Go.Proofs.YtmakkdlkgfgaoaaDoor.F
open Go.RowKit Go.Proofs.YtmakkdlkgfgaoaaDoorW.PrintWords NumM
set_option linter.unusedVariables false
set_option linter.unusedSimpArgs false
theorem enum_ev {r : Rat} (h : Fits r) : Ev (fun k => value_Number.f k r.num r.den) (enc (.num r)) := by
  have := number_ev (i64_num h) (i64_den h)
  rwa [rat_of_fits h] at this
theorem ne_self (v : V) : ¬ (!(v.1 == v.1) || ((!(v.2.1 == v.2.1) || (!(v.2.2.1 == v.2.2.1))) || (!(v.2.2.2.1.toList == v.2.2.2.1.toList) || (!(v.2.2.2.2.1 == v.2.2.2.2.1) || (!(v.2.2.2.2.2 == v.2.2.2.2.2)))))) = true := by
  rw [neB_eq v v, eqB_self]
  decide
theorem ValueNumbers_pure (n d m e : Int) (hn : I64 n) (hd : I64 d) (hm : I64 m) (he : I64 e) : ∃ k, whittlelaw2_ValueNumbers.f k n d m e = some true := by
  refine Ev.rounds ?_
  unfold whittlelaw2_ValueNumbers.f
  have ea := add_ev hn hd hm he
  have es := sub_ev hn hd hm he
  have em := mul_ev hn hd hm he
  have n1 := number_ev hn hd
  have n2 := number_ev hm he
  have eg := neg_ev hn hd
  have hp := fits_rat n d
  have hq := fits_rat m e
  generalize rat n d = p at *
  generalize rat m e = q at *
  have op : (W.num p).Ok := hp
  have oq : (W.num q).Ok := hq
  have b1 := ebin_ev 11 op oq
  have b2 := ebin_ev 12 op oq
  have b3 := ebin_ev 13 op oq
  rw [show binW 11 (.num p) (.num q) = toldQ (p + q) from by simp [binW, orFault, opW, asQ, reckonW]] at b1
  rw [show binW 12 (.num p) (.num q) = toldQ (p - q) from by simp [binW, orFault, opW, asQ, reckonW]] at b2
  rw [show binW 13 (.num p) (.num q) = toldQ (p * q) from by simp [binW, orFault, opW, asQ, reckonW]] at b3
  refine Ev.bind vable_ev (Ev.ite_pos rfl (Ev.bind n1 (Ev.bind n2 (Ev.bind ea (Ev.bind es (Ev.bind em (Ev.bind b1 (Ev.bind b2 (Ev.bind b3 ?_)))))))))
  generalize hL : ([(⟨(enc (toldQ (p + q))).1, (⟨(enc (toldQ (p + q))).2.1, (enc (toldQ (p + q))).2.2.1⟩ : S23), (enc (toldQ (p + q))).2.2.2.1, (enc (toldQ (p + q))).2.2.2.2.1, (enc (toldQ (p + q))).2.2.2.2.2⟩ : S25), (⟨(enc (toldQ (p - q))).1, (⟨(enc (toldQ (p - q))).2.1, (enc (toldQ (p - q))).2.2.1⟩ : S23), (enc (toldQ (p - q))).2.2.2.1, (enc (toldQ (p - q))).2.2.2.2.1, (enc (toldQ (p - q))).2.2.2.2.2⟩ : S25), (⟨(enc (toldQ (p * q))).1, (⟨(enc (toldQ (p * q))).2.1, (enc (toldQ (p * q))).2.2.1⟩ : S23), (enc (toldQ (p * q))).2.2.2.1, (enc (toldQ (p * q))).2.2.2.2.1, (enc (toldQ (p * q))).2.2.2.2.2⟩ : S25)] : List S25) = L
  generalize hN : ([(⟨(res (p + q)).1, (res (p + q)).2.1⟩ : S23), (⟨(res (p - q)).1, (res (p - q)).2.1⟩ : S23), (⟨(res (p * q)).1, (res (p * q)).2.1⟩ : S23)] : List S23) = Z
  generalize hF : ([(res (p + q)).2.2, (res (p - q)).2.2, (res (p * q)).2.2] : List Bool) = B
  have lL : (L.length : Int) = 3 := by rw [← hL]; rfl
  have lN : (Z.length : Int) = 3 := by rw [← hN]; rfl
  have lF : (B.length : Int) = 3 := by rw [← hF]; rfl
  have step : ∀ (i : Int) (r : Rat), rd_T25 L i = ⟨(enc (toldQ r)).1, ⟨(enc (toldQ r)).2.1, (enc (toldQ r)).2.2.1⟩, (enc (toldQ r)).2.2.2.1, (enc (toldQ r)).2.2.2.2.1, (enc (toldQ r)).2.2.2.2.2⟩ → rd_T23 Z i = ⟨(res r).1, (res r).2.1⟩ → rdOf false B i = (res r).2.2 → 0 ≤ i → i < 3 →
      Ev (fun k => whittlelaw2_ValueNumbers.l0 k L Z B (i + 1) n d (enc (.num p)).1 (enc (.num p)).2.1 (enc (.num p)).2.2.1 (enc (.num p)).2.2.2.1 (enc (.num p)).2.2.2.2.1 (enc (.num p)).2.2.2.2.2) true →
      Ev (fun k => whittlelaw2_ValueNumbers.l0 k L Z B i n d (enc (.num p)).1 (enc (.num p)).2.1 (enc (.num p)).2.2.1 (enc (.num p)).2.2.2.1 (enc (.num p)).2.2.2.2.1 (enc (.num p)).2.2.2.2.2) true := by
    intro i r r1 r2 r3 h0 h3 next
    refine Ev.step (fun k => by simp only [whittlelaw2_ValueNumbers.l0]; exact if_pos h3) (Ev.ite_pos h0 (Ev.ite_pos (by omega) ?_))
    rw [r1, r2, r3, w64 (x := i + 1) (by unfold I64; omega)]
    by_cases hf : Fits r
    · rw [show res r = (r.num, (r.den : Int), true) from if_pos hf, show toldQ r = .num r from if_pos hf]
      refine Ev.ite_pos rfl (Ev.ite_pos (by omega) (Ev.ite_pos (by omega) (Ev.bind (enum_ev hf) ?_)))
      exact Ev.ite_neg (ne_self (enc (.num r))) next
    · rw [show res r = (0, 0, false) from if_neg hf, show toldQ r = .fault 4 from if_neg hf]
      refine Ev.ite_neg (by decide) (Ev.ite_pos (by omega) (Ev.bind (show Ev (fun _ => value_Fault.f 4) (enc (.fault 4)) from Ev.const rfl) ?_))
      exact Ev.ite_neg (ne_self (enc (.fault 4))) next
  refine step 0 (p + q) (by rw [← hL]; rfl) (by rw [← hN]; rfl) (by rw [← hF]; rfl) (by decide) (by decide) ?_
  refine step 1 (p - q) (by rw [← hL]; rfl) (by rw [← hN]; rfl) (by rw [← hF]; rfl) (by decide) (by decide) ?_
  refine step 2 (p * q) (by rw [← hL]; rfl) (by rw [← hN]; rfl) (by rw [← hF]; rfl) (by decide) (by decide) ?_
  refine Ev.step (fun k => by simp only [whittlelaw2_ValueNumbers.l0]; exact if_neg (by decide)) ?_
  have un := un_ev 1 (enc (.num p)) (bv_enc op)
  rw [tk_enc op, show unW 1 (.num p) = .num (-p) from by simp [unW, orFault, unQ, asQ]] at un
  refine Ev.bind (easnum_ev op) (Ev.bind un (Ev.bind eg (Ev.bind (enum_ev (fits_neg hp)) ?_)))
  refine Ev.ite_pos (eqB_self (enc (.num (-p)))) ?_
  refine Ev.ite_pos (by simp [numV, enc, asQ, by_nil, by_toList]) (Ev.bind (enum_ev hp) ?_)
  exact Ev.const (congrArg some (eqB_self (enc (.num p))))
end Go.Proofs.YtmakkdlkgfgaoaaDoor.F
