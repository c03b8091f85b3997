/-
The reference's values, plainly: the operations of two.
-/
import Derived.Test.YtmakkdlkgfgaoaaGreatDoorF108
import Derived.Test.YtmakkdlkgfgaoaaGreatDoorF111
import Derived.Test.YtmakkdlkgfgaoaaGreatDoorU3
import Derived.Test.YtmakkdlkgfgaoaaGreatDoorV4
namespace Go.Proofs.YtmakkdlkgfgaoaaGreatDoor.F
open Go.RowKit Go.Proofs.YtmakkdlkgfgaoaaGreatDoorW.PrintWords NumM
set_option linter.unusedVariables false
set_option linter.unusedSimpArgs false

theorem rtt_ev {t : Int × Int × Bool} (h : t = (0, 0, false) ∨ ∃ r, Fits r ∧ t = (r.num, (r.den : Int), true)) : Ev (fun k => whittleref2_fitting.f k t.1 t.2.1 t.2.2) (enc (toldT t)) := by
  rcases h with rfl | ⟨r, hr, rfl⟩
  · unfold whittleref2_fitting.f
    exact Ev.ite_neg (by decide) (Ev.const rfl)
  · rw [toldT_fits hr]
    have := rtold_ev r
    rwa [show res r = (r.num, (r.den : Int), true) from if_pos hr, show toldQ r = .num r from if_pos hr] at this
theorem rpow_j0 {x y : Rat} (hx : Fits x) (hy : Fits y) : Ev (fun k => whittleref2_reckoned.j0 k false x.num x.den y.num y.den) (enc (powW x y)) := by
  refine Ev.step (fun k => by simp only [whittleref2_reckoned.j0]; exact if_neg (by decide)) ?_
  have hw := wholeR_ev (i64_num hy) (i64_den hy)
  have hp := powR_ev (i64_num hx) (i64_den hx) (i64_num hy)
  rw [rat_of_fits hy] at hw
  rw [rat_of_fits hx] at hp
  refine Ev.bind hw ?_
  unfold wholeQ powW
  by_cases h : y.den = 1
  · simp only [if_pos h]
    exact Ev.ite_pos trivial (Ev.bind hp (Ev.bind (rtt_ev (powQ_cases _ _)) (Ev.now _)))
  · simp only [if_neg h]
    exact Ev.ite_neg (by decide) (Ev.const rfl)
theorem rpow_j0t (a b c d : Int) : Ev (fun k => whittleref2_reckoned.j0 k true a b c d) (enc (.fault 1)) :=
  Ev.step (f := fun _ => some (enc (.fault 1))) (fun k => by simp only [whittleref2_reckoned.j0, if_true]; rfl) (Ev.now _)
theorem rreckon_ev (op : Int) {x y : Rat} (hx : Fits x) (hy : Fits y) : Ev (fun k => whittleref2_reckoned.f k op x.num x.den y.num y.den) (enc (reckonW op x y)) := by
  unfold whittleref2_reckoned.f reckonW
  have ha := addR_ev (i64_num hx) (i64_den hx) (i64_num hy) (i64_den hy)
  have hs := subR_ev (i64_num hx) (i64_den hx) (i64_num hy) (i64_den hy)
  have hm := mulR_ev (i64_num hx) (i64_den hx) (i64_num hy) (i64_den hy)
  have hd := divR_ev (i64_num hx) (i64_den hx) (i64_num hy) (i64_den hy)
  rw [rat_of_fits hx, rat_of_fits hy] at ha hs hm hd
  by_cases h1 : op = 11
  · rw [if_pos h1]
    exact Ev.ite_pos h1 (Ev.bind ha (Ev.bind (rtold_ev _) (Ev.now _)))
  rw [if_neg h1]
  refine Ev.ite_neg h1 ?_
  by_cases h2 : op = 12
  · rw [if_pos h2]
    exact Ev.ite_pos h2 (Ev.bind hs (Ev.bind (rtold_ev _) (Ev.now _)))
  rw [if_neg h2]
  refine Ev.ite_neg h2 ?_
  by_cases h3 : op = 13
  · rw [if_pos h3]
    exact Ev.ite_pos h3 (Ev.bind hm (Ev.bind (rtold_ev _) (Ev.now _)))
  rw [if_neg h3]
  refine Ev.ite_neg h3 ?_
  by_cases h4 : op = 14
  · rw [if_pos h4]
    refine Ev.ite_pos h4 ?_
    by_cases h0 : y.num = 0
    · rw [if_pos h0]
      exact Ev.ite_pos h0 (Ev.const rfl)
    · rw [if_neg h0]
      rw [if_neg (by intro e; exact h0 (by rw [e]; rfl))] at hd
      exact Ev.ite_neg h0 (Ev.bind hd (Ev.bind (rtold_ev _) (Ev.now _)))
  rw [if_neg h4]
  refine Ev.ite_neg h4 ?_
  by_cases h5 : x.num = 0
  · refine Ev.ite_pos h5 ?_
    by_cases h6 : y.num < 0
    · rw [if_pos ⟨h5, h6⟩, decide_eq_true h6]
      exact rpow_j0t _ _ _ _
    · rw [if_neg (fun h => h6 h.2), decide_eq_false h6]
      exact rpow_j0 hx hy
  · rw [if_neg (fun h => h5 h.1)]
    exact Ev.ite_neg h5 (rpow_j0 hx hy)
theorem reastext_ev {w : W} (h : w.Ok) : Ev (fun k => whittleref2_AsText.f k (enc w).1 (enc w).2.1 (enc w).2.2.1 (enc w).2.2.2.1 (enc w).2.2.2.2.1 (enc w).2.2.2.2.2) (by' (asTxt w), enc (asErr w)) := by
  have := rastext_ev (enc w) (bv_enc h)
  rwa [tk_enc h] at this
theorem rvtextc_ev (l : List UInt8) (hl : l.length ≤ 9223372036854775807) : Ev (fun k => whittleref2_Text.f k (by' l)) (enc (textW l)) := by
  have := rvtext_ev (by' l) (by rw [by_size]; exact hl)
  rwa [by_toList] at this
theorem yes_eq (op o : Int) (h1 : 21 ≤ op) (h2 : op ≤ 26) : rdOf false [(o == 0), (o != 0), decide (o < 0), decide (o ≤ 0), decide (o > 0), decide (o ≥ 0)] (op - 21) = holdsB op o := by
  have : op = 21 ∨ op = 22 ∨ op = 23 ∨ op = 24 ∨ op = 25 ∨ op = 26 := by omega
  rcases this with rfl | rfl | rfl | rfl | rfl | rfl <;> rfl
theorem rbin_j0 (op : Int) (a b : W) (ha : a.Ok) (hb : b.Ok) (hop : op ≤ 26) : Ev (fun k => whittleref2_Bin.j0 k op false (enc a).1 (enc a).2.1 (enc a).2.2.1 (enc a).2.2.2.1 (enc a).2.2.2.2.1 (enc a).2.2.2.2.2 (enc b).1 (enc b).2.1 (enc b).2.2.1 (enc b).2.2.2.1 (enc b).2.2.2.2.1 (enc b).2.2.2.2.2) (enc (orFault a (orFault b (opW op a b)))) := by
  refine Ev.step (fun k => by simp only [whittleref2_Bin.j0]; exact if_neg (by decide)) ?_
  by_cases hf : ∃ c, a = .fault c
  · obtain ⟨c, rfl⟩ := hf
    exact Ev.ite_pos rfl (Ev.now _)
  refine Ev.ite_neg (kind_ne hf) ?_
  rw [orFault_ne hf]
  by_cases hg : ∃ c, b = .fault c
  · obtain ⟨c, rfl⟩ := hg
    exact Ev.ite_pos rfl (Ev.now _)
  refine Ev.ite_neg (kind_ne hg) ?_
  rw [orFault_ne hg]
  unfold opW
  by_cases h2 : op = 16
  · rw [if_neg (by omega), if_pos h2]
    refine Ev.ite_pos h2 (Ev.bind (reastext_ev ha) (Ev.bind (reastext_ev hb) ?_))
    have la := asTxt_len ha
    have lb := asTxt_len hb
    refine Ev.ite_pos (by simp only [by_size]; omega) ?_
    have := rvtextc_ev (asTxt a ++ asTxt b) (by simp only [List.length_append]; omega)
    rw [← by_app] at this
    exact Ev.bind this (Ev.now _)
  refine Ev.ite_neg h2 ?_
  by_cases h1 : op ≥ 21
  · rw [if_pos h1]
    refine Ev.ite_pos h1 (Ev.bind (recmp_ev ha hb) (Ev.bind (Ev.const rfl) ?_))
    rw [w64 (x := op - 21) (by unfold I64; omega)]
    refine Ev.ite_pos (by omega) (Ev.ite_pos (show op - 21 < 6 by omega) ?_)
    rw [yes_eq op _ h1 hop]
    exact Ev.bind (Ev.const rfl) (Ev.now _)
  rw [if_neg h1, if_neg h2]
  refine Ev.ite_neg h1 (Ev.bind (reasnum_ev ha) ?_)
  cases ea : asQ a with
  | error c => exact Ev.ite_pos rfl (Ev.now _)
  | ok x =>
    refine Ev.ite_neg (show ¬ ((0 : Int) = 4) by decide) (Ev.bind (reasnum_ev hb) ?_)
    cases eb : asQ b with
    | error c => exact Ev.ite_pos rfl (Ev.now _)
    | ok y =>
      refine Ev.ite_neg (show ¬ ((0 : Int) = 4) by decide) ?_
      exact Ev.bind (rreckon_ev op (asQ_fits ha ea) (asQ_fits hb eb)) (Ev.now _)
theorem rbin_ev (op : Int) (v u : V) (h : BV v) (h' : BV u) : Ev (fun k => whittleref2_Bin.f k op v.1 v.2.1 v.2.2.1 v.2.2.2.1 v.2.2.2.2.1 v.2.2.2.2.2 u.1 u.2.1 u.2.2.1 u.2.2.2.1 u.2.2.2.2.1 u.2.2.2.2.2) (enc (binW op (tk v) (tk u))) := by
  unfold whittleref2_Bin.f binW
  refine Ev.bind (rof_ev v h) (Ev.bind (rof_ev u h') ?_)
  have ok := ok_tk v
  have ok' := ok_tk u
  generalize tk v = a at ok ⊢
  generalize tk u = b at ok' ⊢
  have bad : Ev (fun k => whittleref2_Bin.j0 k op true (enc a).1 (enc a).2.1 (enc a).2.2.1 (enc a).2.2.2.1 (enc a).2.2.2.2.1 (enc a).2.2.2.2.2 (enc b).1 (enc b).2.1 (enc b).2.2.1 (enc b).2.2.2.1 (enc b).2.2.2.2.1 (enc b).2.2.2.2.2) (enc (.fault 2)) :=
    Ev.step (f := fun _ => some (enc (.fault 2))) (fun k => by simp only [whittleref2_Bin.j0, if_true]; rfl) (Ev.now _)
  have good := rbin_j0 op a b ok ok'
  by_cases h1 : op < 11
  · rw [if_pos ⟨Or.inl h1, Or.inl (by omega)⟩]
    exact Ev.ite_pos h1 (Ev.ite_pos (by omega) bad)
  refine Ev.ite_neg h1 ?_
  by_cases h2 : op > 16
  · refine Ev.ite_pos h2 ?_
    by_cases h3 : op < 21
    · rw [if_pos ⟨Or.inr h2, Or.inl h3⟩]
      exact Ev.ite_pos h3 bad
    refine Ev.ite_neg h3 ?_
    by_cases h4 : op > 26
    · rw [decide_eq_true h4, if_pos ⟨Or.inr h2, Or.inr h4⟩]
      exact bad
    · rw [decide_eq_false h4, if_neg (by omega)]
      exact good (by omega)
  · rw [if_neg (by omega)]
    exact Ev.ite_neg h2 (good (by omega))
end Go.Proofs.YtmakkdlkgfgaoaaGreatDoor.F
