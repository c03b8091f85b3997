/-
Values, plainly: the operations of two.
-/
import Derived.Test.YtmakkdlkgfgaoaaDoorF103
import Derived.Test.YtmakkdlkgfgaoaaDoorF105
import Derived.Test.YtmakkdlkgfgaoaaDoorV3
namespace Go.Proofs.YtmakkdlkgfgaoaaDoor.F
open Go.RowKit Go.Proofs.YtmakkdlkgfgaoaaDoorW.PrintWords NumM
set_option linter.unusedVariables false
set_option linter.unusedSimpArgs false

theorem toldQ_ok (q : Rat) : (toldQ q).Ok := by
  unfold toldQ
  split
  · assumption
  · exact ⟨by omega, by omega⟩
/-- a number that may be, told -/
def toldT (t : Int × Int × Bool) : W := if t.2.2 = true then .num (rat t.1 t.2.1) else .fault 4
theorem toldT_fits {r : Rat} (hr : Fits r) : toldT (r.num, (r.den : Int), true) = .num r := by
  unfold toldT
  simp only [if_true, rat_of_fits hr]
theorem tt_ev {t : Int × Int × Bool} (h : t = (0, 0, false) ∨ ∃ r, Fits r ∧ t = (r.num, (r.den : Int), true)) : Ev (fun k => value_told.f k t.1 t.2.1 t.2.2) (enc (toldT t)) := by
  rcases h with rfl | ⟨r, hr, rfl⟩
  · exact told_neg
  · rw [toldT_fits hr]
    exact told_pos hr
theorem toldT_ok {t : Int × Int × Bool} (h : t = (0, 0, false) ∨ ∃ r, Fits r ∧ t = (r.num, (r.den : Int), true)) : (toldT t).Ok := by
  rcases h with rfl | ⟨r, hr, rfl⟩
  · exact ⟨by omega, by omega⟩
  · rw [toldT_fits hr]
    exact hr
theorem powQ_cases (q : Rat) (k : Int) : powQ q k = (0, 0, false) ∨ ∃ r, Fits r ∧ powQ q k = (r.num, (r.den : Int), true) := by
  unfold powQ
  split
  · exact res_cases _
  · split
    · split
      · exact Or.inl rfl
      · exact res_cases _
    · split <;> exact res_cases _
/-- a power of two numbers -/
def powW (x y : Rat) : W := if y.den = 1 then toldT (powQ x y.num) else .fault 4
/-- the reckoning with two numbers -/
def reckonW (op : Int) (x y : Rat) : W :=
  if op = 11 then toldQ (x + y) else if op = 12 then toldQ (x - y) else if op = 13 then toldQ (x * y)
  else if op = 14 then (if y.num = 0 then .fault 1 else toldQ (x / y))
  else if x.num = 0 ∧ y.num < 0 then .fault 1 else powW x y
theorem powW_ok (x y : Rat) : (powW x y).Ok := by
  unfold powW
  split
  · exact toldT_ok (powQ_cases _ _)
  · exact ⟨by omega, by omega⟩
theorem reckonW_ok (op : Int) (x y : Rat) : (reckonW op x y).Ok := by
  unfold reckonW
  split
  · exact toldQ_ok _
  split
  · exact toldQ_ok _
  split
  · exact toldQ_ok _
  split
  · split
    · exact ⟨by omega, by omega⟩
    · exact toldQ_ok _
  split
  · exact ⟨by omega, by omega⟩
  · exact powW_ok x y
theorem pow_j0 {x y : Rat} (hx : Fits x) (hy : Fits y) : Ev (fun k => value_reckon.j0 k false x.num x.den y.num y.den) (enc (powW x y)) := by
  refine Ev.step (fun k => by simp only [value_reckon.j0]; exact if_neg (by decide)) ?_
  have hw := whole_ev (i64_num hy) (i64_den hy)
  have hp := pow_ev (i64_num hx) (i64_den hx) (i64_num hy)
  rw [rat_of_fits hy] at hw
  rw [rat_of_fits hx] at hp
  refine Ev.bind hw ?_
  unfold wholeQ powW
  by_cases h : y.den = 1
  · simp only [if_pos h]
    exact Ev.ite_pos trivial (Ev.bind hp (Ev.bind (tt_ev (powQ_cases _ _)) (Ev.now _)))
  · simp only [if_neg h]
    exact Ev.ite_neg (by decide) (Ev.const rfl)
theorem pow_j0t (a b c d : Int) : Ev (fun k => value_reckon.j0 k true a b c d) (enc (.fault 1)) :=
  Ev.step (f := fun _ => some (enc (.fault 1))) (fun k => by simp only [value_reckon.j0, if_true]; rfl) (Ev.now _)
theorem reckon_ev (op : Int) {x y : Rat} (hx : Fits x) (hy : Fits y) : Ev (fun k => value_reckon.f k op x.num x.den y.num y.den) (enc (reckonW op x y)) := by
  unfold value_reckon.f reckonW
  have ha := add_ev (i64_num hx) (i64_den hx) (i64_num hy) (i64_den hy)
  have hs := sub_ev (i64_num hx) (i64_den hx) (i64_num hy) (i64_den hy)
  have hm := mul_ev (i64_num hx) (i64_den hx) (i64_num hy) (i64_den hy)
  have hd := div_ev (i64_num hx) (i64_den hx) (i64_num hy) (i64_den hy)
  rw [rat_of_fits hx, rat_of_fits hy] at ha hs hm hd
  by_cases h1 : op = 11
  · rw [if_pos h1]
    exact Ev.ite_pos h1 (Ev.bind ha (Ev.bind (told_ev _) (Ev.now _)))
  rw [if_neg h1]
  refine Ev.ite_neg h1 ?_
  by_cases h2 : op = 12
  · rw [if_pos h2]
    exact Ev.ite_pos h2 (Ev.bind hs (Ev.bind (told_ev _) (Ev.now _)))
  rw [if_neg h2]
  refine Ev.ite_neg h2 ?_
  by_cases h3 : op = 13
  · rw [if_pos h3]
    exact Ev.ite_pos h3 (Ev.bind hm (Ev.bind (told_ev _) (Ev.now _)))
  rw [if_neg h3]
  refine Ev.ite_neg h3 ?_
  by_cases h4 : op = 14
  · rw [if_pos h4]
    refine Ev.ite_pos h4 ?_
    by_cases h0 : y.num = 0
    · rw [if_pos h0]
      exact Ev.ite_pos h0 (Ev.const rfl)
    · rw [if_neg h0]
      rw [if_neg (by intro e; exact h0 (by rw [e]; rfl))] at hd
      exact Ev.ite_neg h0 (Ev.bind hd (Ev.bind (told_ev _) (Ev.now _)))
  rw [if_neg h4]
  refine Ev.ite_neg h4 ?_
  by_cases h5 : x.num = 0
  · refine Ev.ite_pos h5 ?_
    by_cases h6 : y.num < 0
    · rw [if_pos ⟨h5, h6⟩, decide_eq_true h6]
      exact pow_j0t _ _ _ _
    · rw [if_neg (fun h => h6 h.2), decide_eq_false h6]
      exact pow_j0 hx hy
  · rw [if_neg (fun h => h5 h.1)]
    exact Ev.ite_neg h5 (pow_j0 hx hy)

def holdsB (op o : Int) : Bool := if op = 21 then o == 0 else if op = 22 then o != 0 else if op = 23 then decide (o < 0) else if op = 24 then decide (o ≤ 0) else if op = 25 then decide (o > 0) else decide (o ≥ 0)
theorem holds_eq (op o : Int) : value_holds.f op o = some (holdsB op o) := by
  unfold value_holds.f holdsB
  repeat' split
  all_goals rfl
/-- the operation of two that are no faults -/
def opW (op : Int) (a b : W) : W :=
  if op ≥ 21 then .truth (holdsB op (cmpW a b)) else if op = 16 then textW (asTxt a ++ asTxt b) else
  match asQ a with
  | .error c => .fault c
  | .ok x => match asQ b with
    | .error c => .fault c
    | .ok y => reckonW op x y
/-- the operations of two -/
def binW (op : Int) (a b : W) : W := if (op < 11 ∨ op > 16) ∧ (op < 21 ∨ op > 26) then .fault 2 else orFault a (orFault b (opW op a b))
theorem orFault_ok {a f : W} (ha : a.Ok) (hf : f.Ok) : (orFault a f).Ok := by
  cases a with
  | fault c => exact ha
  | _ => exact hf
theorem opW_ok (op : Int) {a b : W} (ha : a.Ok) (hb : b.Ok) : (opW op a b).Ok := by
  unfold opW
  split
  · trivial
  split
  · exact text_ok _
  cases ea : asQ a with
  | error c => exact asQ_fault ha ea
  | ok x =>
    cases eb : asQ b with
    | error c => exact asQ_fault hb eb
    | ok y => exact reckonW_ok op x y
theorem binW_ok (op : Int) {a b : W} (ha : a.Ok) (hb : b.Ok) : (binW op a b).Ok := by
  unfold binW
  split
  · exact ⟨by omega, by omega⟩
  · exact orFault_ok ha (orFault_ok hb (opW_ok op ha hb))
theorem unW_ok (op : Int) {a : W} (ha : a.Ok) : (unW op a).Ok := by
  unfold unW
  split
  · refine orFault_ok ha ?_
    unfold unQ
    split
    · exact ha
    cases ea : asQ a with
    | error c => exact asQ_fault ha ea
    | ok x =>
      simp only
      split
      · exact fits_neg (asQ_fits ha ea)
      · exact toldQ_ok _
  · exact ⟨by omega, by omega⟩
theorem bin_j0 (op : Int) (a b : W) (ha : a.Ok) (hb : b.Ok) : Ev (fun k => value_Bin.j0 k op false (enc a).1 (enc a).2.1 (enc a).2.2.1 (enc a).2.2.2.1 (enc a).2.2.2.2.1 (enc a).2.2.2.2.2 (enc b).1 (enc b).2.1 (enc b).2.2.1 (enc b).2.2.2.1 (enc b).2.2.2.2.1 (enc b).2.2.2.2.2) (enc (orFault a (orFault b (opW op a b)))) := by
  refine Ev.step (fun k => by simp only [value_Bin.j0]; exact if_neg (by decide)) ?_
  by_cases hf : ∃ c, a = .fault c
  · obtain ⟨c, rfl⟩ := hf
    exact Ev.ite_pos rfl (Ev.now _)
  refine Ev.ite_neg (kind_ne hf) ?_
  rw [orFault_ne hf]
  by_cases hg : ∃ c, b = .fault c
  · obtain ⟨c, rfl⟩ := hg
    exact Ev.ite_pos rfl (Ev.now _)
  refine Ev.ite_neg (kind_ne hg) ?_
  rw [orFault_ne hg]
  unfold opW
  by_cases h1 : op ≥ 21
  · rw [if_pos h1]
    exact Ev.ite_pos h1 (Ev.bind (evcmp_ev ha hb) (Ev.bind (Ev.const (holds_eq _ _)) (Ev.bind (Ev.const rfl) (Ev.now _))))
  rw [if_neg h1]
  refine Ev.ite_neg h1 ?_
  by_cases h2 : op = 16
  · rw [if_pos h2]
    refine Ev.ite_pos h2 (Ev.bind (eastext_ev ha) (Ev.bind (eastext_ev hb) ?_))
    have la := asTxt_len ha
    have lb := asTxt_len hb
    refine Ev.ite_pos (by simp only [by_size]; omega) ?_
    have := vtextb_ev (asTxt a ++ asTxt b) (by simp only [List.length_append]; omega)
    rw [← by_app] at this
    exact Ev.bind this (Ev.now _)
  rw [if_neg h2]
  refine Ev.ite_neg h2 (Ev.bind (easnum_ev ha) ?_)
  cases ea : asQ a with
  | error c => exact Ev.ite_pos rfl (Ev.now _)
  | ok x =>
    refine Ev.ite_neg (show ¬ ((0 : Int) = 4) by decide) (Ev.bind (easnum_ev hb) ?_)
    cases eb : asQ b with
    | error c => exact Ev.ite_pos rfl (Ev.now _)
    | ok y =>
      refine Ev.ite_neg (show ¬ ((0 : Int) = 4) by decide) ?_
      exact Ev.bind (reckon_ev op (asQ_fits ha ea) (asQ_fits hb eb)) (Ev.now _)
theorem bin_ev (op : Int) (v u : V) (h : BV v) (h' : BV u) : Ev (fun k => value_Bin.f k op v.1 v.2.1 v.2.2.1 v.2.2.2.1 v.2.2.2.2.1 v.2.2.2.2.2 u.1 u.2.1 u.2.2.1 u.2.2.2.1 u.2.2.2.2.1 u.2.2.2.2.2) (enc (binW op (tk v) (tk u))) := by
  unfold value_Bin.f binW
  refine Ev.bind (wtaken_ev v h) (Ev.bind (wtaken_ev u h') ?_)
  have ok := ok_tk v
  have ok' := ok_tk u
  generalize tk v = a at ok ⊢
  generalize tk u = b at ok' ⊢
  have bad : Ev (fun k => value_Bin.j0 k op true (enc a).1 (enc a).2.1 (enc a).2.2.1 (enc a).2.2.2.1 (enc a).2.2.2.2.1 (enc a).2.2.2.2.2 (enc b).1 (enc b).2.1 (enc b).2.2.1 (enc b).2.2.2.1 (enc b).2.2.2.2.1 (enc b).2.2.2.2.2) (enc (.fault 2)) :=
    Ev.step (f := fun _ => some (enc (.fault 2))) (fun k => by simp only [value_Bin.j0, if_true]; rfl) (Ev.now _)
  have good := bin_j0 op a b ok ok'
  by_cases h1 : op < 11
  · rw [if_pos ⟨Or.inl h1, Or.inl (by omega)⟩]
    exact Ev.ite_pos h1 (Ev.ite_pos (by omega) bad)
  refine Ev.ite_neg h1 ?_
  by_cases h2 : op > 16
  · refine Ev.ite_pos h2 ?_
    by_cases h3 : op < 21
    · rw [if_pos ⟨Or.inr h2, Or.inl h3⟩]
      exact Ev.ite_pos h3 bad
    refine Ev.ite_neg h3 ?_
    by_cases h4 : op > 26
    · rw [decide_eq_true h4, if_pos ⟨Or.inr h2, Or.inr h4⟩]
      exact bad
    · rw [decide_eq_false h4, if_neg (by omega)]
      exact good
  · rw [if_neg (by omega)]
    exact Ev.ite_neg h2 good
theorem ebin_ev (op : Int) {a b : W} (h : a.Ok) (h' : b.Ok) : Ev (fun k => value_Bin.f k op (enc a).1 (enc a).2.1 (enc a).2.2.1 (enc a).2.2.2.1 (enc a).2.2.2.2.1 (enc a).2.2.2.2.2 (enc b).1 (enc b).2.1 (enc b).2.2.1 (enc b).2.2.2.1 (enc b).2.2.2.2.1 (enc b).2.2.2.2.2) (enc (binW op a b)) := by
  have := bin_ev op (enc a) (enc b) (bv_enc h) (bv_enc h')
  rwa [tk_enc h, tk_enc h'] at this
theorem wright_ev (v : V) (h : BV v) : Ev (fun k => value_Right.f k v.1 v.2.1 v.2.2.1 v.2.2.2.1 v.2.2.2.2.1 v.2.2.2.2.2) (rightV v) := by
  obtain ⟨a, b, c, s, t, f⟩ := v
  exact vright_ev h
theorem eright_ev {w : W} (h : w.Ok) : Ev (fun k => value_Right.f k (enc w).1 (enc w).2.1 (enc w).2.2.1 (enc w).2.2.2.1 (enc w).2.2.2.2.1 (enc w).2.2.2.2.2) true := by
  have := wright_ev (enc w) (bv_enc h)
  rwa [right_enc h] at this
theorem fault_of {w : W} (h : kindW w = 4) : ∃ c, w = .fault c := by
  cases w with
  | fault c => exact ⟨c, rfl⟩
  | _ => simp [kindW] at h
theorem kind_tk {v : V} (h : rightV v = true) : kindW (tk v) = v.1 := by
  rw [← kind_enc, enc_tk h]
theorem ebin_known (op : Int) (a b : W) (h : (11 ≤ op ∧ op ≤ 16) ∨ (21 ≤ op ∧ op ≤ 26)) : binW op a b = orFault a (orFault b (opW op a b)) := if_neg (by omega)
end Go.Proofs.YtmakkdlkgfgaoaaDoor.F
