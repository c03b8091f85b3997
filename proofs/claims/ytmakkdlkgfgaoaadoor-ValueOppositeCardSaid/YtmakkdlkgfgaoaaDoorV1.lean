/-
Values, plainly: what a value counts as, and what the program's package value makes of one: each function answers what a small type of values says.
-/
import Derived.Test.YtmakkdlkgfgaoaaDoorF103
import Derived.Test.YtmakkdlkgfgaoaaDoorP1
namespace Go.Proofs.YtmakkdlkgfgaoaaDoor.F
open Go.RowKit Go.Proofs.YtmakkdlkgfgaoaaDoorW.PrintWords NumM
set_option linter.unusedVariables false
set_option linter.unusedSimpArgs false

/-- a value as the program has it -/
abbrev V := Int × Int × Int × ByteArray × Bool × Int
/-- a value as it is meant -/
inductive W where
  | blank : W
  | num (q : Rat) : W
  | text (l : List UInt8) : W
  | truth (b : Bool) : W
  | fault (c : Int) : W
/-- bytes from 32 to 126 alone -/
def plainL (l : List UInt8) : Bool := l.all fun c => decide (32 ≤ c.toNat) && decide (c.toNat ≤ 126)
def W.Ok : W → Prop
  | .blank => True
  | .num q => Fits q
  | .text l => l.length ≤ 256 ∧ plainL l = true
  | .truth _ => True
  | .fault c => 1 ≤ c ∧ c ≤ 8
def enc : W → V
  | .blank => (0, 0, 0, ⟨#[]⟩, false, 0)
  | .num q => (1, q.num, (q.den : Int), ⟨#[]⟩, false, 0)
  | .text l => (2, 0, 0, by' l, false, 0)
  | .truth b => (3, 0, 0, ⟨#[]⟩, b, 0)
  | .fault c => (4, 0, 0, ⟨#[]⟩, false, c)
/-- the bounds of what comes in -/
def BV (v : V) : Prop := I64 v.1 ∧ I64 v.2.1 ∧ I64 v.2.2.1 ∧ v.2.2.2.1.size ≤ 9223372036854775807 ∧ I64 v.2.2.2.2.2
def rightV (v : V) : Bool :=
  if v.1 = 0 then decide (v.2.1 = 0 ∧ v.2.2.1 = 0 ∧ v.2.2.2.1.toList = [] ∧ v.2.2.2.2.1 = false ∧ v.2.2.2.2.2 = 0)
  else if v.1 = 1 then decide (RightP v.2.1 v.2.2.1 ∧ v.2.2.2.1.toList = [] ∧ v.2.2.2.2.1 = false ∧ v.2.2.2.2.2 = 0)
  else if v.1 = 2 then decide (v.2.2.2.1.size ≤ 256 ∧ plainL v.2.2.2.1.toList = true ∧ v.2.1 = 0 ∧ v.2.2.1 = 0 ∧ v.2.2.2.2.1 = false ∧ v.2.2.2.2.2 = 0)
  else if v.1 = 3 then decide (v.2.1 = 0 ∧ v.2.2.1 = 0 ∧ v.2.2.2.1.toList = [] ∧ v.2.2.2.2.2 = 0)
  else if v.1 = 4 then decide (1 ≤ v.2.2.2.2.2 ∧ v.2.2.2.2.2 ≤ 8 ∧ v.2.1 = 0 ∧ v.2.2.1 = 0 ∧ v.2.2.2.1.toList = [] ∧ v.2.2.2.2.1 = false)
  else false
/-- what a value counts as -/
def tk (v : V) : W :=
  if rightV v = true then (if v.1 = 0 then .blank else if v.1 = 1 then .num (rat v.2.1 v.2.2.1) else if v.1 = 2 then .text v.2.2.2.1.toList else if v.1 = 3 then .truth v.2.2.2.2.1 else .fault v.2.2.2.2.2) else .fault 2

theorem by_nil : (⟨#[]⟩ : ByteArray) = by' [] := rfl
theorem by_list (s : ByteArray) : by' s.toList = s := by rw [ByteArray.toList_eq]; exact (by_eta s).symm
theorem empty_of {s : ByteArray} (h : s.toList = []) : s = ⟨#[]⟩ := by rw [← by_list s, h]; rfl
theorem size_toList (s : ByteArray) : s.toList.length = s.size := by rw [ByteArray.toList_eq]; simp

theorem ok_tk (v : V) : (tk v).Ok := by
  obtain ⟨a, b, c, s, t, f⟩ := v
  unfold tk
  by_cases h : rightV (a, b, c, s, t, f) = true
  · rw [if_pos h]
    simp only [rightV] at h
    by_cases h0 : a = 0
    · simp [h0, W.Ok]
    by_cases h1 : a = 1
    · simp [h1, W.Ok, fits_rat]
    by_cases h2 : a = 2
    · simp [h2] at h ⊢
      exact ⟨by rw [size_toList]; omega, h.2.1⟩
    by_cases h3 : a = 3
    · simp [h3, W.Ok]
    by_cases h4 : a = 4
    · simp [h4] at h ⊢
      exact ⟨h.1, h.2.1⟩
    · simp [h0, h1, h2, h3, h4] at h
  · rw [if_neg h]
    exact ⟨by omega, by omega⟩

theorem right_enc {w : W} (h : w.Ok) : rightV (enc w) = true := by
  cases w with
  | blank => simp [rightV, enc, by_nil, by_toList]
  | num q => simp [rightV, enc, by_nil, by_toList, right_of_fits h]
  | text l => simp [rightV, enc, by_toList, by_size, h.1, h.2]
  | truth b => simp [rightV, enc, by_nil, by_toList]
  | fault c => simp [rightV, enc, by_nil, by_toList, h.1, h.2]

theorem tk_enc {w : W} (h : w.Ok) : tk (enc w) = w := by
  unfold tk
  rw [if_pos (right_enc h)]
  cases w with
  | blank => rfl
  | num q => simp [enc, rat_of_fits h]
  | text l => simp [enc, by_toList]
  | truth b => rfl
  | fault c => rfl

theorem enc_tk {v : V} (h : rightV v = true) : enc (tk v) = v := by
  obtain ⟨a, b, c, s, t, f⟩ := v
  unfold tk
  rw [if_pos h]
  simp only [rightV] at h
  by_cases h0 : a = 0
  · subst h0
    simp at h
    obtain ⟨rfl, rfl, h3, rfl, rfl⟩ := h
    rw [empty_of h3]; rfl
  by_cases h1 : a = 1
  · subst h1
    simp at h
    obtain ⟨h2, h3, rfl, rfl⟩ := h
    have hr := rat_right h2
    rw [empty_of h3]
    simp only [enc, if_neg h0, if_true]
    rw [hr.1, hr.2]
    obtain ⟨_, _, h5, _, _⟩ := h2
    simp; omega
  by_cases h2 : a = 2
  · subst h2
    simp at h
    obtain ⟨h3, h4, rfl, rfl, rfl, rfl⟩ := h
    simp [enc, by_list]
  by_cases h3 : a = 3
  · subst h3
    simp at h
    obtain ⟨rfl, rfl, h4, rfl⟩ := h
    rw [empty_of h4]; simp [enc]
  by_cases h4 : a = 4
  · subst h4
    simp at h
    obtain ⟨h5, h6, rfl, rfl, h7, rfl⟩ := h
    rw [empty_of h7]; simp [enc]
  · simp [h0, h1, h2, h3, h4] at h

theorem wrong_tk {v : V} (h : ¬ rightV v = true) : tk v = .fault 2 := by unfold tk; rw [if_neg h]

theorem bv_enc {w : W} (h : w.Ok) : BV (enc w) := by
  have e : (⟨#[]⟩ : ByteArray).size ≤ 9223372036854775807 := by decide
  have z : I64 0 := by unfold I64; omega
  cases w with
  | blank => exact ⟨z, z, z, e, z⟩
  | num q => exact ⟨by unfold I64 enc; simp, i64_num h, i64_den h, e, z⟩
  | text l => exact ⟨by unfold I64 enc; simp, z, z, by show (by' l).size ≤ _; rw [by_size]; have := h.1; omega, z⟩
  | truth b => exact ⟨by unfold I64 enc; simp, z, z, e, z⟩
  | fault c => exact ⟨by unfold I64 enc; simp, z, z, e, by have := h.1; have := h.2; show I64 c; unfold I64; omega⟩

theorem bt_by (l : List UInt8) (i : Nat) (hi : i < l.length) : bt (by' l) (i : Int) = (l[i].toNat : Int) := by
  unfold bt
  rw [dif_pos (by rw [Int.toNat_natCast, by_size]; exact hi)]
  simp [by', ByteArray.getElem_eq_getElem_data]

theorem plain_loop (l : List UInt8) (hl : l.length ≤ 9223372036854775807) : ∀ (j i : Nat), l.length - i = j → i ≤ l.length → Ev (fun k => value_plain.l0 k (by' l) (l.length : Int) (i : Int)) (plainL (l.drop i)) := by
  intro j
  induction j with
  | zero =>
    intro i hj hi
    have e : i = l.length := by omega
    subst e
    rw [List.drop_length]
    exact Ev.step (f := fun _ => some true) (fun k => by simp only [value_plain.l0]; exact if_neg (by omega)) (Ev.now _)
  | succ j ih =>
    intro i hj hi
    have hi' : i < l.length := by omega
    refine Ev.step (fun k => by simp only [value_plain.l0]; exact if_pos (by omega)) ?_
    refine Ev.ite_pos (by omega) (Ev.ite_pos (by rw [by_size]; omega) ?_)
    rw [bt_by l i hi', List.drop_eq_getElem_cons hi']
    have e : plainL (l[i] :: l.drop (i + 1)) = ((decide (32 ≤ l[i].toNat) && decide (l[i].toNat ≤ 126)) && plainL (l.drop (i + 1))) := rfl
    rw [e]
    by_cases h1 : ((l[i].toNat : Int)) < 32
    · rw [decide_eq_false (by omega)]
      exact Ev.ite_pos h1 (Ev.now _)
    · refine Ev.ite_neg h1 ?_
      rw [decide_eq_true (by omega)]
      by_cases h2 : ((l[i].toNat : Int)) > 126
      · rw [decide_eq_false (by omega)]
        exact Ev.ite_pos h2 (Ev.now _)
      · refine Ev.ite_neg h2 ?_
        rw [decide_eq_true (by omega), w64 (x := (i : Int) + 1) (by unfold I64; omega)]
        exact ih (i + 1) (by omega) (by omega)
theorem plain_ev (s : ByteArray) (hs : s.size ≤ 9223372036854775807) : Ev (fun k => value_plain.f k s) (plainL s.toList) := by
  unfold value_plain.f
  have h := plain_loop s.toList (by rw [size_toList]; omega) s.toList.length 0 rfl (by omega)
  rw [by_list, size_toList] at h
  exact h

theorem Ev.ite {α : Type} {c : Prop} [Decidable c] {g f : Nat → Option α} {r s : α} (h1 : c → Ev g r) (h2 : ¬ c → Ev f s) : Ev (fun n => if c then g n else f n) (if c then r else s) := by
  by_cases h : c
  · rw [if_pos h]; exact Ev.ite_pos h (h1 h)
  · rw [if_neg h]; exact Ev.ite_neg h (h2 h)

theorem vright_ev {a b c f : Int} {s : ByteArray} {t : Bool} (h : BV (a, b, c, s, t, f)) : Ev (fun k => value_Right.f k a b c s t f) (rightV (a, b, c, s, t, f)) := by
  obtain ⟨ha, hb, hc, hs, hf⟩ := h
  unfold value_Right.f rightV
  refine Ev.ite (fun h0 => ?_) fun h0 => Ev.ite (fun h1 => ?_) fun h1 => Ev.ite (fun h2 => ?_) fun h2 => Ev.ite (fun h3 => ?_) fun h3 => Ev.ite (fun h4 => ?_) fun h4 => Ev.now _
  · refine Ev.const ?_
    subst h0
    rw [Option.some.injEq, Bool.eq_iff_iff]; simp [and_assoc]
  · subst h1
    refine Ev.bind (right_ev hb hc) ?_
    by_cases hr : RightP b c
    · rw [decide_eq_true hr]
      refine Ev.ite_pos rfl (Ev.const ?_)
      rw [Option.some.injEq, Bool.eq_iff_iff]; simp [hr]
    · rw [decide_eq_false hr]
      refine Ev.ite_neg (by simp) (Ev.const ?_)
      simp [hr]
  · subst h2
    by_cases hl : (s.size : Int) ≤ 256
    · refine Ev.ite_pos hl (Ev.bind (plain_ev s hs) ?_)
      have hl' : s.size ≤ 256 := by omega
      by_cases hp : plainL s.toList = true
      · refine Ev.ite_pos hp (Ev.const ?_)
        rw [Option.some.injEq, Bool.eq_iff_iff]; simp [hp, hl', and_assoc]
      · refine Ev.ite_neg hp (Ev.const ?_)
        simp [hp]
    · refine Ev.ite_neg hl (Ev.const ?_)
      have hl' : ¬ s.size ≤ 256 := by omega
      simp [hl']
  · subst h3
    refine Ev.const ?_
    rw [Option.some.injEq, Bool.eq_iff_iff]; simp [and_assoc]
  · subst h4
    by_cases h5 : f ≥ 1
    · refine Ev.ite_pos h5 ?_
      by_cases h6 : f ≤ 8
      · refine Ev.ite_pos h6 (Ev.const ?_)
        have h5' : 1 ≤ f := h5
        rw [Option.some.injEq, Bool.eq_iff_iff]; simp [h5', h6, and_assoc]
      · refine Ev.ite_neg h6 (Ev.const ?_)
        simp [h6]
    · refine Ev.ite_neg h5 (Ev.const ?_)
      have h5' : ¬ 1 ≤ f := h5
      simp [h5']

theorem vtaken_ev {a b c f : Int} {s : ByteArray} {t : Bool} (h : BV (a, b, c, s, t, f)) : Ev (fun k => value_taken.f k a b c s t f) (enc (tk (a, b, c, s, t, f))) := by
  unfold value_taken.f
  refine Ev.bind (vright_ev h) ?_
  by_cases hr : rightV (a, b, c, s, t, f) = true
  · rw [enc_tk hr]
    exact Ev.ite_pos hr (Ev.now _)
  · rw [wrong_tk hr]
    exact Ev.ite_neg hr (Ev.now _)
theorem wtaken_ev (v : V) (h : BV v) : Ev (fun k => value_taken.f k v.1 v.2.1 v.2.2.1 v.2.2.2.1 v.2.2.2.2.1 v.2.2.2.2.2) (enc (tk v)) := by
  obtain ⟨a, b, c, s, t, f⟩ := v
  exact vtaken_ev h
/-- what is already a value stays -/
theorem etaken_ev {w : W} (h : w.Ok) : Ev (fun k => value_taken.f k (enc w).1 (enc w).2.1 (enc w).2.2.1 (enc w).2.2.2.1 (enc w).2.2.2.2.1 (enc w).2.2.2.2.2) (enc w) := by
  have := wtaken_ev (enc w) (bv_enc h)
  rw [tk_enc h] at this
  exact this
/-- a number as a value -/
theorem number_ev {b c : Int} (hb : I64 b) (hc : I64 c) : Ev (fun k => value_Number.f k b c) (enc (.num (rat b c))) := by
  unfold value_Number.f
  refine Ev.bind (right_ev hb hc) ?_
  by_cases hr : RightP b c
  · rw [decide_eq_true hr]
    refine Ev.ite_pos rfl (Ev.const ?_)
    have hq := rat_right hr
    simp only [enc, hq.1, hq.2]
    obtain ⟨_, _, h5, _, _⟩ := hr
    simp; omega
  · rw [decide_eq_false hr, rat_wrong hr]
    exact Ev.ite_neg (by simp) (Ev.now _)
theorem fault_ev (c : Int) : value_Fault.f c = some (enc (.fault (if c < 1 then 2 else if c > 8 then 2 else c))) := by
  unfold value_Fault.f
  split
  · rfl
  · split <;> rfl
/-- a text as a value -/
def textW (l : List UInt8) : W := if plainL l = true then (if l.length > 256 then .fault 7 else .text l) else .fault 2
theorem text_ok (l : List UInt8) : (textW l).Ok := by
  unfold textW
  split
  · rename_i hp
    split
    · exact ⟨by omega, by omega⟩
    · exact ⟨by omega, hp⟩
  · exact ⟨by omega, by omega⟩
theorem vtext_ev (s : ByteArray) (hs : s.size ≤ 9223372036854775807) : Ev (fun k => value_Text.f k s) (enc (textW s.toList)) := by
  unfold value_Text.f textW
  refine Ev.bind (plain_ev s hs) ?_
  rw [apply_ite enc, apply_ite enc]
  refine Ev.ite (fun hp => ?_) fun hp => Ev.const rfl
  rw [size_toList]
  by_cases hl : s.size > 256
  · rw [if_pos hl]
    exact Ev.ite_pos (by omega) (Ev.const rfl)
  · rw [if_neg hl]
    refine Ev.ite_neg (by omega) (Ev.const ?_)
    simp only [enc, by_list]
theorem beside_ev (n : Int) : Ev (fun k => value_beside.f k n) (enc (if n = 1 then .num 0 else if n = 2 then .text [] else if n = 3 then .truth false else .blank)) := by
  unfold value_beside.f
  have z : I64 0 := by unfold I64; omega
  have o : I64 1 := by unfold I64; omega
  by_cases h1 : n = 1
  · rw [if_pos h1]
    refine Ev.ite_pos h1 ?_
    have := number_ev z o
    rw [show rat 0 1 = 0 from by decide +kernel] at this
    exact Ev.bind (Ev.const rfl) (Ev.bind this (Ev.now _))
  rw [if_neg h1]
  refine Ev.ite_neg h1 ?_
  by_cases h2 : n = 2
  · rw [if_pos h2]
    refine Ev.ite_pos h2 ?_
    have := vtext_ev (⟨#[]⟩ : ByteArray) (by decide)
    rw [show textW (⟨#[]⟩ : ByteArray).toList = .text [] from by rw [by_nil, by_toList]; rfl] at this
    exact Ev.bind this (Ev.now _)
  rw [if_neg h2]
  refine Ev.ite_neg h2 ?_
  rw [apply_ite enc]
  exact Ev.ite (fun h3 => Ev.const rfl) fun h3 => Ev.const rfl
/-- how the program asks whether two values are one -/
def eqB (v u : V) : Bool := v.1 == u.1 && ((v.2.1 == u.2.1 && (v.2.2.1 == u.2.2.1)) && (v.2.2.2.1.toList == u.2.2.2.1.toList && (v.2.2.2.2.1 == u.2.2.2.2.1 && (v.2.2.2.2.2 == u.2.2.2.2.2))))
theorem eqB_self (v : V) : eqB v v = true := by simp [eqB]
theorem eqB_iff (v u : V) : eqB v u = true ↔ v = u := by
  constructor
  · intro h
    obtain ⟨a, b, c, s, t, f⟩ := v
    obtain ⟨a', b', c', s', t', f'⟩ := u
    simp [eqB] at h
    obtain ⟨rfl, ⟨rfl, rfl⟩, h1, rfl, rfl⟩ := h
    rw [← by_list s, h1, by_list]
  · rintro rfl; exact eqB_self v
end Go.Proofs.YtmakkdlkgfgaoaaDoor.F
