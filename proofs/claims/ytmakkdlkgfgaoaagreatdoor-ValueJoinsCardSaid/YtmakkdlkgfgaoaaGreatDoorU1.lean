/-
The reference's values: what counts as what, what the calls make: the same as the program's.
-/
import Derived.Test.YtmakkdlkgfgaoaaGreatDoorF108
import Derived.Test.YtmakkdlkgfgaoaaGreatDoorP2
import Derived.Test.YtmakkdlkgfgaoaaGreatDoorV1
namespace Go.Proofs.YtmakkdlkgfgaoaaGreatDoor.F
open Go.RowKit Go.Proofs.YtmakkdlkgfgaoaaGreatDoorW.PrintWords NumM
set_option linter.unusedVariables false
set_option linter.unusedSimpArgs false

theorem rplain_loop (l : List UInt8) (hl : l.length ≤ 9223372036854775807) : ∀ (j i : Nat), l.length - i = j → i ≤ l.length → Ev (fun k => whittleref2_plain.l0 k (by' l) (i : Int)) (plainL (l.drop i)) := by
  intro j
  induction j with
  | zero =>
    intro i hj hi
    have e : i = l.length := by omega
    subst e
    rw [List.drop_length]
    exact Ev.step (f := fun _ => some true) (fun k => by simp only [whittleref2_plain.l0]; exact if_neg (by rw [by_size]; omega)) (Ev.now _)
  | succ j ih =>
    intro i hj hi
    have hi' : i < l.length := by omega
    refine Ev.step (fun k => by simp only [whittleref2_plain.l0]; exact if_pos (by rw [by_size]; omega)) ?_
    refine Ev.ite_pos (by omega) ?_
    rw [bt_by l i hi', List.drop_eq_getElem_cons hi']
    have e : plainL (l[i] :: l.drop (i + 1)) = ((decide (32 ≤ l[i].toNat) && decide (l[i].toNat ≤ 126)) && plainL (l.drop (i + 1))) := rfl
    rw [e]
    by_cases h1 : ((l[i].toNat : Int)) < 32
    · rw [decide_eq_false (by omega)]
      exact Ev.ite_pos h1 (Ev.now _)
    · refine Ev.ite_neg h1 ?_
      rw [decide_eq_true (by omega)]
      by_cases h2 : ((l[i].toNat : Int)) > 126
      · rw [decide_eq_false (by omega)]
        exact Ev.ite_pos h2 (Ev.now _)
      · refine Ev.ite_neg h2 ?_
        rw [decide_eq_true (by omega), w64 (x := (i : Int) + 1) (by unfold I64; omega)]
        exact ih (i + 1) (by omega) (by omega)
theorem rplain_ev (s : ByteArray) (hs : s.size ≤ 9223372036854775807) : Ev (fun k => whittleref2_plain.f k s) (plainL s.toList) := by
  unfold whittleref2_plain.f
  have h := rplain_loop s.toList (by rw [size_toList]; omega) s.toList.length 0 rfl (by omega)
  rw [by_list] at h
  exact h
theorem rvright_ev {a b c f : Int} {s : ByteArray} {t : Bool} (h : BV (a, b, c, s, t, f)) : Ev (fun k => whittleref2_Right.f k a b c s t f) (rightV (a, b, c, s, t, f)) := by
  obtain ⟨ha, hb, hc, hs, hf⟩ := h
  unfold whittleref2_Right.f rightV
  refine Ev.ite (fun h0 => ?_) fun h0 => Ev.ite (fun h1 => ?_) fun h1 => Ev.ite (fun h2 => ?_) fun h2 => Ev.ite (fun h3 => ?_) fun h3 => Ev.ite (fun h4 => ?_) fun h4 => Ev.now _
  · refine Ev.const ?_
    subst h0
    rw [Option.some.injEq, Bool.eq_iff_iff]; simp [and_assoc]
  · subst h1
    refine Ev.bind (rightR_ev hb hc) ?_
    by_cases hr : RightP b c
    · rw [decide_eq_true hr]
      refine Ev.ite_pos rfl (Ev.const ?_)
      rw [Option.some.injEq, Bool.eq_iff_iff]; simp [hr]
    · rw [decide_eq_false hr]
      refine Ev.ite_neg (by simp) (Ev.const ?_)
      simp [hr]
  · subst h2
    refine Ev.bind (rplain_ev s hs) ?_
    by_cases hp : plainL s.toList = true
    · refine Ev.ite_pos hp ?_
      by_cases hl : (s.size : Int) ≤ 256
      · have hl' : s.size ≤ 256 := by omega
        refine Ev.ite_pos hl (Ev.const ?_)
        rw [Option.some.injEq, Bool.eq_iff_iff]; simp [hp, hl', and_assoc]
      · refine Ev.ite_neg hl (Ev.const ?_)
        have hl' : ¬ s.size ≤ 256 := by omega
        simp [hl']
    · refine Ev.ite_neg hp (Ev.const ?_)
      simp [hp]
  · subst h3
    refine Ev.const ?_
    rw [Option.some.injEq, Bool.eq_iff_iff]; simp [and_assoc]
  · subst h4
    by_cases h5 : f ≥ 1
    · refine Ev.ite_pos h5 ?_
      by_cases h6 : f ≤ 8
      · refine Ev.ite_pos h6 (Ev.const ?_)
        have h5' : 1 ≤ f := h5
        rw [Option.some.injEq, Bool.eq_iff_iff]; simp [h5', h6, and_assoc]
      · refine Ev.ite_neg h6 (Ev.const ?_)
        simp [h6]
    · refine Ev.ite_neg h5 (Ev.const ?_)
      have h5' : ¬ 1 ≤ f := h5
      simp [h5']
theorem rof_ev (v : V) (h : BV v) : Ev (fun k => whittleref2_Of.f k v.1 v.2.1 v.2.2.1 v.2.2.2.1 v.2.2.2.2.1 v.2.2.2.2.2) (enc (tk v)) := by
  obtain ⟨a, b, c, s, t, f⟩ := v
  unfold whittleref2_Of.f
  refine Ev.bind (rvright_ev h) ?_
  by_cases hr : rightV (a, b, c, s, t, f) = true
  · rw [enc_tk hr]
    exact Ev.ite_pos hr (Ev.now _)
  · rw [wrong_tk hr]
    exact Ev.ite_neg hr (Ev.now _)
theorem rnumber_ev {b c : Int} (hb : I64 b) (hc : I64 c) : Ev (fun k => whittleref2_Number.f k b c) (enc (.num (rat b c))) := by
  unfold whittleref2_Number.f
  exact Ev.bind (ofR_ev hb hc) (Ev.now _)
theorem rfault_ev (c : Int) : whittleref2_Fault.f c = some (enc (.fault (if c < 1 then 2 else if c > 8 then 2 else c))) := by
  unfold whittleref2_Fault.f
  split
  · rfl
  · split <;> rfl
theorem rvtext_ev (s : ByteArray) (hs : s.size ≤ 9223372036854775807) : Ev (fun k => whittleref2_Text.f k s) (enc (textW s.toList)) := by
  unfold whittleref2_Text.f textW
  refine Ev.bind (rplain_ev s hs) ?_
  rw [apply_ite enc, apply_ite enc]
  refine Ev.ite (fun hp => ?_) fun hp => Ev.const rfl
  rw [size_toList]
  by_cases hl : s.size > 256
  · rw [if_pos hl]
    exact Ev.ite_pos (by omega) (Ev.const rfl)
  · rw [if_neg hl]
    refine Ev.ite_neg (by omega) (Ev.const ?_)
    simp only [enc, by_list]
end Go.Proofs.YtmakkdlkgfgaoaaGreatDoor.F
