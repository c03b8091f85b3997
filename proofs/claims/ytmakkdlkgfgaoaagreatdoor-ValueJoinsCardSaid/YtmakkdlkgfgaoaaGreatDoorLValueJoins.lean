/-
ValueJoins, plainly: Join of the program and of the reference come to the same, over any list of values.
-/
import Derived.Test.YtmakkdlkgfgaoaaGreatDoorF120
import Derived.Test.YtmakkdlkgfgaoaaGreatDoorA0
import Derived.Test.YtmakkdlkgfgaoaaGreatDoorU5
namespace Go.Proofs.YtmakkdlkgfgaoaaGreatDoor.F
open Go.RowKit Go.Proofs.YtmakkdlkgfgaoaaGreatDoorW.PrintWords NumM
set_option linter.unusedVariables false
set_option linter.unusedSimpArgs false
/-- texts put together, till a fault comes -/
def joinF : W → List W → W
  | .fault c, _ => .fault c
  | t, [] => t
  | t, x :: l => joinF (binW 16 t x) l
theorem joinF_fault (c : Int) (l : List W) : joinF (.fault c) l = .fault c := by unfold joinF; rfl
theorem joinF_nil (t : W) : joinF t [] = t := by cases t <;> (unfold joinF; rfl)
theorem joinF_cons {t : W} (h : ¬ kindW t = 4) (x : W) (l : List W) : joinF t (x :: l) = joinF (binW 16 t x) l := by
  cases t with
  | fault c => exact absurd rfl h
  | _ => rw [joinF]; intro c e; cases e
theorem joinL_ev (l : List V) (hl : ∀ v ∈ l, BV v) : ∀ t : W, t.Ok → ¬ kindW t = 4 → Ev (fun k => joinL k (enc t) l) (enc (joinF t (l.map tk))) := by
  induction l with
  | nil =>
    intro t _ _
    rw [List.map_nil, joinF_nil]
    exact Ev.now _
  | cons x l ih =>
    intro t ht hk
    rw [List.map_cons, joinF_cons hk]
    have hx := hl x (by simp)
    have hb := bin_ev 16 (enc t) x (bv_enc ht) hx
    rw [tk_enc ht] at hb
    have hu := binW_ok 16 ht (ok_tk x)
    refine Ev.bind hb ?_
    generalize binW 16 t (tk x) = u at hu ⊢
    by_cases h4 : kindW u = 4
    · obtain ⟨c, rfl⟩ := fault_of h4
      rw [joinF_fault]
      exact Ev.ite_pos rfl (Ev.now _)
    · refine Ev.ite_neg (by rw [kind_enc]; exact h4) ?_
      exact ih (fun v hv => hl v (by simp [hv])) u hu h4
theorem joinR_ev (l : List V) (hl : ∀ v ∈ l, BV v) : ∀ t : W, t.Ok → Ev (fun k => joinR k (enc t) l) (enc (joinF t (l.map tk))) := by
  induction l with
  | nil =>
    intro t _
    rw [List.map_nil, joinF_nil]
    exact Ev.now _
  | cons x l ih =>
    intro t ht
    by_cases h4 : kindW t = 4
    · obtain ⟨c, rfl⟩ := fault_of h4
      rw [joinF_fault]
      exact Ev.ite_pos rfl (Ev.now _)
    · rw [List.map_cons, joinF_cons h4]
      refine Ev.ite_neg (by rw [kind_enc]; exact h4) ?_
      have hb := rbin_ev 16 (enc t) x (bv_enc ht) (hl x (by simp))
      rw [tk_enc ht] at hb
      exact Ev.bind hb (ih (fun v hv => hl v (by simp [hv])) _ (binW_ok 16 ht (ok_tk x)))
theorem ValueJoins_pure (l : List V) (hl : ∀ v ∈ l, BV v) : ∃ (k : Nat) (r : V), value_Text.f k (⟨#[]⟩ : ByteArray) = some (2, 0, 0, ⟨#[]⟩, false, 0) ∧ joinL k (2, 0, 0, ⟨#[]⟩, false, 0) l = some r ∧ joinR k (2, 0, 0, ⟨#[]⟩, false, 0) l = some r ∧ whittlelaw2_able.f k = some true := by
  have ok : (W.text []).Ok := ⟨by simp, rfl⟩
  have ht := vtext_ev (⟨#[]⟩ : ByteArray) (by decide)
  rw [show textW (⟨#[]⟩ : ByteArray).toList = .text [] from by rw [by_nil, by_toList]; rfl] at ht
  obtain ⟨k0, h0⟩ := ht
  obtain ⟨k1, h1⟩ := joinL_ev l hl (.text []) ok (by simp [kindW])
  obtain ⟨k2, h2⟩ := joinR_ev l hl (.text []) ok
  obtain ⟨k3, h3⟩ := vable_ev
  exact ⟨max k0 (max k1 (max k2 k3)), _, h0 _ (by omega), h1 _ (by omega), h2 _ (by omega), h3 _ (by omega)⟩
end Go.Proofs.YtmakkdlkgfgaoaaGreatDoor.F
