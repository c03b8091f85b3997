/-
The reference's Right, Of and Cmp, as rationals.
-/
import Derived.Test.YtlcjfabbnclalaaDoorF8
import Derived.Test.YtlcjfabbnclalaaDoorM3
namespace Go.Proofs.YtlcjfabbnclalaaDoor.F
open Go.RowKit Go.Proofs.YtlcjfabbnclalaaDoorW.PrintWords NumM
set_option linter.unusedVariables false
set_option linter.unusedSimpArgs false

theorem rightR_ev {n d : Int} (hn : I64 n) (hd : I64 d) : Ev (fun k => whittleref1_Right.f k n d) (decide (RightP n d)) := by
  have key : ∀ x : Bool, (x = true → ¬ RightP n d) → (x = false → 1 ≤ d ∧ d ≤ 1000000 ∧ -1000000000000 ≤ n ∧ n ≤ 1000000000000) → Ev (fun k => whittleref1_Right.j0 k x n d) (decide (RightP n d)) := by
    intro x h1 h2
    cases x with
    | true =>
      refine Ev.step (f := fun _ => some false) (fun k => by simp only [whittleref1_Right.j0, if_true]) ?_
      rw [decide_eq_false (h1 rfl)]; exact Ev.now _
    | false =>
      obtain ⟨b1, b2, b3, b4⟩ := h2 rfl
      refine Ev.step (fun k => by simp only [whittleref1_Right.j0]; exact if_neg (by simp)) ?_
      refine Ev.bind0 (far_eq hn) ?_
      have e : IntKind.u64.wrap d = ((d.toNat : Nat) : Int) := by rw [u64 (by omega) (by omega)]; omega
      rw [e]
      refine Ev.bind (gcdR_ev n.natAbs d.toNat) (Ev.const ?_)
      congr 1
      rw [Bool.eq_iff_iff, beq_iff_eq, decide_eq_true_iff]
      unfold RightP
      omega
  unfold whittleref1_Right.f
  by_cases c1 : d < 1
  · exact Ev.ite_pos c1 (key true (fun _ h => by unfold RightP at h; omega) (fun h => by cases h))
  · refine Ev.ite_neg c1 ?_
    by_cases c2 : d > 1000000
    · exact Ev.ite_pos c2 (key true (fun _ h => by unfold RightP at h; omega) (fun h => by cases h))
    · refine Ev.ite_neg c2 ?_
      by_cases c3 : n < -1000000000000
      · exact Ev.ite_pos c3 (key true (fun _ h => by unfold RightP at h; omega) (fun h => by cases h))
      · refine Ev.ite_neg c3 (key _ (fun h0 h => ?_) (fun h => ?_))
        · rw [decide_eq_true_iff] at h0; unfold RightP at h; omega
        · have := of_decide_eq_false h; omega

theorem ofR_ev {n d : Int} (hn : I64 n) (hd : I64 d) : Ev (fun k => whittleref1_Of.f k n d) ((rat n d).num, ((rat n d).den : Int)) := by
  unfold whittleref1_Of.f
  refine Ev.bind (rightR_ev hn hd) ?_
  by_cases h : RightP n d
  · rw [decide_eq_true h]
    refine Ev.ite_pos rfl (Ev.const ?_)
    have := rat_right h
    rw [this.1, this.2]
    obtain ⟨_, _, h3, _⟩ := h
    rw [show ((d.toNat : Nat) : Int) = d by omega]
  · rw [decide_eq_false h]
    refine Ev.ite_neg (by simp) (Ev.const ?_)
    rw [rat_wrong h]; rfl

theorem cmpR_ev {n d m e : Int} (hn : I64 n) (hd : I64 d) (hm : I64 m) (he : I64 e) : Ev (fun k => whittleref1_Cmp.f k n d m e) (cmpQ (rat n d) (rat m e)) := by
  unfold whittleref1_Cmp.f
  refine Ev.bind (ofR_ev hn hd) (Ev.bind (ofR_ev hm he) ?_)
  have hp := fits_rat n d
  have hq := fits_rat m e
  generalize rat n d = p at *
  generalize rat m e = q at *
  obtain ⟨h1, h2⟩ := cmp_parts p q hp hq
  simp only [w64 h1, w64 h2, cmp_lt, gt_iff_lt]
  refine Ev.const ?_
  unfold cmpQ
  split
  · rfl
  · split <;> rfl
end Go.Proofs.YtlcjfabbnclalaaDoor.F
