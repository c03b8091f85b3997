/-
ValueFaults, plainly: a fault that comes in comes out, of two the first one; all answers are right.
-/
import Derived.Test.YtmakkdlkgfgaoaaDoorF103
import Derived.Test.YtmakkdlkgfgaoaaDoorF123
import Derived.Test.YtmakkdlkgfgaoaaDoorA0
import Derived.Test.YtmakkdlkgfgaoaaDoorV4
namespace Go.Proofs.YtmakkdlkgfgaoaaDoor.F
open Go.RowKit Go.Proofs.YtmakkdlkgfgaoaaDoorW.PrintWords NumM
set_option linter.unusedVariables false
set_option linter.unusedSimpArgs false
theorem ValueFaults_pure (op a b c : Int) (s : ByteArray) (t : Bool) (f a' b' c' : Int) (s' : ByteArray) (t' : Bool) (f' : Int) (ho : I64 op) (h : BV (a, b, c, s, t, f)) (h' : BV (a', b', c', s', t', f')) : ∃ k, whittlelaw2_ValueFaults.f k op a b c s t f a' b' c' s' t' f' = some true := by
  refine Ev.rounds ?_
  unfold whittlelaw2_ValueFaults.f
  have ok := ok_tk (a, b, c, s, t, f)
  have ok' := ok_tk (a', b', c', s', t', f')
  have eb := bin_ev op _ _ h h'
  have eu := un_ev op _ h
  have kb := binW_ok op ok ok'
  have ku := unW_ok op ok
  have bad : ¬ ((11 ≤ op ∧ op ≤ 16) ∨ (21 ≤ op ∧ op ≤ 26)) → binW op (tk (a, b, c, s, t, f)) (tk (a', b', c', s', t', f')) = .fault 2 := fun hk => if_pos (by omega)
  have ubad : ¬ (op = 1 ∨ op = 2 ∨ op = 3) → unW op (tk (a, b, c, s, t, f)) = .fault 2 := fun hk => if_neg hk
  have good := ebin_known op (tk (a, b, c, s, t, f)) (tk (a', b', c', s', t', f'))
  refine Ev.bind vable_ev (Ev.ite_pos rfl (Ev.bind eb (Ev.bind eu (Ev.bind (eright_ev kb) (Ev.ite_pos rfl (Ev.bind (eright_ev ku) ?_))))))
  refine Ev.step (fun k => by simp only [whittlelaw2_ValueFaults.j0]; exact if_neg (by decide)) ?_
  generalize hX : binW op (tk (a, b, c, s, t, f)) (tk (a', b', c', s', t', f')) = X at *
  generalize hY : unW op (tk (a, b, c, s, t, f)) = Y at *
  have key : ∀ y : Bool, (y = true ↔ ((11 ≤ op ∧ op ≤ 16) ∨ (21 ≤ op ∧ op ≤ 26))) → Ev (fun k => whittlelaw2_ValueFaults.j1 k op y a b c s t f a' b' c' s' t' f' (enc X).1 (enc X).2.1 (enc X).2.2.1 (enc X).2.2.2.1 (enc X).2.2.2.2.1 (enc X).2.2.2.2.2 (enc Y).1 (enc Y).2.1 (enc Y).2.2.1 (enc Y).2.2.2.1 (enc Y).2.2.2.2.1 (enc Y).2.2.2.2.2) true := by
    intro y hy
    cases y with
    | false =>
      have hk : ¬ ((11 ≤ op ∧ op ≤ 16) ∨ (21 ≤ op ∧ op ≤ 26)) := fun e => absurd (hy.2 e) (by decide)
      refine Ev.step (fun k => by simp only [whittlelaw2_ValueFaults.j1]; exact if_neg (by decide)) ?_
      refine Ev.bind (show Ev (fun _ => value_Fault.f 2) (enc (.fault 2)) from Ev.const rfl) (Ev.bind eb ?_)
      rw [bad hk]
      refine Ev.ite_pos (eqB_self (enc (.fault 2))) ?_
      by_cases o1 : op = 1
      · exact Ev.ite_pos o1 (Ev.now _)
      refine Ev.ite_neg o1 ?_
      by_cases o2 : op = 2
      · exact Ev.ite_pos o2 (Ev.now _)
      refine Ev.ite_neg o2 ?_
      by_cases o3 : op = 3
      · exact Ev.ite_pos o3 (Ev.now _)
      refine Ev.ite_neg o3 ?_
      rw [ubad (by omega)]
      exact Ev.const (congrArg some (eqB_self (enc (.fault 2))))
    | true =>
      have hk := hy.1 rfl
      have g := good hk
      refine Ev.step (fun k => by simp only [whittlelaw2_ValueFaults.j1]; exact if_pos trivial) ?_
      refine Ev.bind (show Ev (fun _ => value_Fault.f 2) (enc (.fault 2)) from Ev.const rfl) (Ev.bind (vright_ev h) ?_)
      by_cases hr : rightV (a, b, c, s, t, f) = true
      · refine Ev.ite_pos hr ?_
        by_cases h4 : a = 4
        · obtain ⟨d, hd⟩ := fault_of (w := tk (a, b, c, s, t, f)) (by rw [kind_tk hr]; exact h4)
          refine Ev.ite_pos h4 (Ev.const (congrArg some ?_))
          have e : enc X = (a, b, c, s, t, f) := by rw [g, hd, ← enc_tk hr, hd]; rfl
          rw [e]
          exact eqB_self (a, b, c, s, t, f)
        · have n4 : ¬ ∃ d, tk (a, b, c, s, t, f) = .fault d := by
            rintro ⟨d, hd⟩
            have := kind_tk hr
            rw [hd] at this
            exact h4 this.symm
          rw [orFault_ne n4] at g
          refine Ev.ite_neg h4 (Ev.bind (vright_ev h') ?_)
          by_cases hr' : rightV (a', b', c', s', t', f') = true
          · refine Ev.ite_pos hr' ?_
            by_cases h5 : a' = 4
            · obtain ⟨d, hd⟩ := fault_of (w := tk (a', b', c', s', t', f')) (by rw [kind_tk hr']; exact h5)
              refine Ev.ite_pos h5 (Ev.const (congrArg some ?_))
              have e : enc X = (a', b', c', s', t', f') := by rw [g, hd, ← enc_tk hr', hd]; rfl
              rw [e]
              exact eqB_self (a', b', c', s', t', f')
            · exact Ev.ite_neg h5 (Ev.now _)
          · refine Ev.ite_neg hr' (Ev.const (congrArg some ?_))
            have e : X = .fault 2 := by rw [g, wrong_tk hr']; rfl
            rw [e]
            exact eqB_self (enc (.fault 2))
      · refine Ev.ite_neg hr (Ev.const (congrArg some ?_))
        have e : X = .fault 2 := by rw [g, wrong_tk hr]; rfl
        rw [e]
        exact eqB_self (enc (.fault 2))
  by_cases h1 : op ≥ 11
  · refine Ev.ite_pos h1 ?_
    by_cases h2 : op ≤ 16
    · exact Ev.ite_pos h2 (key true ⟨fun _ => Or.inl ⟨h1, h2⟩, fun _ => rfl⟩)
    refine Ev.ite_neg h2 ?_
    by_cases h3 : op ≥ 21
    · exact Ev.ite_pos h3 (key _ (by rw [decide_eq_true_iff]; omega))
    · exact Ev.ite_neg h3 (key false (by simp; omega))
  · refine Ev.ite_neg h1 ?_
    by_cases h3 : op ≥ 21
    · omega
    · exact Ev.ite_neg h3 (key false (by simp; omega))
end Go.Proofs.YtmakkdlkgfgaoaaDoor.F
