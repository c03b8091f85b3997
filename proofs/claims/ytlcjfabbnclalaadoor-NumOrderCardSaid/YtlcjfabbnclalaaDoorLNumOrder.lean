/-
NumOrder, plainly: Cmp is an order, which sums keep, and products with a number above 0.
-/
import Derived.Test.YtlcjfabbnclalaaDoorF22
import Derived.Test.YtlcjfabbnclalaaDoorM18
namespace Go.Proofs.YtlcjfabbnclalaaDoor.F
open Go.RowKit Go.Proofs.YtlcjfabbnclalaaDoorW.PrintWords NumM
set_option linter.unusedVariables false
theorem order_j3 {p q r : Rat} (hp : Fits p) (hq : Fits q) (hr : Fits r) : Ev (fun k => whittlelaw1_NumOrder.j3 k (cmpQ p q) false p.num p.den q.num q.den r.num r.den) true := by
  refine Ev.step (fun k => by simp only [whittlelaw1_NumOrder.j3]; exact if_neg (by simp)) ?_
  refine Ev.bind (mulF_ev hp hr) (Ev.bind (mulF_ev hq hr) ?_)
  refine Ev.bind0 (show whittlelaw1_zero.f = some (0, 1) from rfl) ?_
  refine Ev.bind (cmpF_ev hr fits_zero) ?_
  by_cases h1 : Fits (p * r)
  · rw [res_pos h1]
    refine Ev.ite_pos rfl ?_
    by_cases h2 : Fits (q * r)
    · rw [res_pos h2]
      refine Ev.ite_pos rfl (Ev.bind (cmpF_ev h1 h2) (Ev.const ?_))
      rw [cmpQ_mul]
      rw [w64 (by rcases cmpQ_range p q with h | h | h <;> rcases cmpQ_range r 0 with h' | h' | h' <;> rw [h, h'] <;> unfold I64 <;> omega)]
      simp
    · rw [res_neg h2]; exact Ev.ite_neg (by simp) (Ev.now _)
  · rw [res_neg h1]; exact Ev.ite_neg (by simp) (Ev.now _)

theorem order_j2 {p q r : Rat} (hp : Fits p) (hq : Fits q) (hr : Fits r) : Ev (fun k => whittlelaw1_NumOrder.j2 k (cmpQ p q) false p.num p.den q.num q.den r.num r.den) true := by
  refine Ev.step (fun k => by simp only [whittlelaw1_NumOrder.j2]; exact if_neg (by simp)) ?_
  refine Ev.bind (addF_ev hp hr) (Ev.bind (addF_ev hq hr) ?_)
  by_cases h1 : Fits (p + r)
  · rw [res_pos h1]
    refine Ev.ite_pos rfl ?_
    by_cases h2 : Fits (q + r)
    · rw [res_pos h2]
      refine Ev.ite_pos rfl (Ev.bind (cmpF_ev h1 h2) ?_)
      rw [cmpQ_add, show (cmpQ p q != cmpQ p q) = false by simp]
      exact order_j3 hp hq hr
    · rw [res_neg h2]; exact Ev.ite_neg (by simp) (order_j3 hp hq hr)
  · rw [res_neg h1]; exact Ev.ite_neg (by simp) (order_j3 hp hq hr)

theorem order_j1 {p q r : Rat} (hp : Fits p) (hq : Fits q) (hr : Fits r) : Ev (fun k => whittlelaw1_NumOrder.j1 k (cmpQ p q) false p.num p.den q.num q.den r.num r.den) true := by
  refine Ev.step (fun k => by simp only [whittlelaw1_NumOrder.j1]; exact if_neg (by simp)) ?_
  by_cases h1 : cmpQ p q ≤ 0
  · refine Ev.ite_pos h1 (Ev.bind (cmpF_ev hq hr) ?_)
    by_cases h2 : cmpQ q r ≤ 0
    · refine Ev.ite_pos h2 (Ev.bind (cmpF_ev hp hr) ?_)
      have := cmpQ_le.2 (Rat.le_trans (cmpQ_le.1 h1) (cmpQ_le.1 h2))
      rw [decide_eq_false (show ¬ cmpQ p r > 0 by omega)]
      exact order_j2 hp hq hr
    · exact Ev.ite_neg h2 (order_j2 hp hq hr)
  · exact Ev.ite_neg h1 (order_j2 hp hq hr)

theorem order_j0 {p q r : Rat} (hp : Fits p) (hq : Fits q) (hr : Fits r) : Ev (fun k => whittlelaw1_NumOrder.j0 k false p.num p.den q.num q.den r.num r.den) true := by
  refine Ev.step (fun k => by simp only [whittlelaw1_NumOrder.j0]; exact if_neg (by simp)) ?_
  refine Ev.bind (cmpF_ev hp hq) ?_
  have hr1 := cmpQ_range p q
  refine Ev.ite_neg (by omega) (Ev.ite_neg (by omega) (Ev.bind (cmpF_ev hq hp) ?_))
  rw [w64 (x := -cmpQ p q) (by unfold I64; omega)]
  refine Ev.ite_pos (cmpQ_swap p q) ?_
  rw [nd_eq, show ((cmpQ p q == 0) != decide (p = q)) = false by
    rw [bne_eq_false_iff_eq, Bool.eq_iff_iff, beq_iff_eq, decide_eq_true_iff]; exact cmpQ_eq]
  exact order_j1 hp hq hr

theorem NumOrder_pure (n d m e o f : Int) (hn : I64 n) (hd : I64 d) (hm : I64 m) (he : I64 e) (ho : I64 o) (hf : I64 f) : ∃ k, whittlelaw1_NumOrder.f k n d m e o f = some true := by
  refine Ev.rounds ?_
  have bad : Ev (fun k => whittlelaw1_NumOrder.j0 k true n d m e o f) true := by
    refine Ev.step (fun k => by simp only [whittlelaw1_NumOrder.j0, if_true]; rfl) ?_
    exact Ev.bind able_ev (Ev.now _)
  unfold whittlelaw1_NumOrder.f
  refine Ev.bind able_ev (Ev.ite_pos rfl (Ev.bind (rightL_ev hn hd) ?_))
  by_cases h1 : RightP n d
  · rw [decide_eq_true h1]
    refine Ev.ite_pos rfl (Ev.bind (rightL_ev hm he) ?_)
    by_cases h2 : RightP m e
    · rw [decide_eq_true h2]
      refine Ev.ite_pos rfl (Ev.bind (rightL_ev ho hf) ?_)
      by_cases h3 : RightP o f
      · rw [decide_eq_true h3]
        obtain ⟨p, hp, rfl, rfl⟩ := of_right h1
        obtain ⟨q, hq, rfl, rfl⟩ := of_right h2
        obtain ⟨r, hr, rfl, rfl⟩ := of_right h3
        exact order_j0 hp hq hr
      · rw [decide_eq_false h3]; exact bad
    · rw [decide_eq_false h2]; exact Ev.ite_neg (by simp) bad
  · rw [decide_eq_false h1]; exact Ev.ite_neg (by simp) bad
end Go.Proofs.YtlcjfabbnclalaaDoor.F
