/-
NumBacks, plainly: Sub undoes Add, Div undoes Mul.
-/
import Derived.Test.YtlcjfabbnclalaaDoorF30
import Derived.Test.YtlcjfabbnclalaaDoorKNumBacks
namespace Go.Proofs.YtlcjfabbnclalaaDoor.F
open Go.RowKit Go.Proofs.YtlcjfabbnclalaaDoorW.PrintWords NumM
set_option linter.unusedVariables false
set_option linter.unusedSimpArgs false

theorem divF_ev {p q : Rat} (hp : Fits p) (hq : Fits q) : Ev (fun k => num_Div.f k p.num p.den q.num q.den) (if q = 0 then (0, 0, false) else res (p / q)) := by
  have := div_ev (i64_num hp) (i64_den hp) (i64_num hq) (i64_den hq)
  rwa [rat_of_fits hp, rat_of_fits hq] at this

theorem backs_j3 {p : Rat} (hp : Fits p) : Ev (fun k => whittlelaw1_NumBacks.j3 k p.num p.den) true := by
  refine Ev.step (fun k => by simp only [whittlelaw1_NumBacks.j3]; rfl) ?_
  refine Ev.bind (subF_ev hp hp) (Ev.bind (divF_ev hp hp) ?_)
  rw [Rat.sub_self, res_pos fits_zero]
  refine Ev.ite_pos rfl (Ev.bind0 (show whittlelaw1_zero.f = some (0, 1) from rfl) (Ev.ite_pos (by decide) ?_))
  by_cases p0 : p = 0
  · rw [if_pos p0]
    subst p0
    exact Ev.ite_pos (by decide) (Ev.ite_pos (by decide) (Ev.now _))
  · have hn : p.num ≠ 0 := fun h => p0 (Rat.num_eq_zero.1 h)
    have e : p / p = 1 := by rw [Rat.div_def]; exact Rat.mul_inv_cancel p p0
    rw [if_neg p0, e, res_pos fits_one]
    refine Ev.ite_pos (by simpa using hn) (Ev.ite_neg hn (Ev.bind0 (show whittlelaw1_one.f = some (1, 1) from rfl) (Ev.const ?_)))
    decide

theorem backs_j2 {p q : Rat} (hp : Fits p) (hq : Fits q) (hf : Fits (p * q)) : Ev (fun k => whittlelaw1_NumBacks.j2 k (q.num != 0) p.num p.den q.num q.den (p * q).num (p * q).den) true := by
  refine Ev.step (fun k => by simp only [whittlelaw1_NumBacks.j2]; rfl) ?_
  by_cases q0 : q.num = 0
  · exact Ev.ite_neg (by simpa using q0) (backs_j3 hp)
  · refine Ev.ite_pos (by simpa using q0) (Ev.bind (divF_ev hf hq) ?_)
    have q0' : q ≠ 0 := fun h => q0 (by rw [h]; rfl)
    rw [if_neg q0', Rat.mul_div_cancel q0', res_pos hp]
    exact Ev.ite_pos rfl (Ev.ite_neg (by simp) (backs_j3 hp))

theorem backs_j1 {p q : Rat} (hp : Fits p) (hq : Fits q) : Ev (fun k => whittlelaw1_NumBacks.j1 k p.num p.den q.num q.den) true := by
  refine Ev.step (fun k => by simp only [whittlelaw1_NumBacks.j1]; rfl) ?_
  refine Ev.bind (mulF_ev hp hq) ?_
  by_cases hf : Fits (p * q)
  · rw [res_pos hf]
    exact Ev.ite_pos rfl (backs_j2 hp hq hf)
  · rw [res_neg hf]
    refine Ev.ite_neg (by simp) (Ev.step (fun k => by simp only [whittlelaw1_NumBacks.j2]; exact if_neg (by simp)) (backs_j3 hp))

theorem backs_j0 {p q : Rat} (hp : Fits p) (hq : Fits q) : Ev (fun k => whittlelaw1_NumBacks.j0 k false p.num p.den q.num q.den) true := by
  refine Ev.step (fun k => by simp only [whittlelaw1_NumBacks.j0]; exact if_neg (by simp)) ?_
  refine Ev.bind (addF_ev hp hq) ?_
  by_cases hf : Fits (p + q)
  · rw [res_pos hf]
    refine Ev.ite_pos rfl (Ev.bind (subF_ev hf hq) ?_)
    have e : p + q - q = p := by grind
    rw [e, res_pos hp]
    exact Ev.ite_pos rfl (Ev.ite_neg (by simp) (backs_j1 hp hq))
  · rw [res_neg hf]
    exact Ev.ite_neg (by simp) (backs_j1 hp hq)

theorem NumBacks_pure (n d m e : Int) (hn : I64 n) (hd : I64 d) (hm : I64 m) (he : I64 e) : ∃ r, whittlelaw1_NumBacks.f r n d m e = some true := by
  refine Ev.rounds ?_
  unfold whittlelaw1_NumBacks.f
  refine Ev.bind able_ev (Ev.ite_pos rfl (Ev.bind (rightL_ev hn hd) ?_))
  have no : ∀ n d m e, Ev (fun k => whittlelaw1_NumBacks.j0 k true n d m e) true := fun _ _ _ _ => Ev.step (f := fun _ => some true) (fun k => by simp only [whittlelaw1_NumBacks.j0, if_true]) (Ev.now _)
  by_cases h : RightP n d
  · rw [decide_eq_true h]
    refine Ev.ite_pos rfl (Ev.bind (rightL_ev hm he) ?_)
    by_cases h' : RightP m e
    · rw [decide_eq_true h']
      obtain ⟨q, hq, rfl, rfl⟩ := of_right h
      obtain ⟨r, hr, rfl, rfl⟩ := of_right h'
      exact backs_j0 hq hr
    · rw [decide_eq_false h']
      exact no _ _ _ _
  · rw [decide_eq_false h]
    exact Ev.ite_neg (by simp) (no _ _ _ _)
end Go.Proofs.YtlcjfabbnclalaaDoor.F
