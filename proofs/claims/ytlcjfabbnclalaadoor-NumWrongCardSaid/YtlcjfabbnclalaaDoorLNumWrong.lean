/-
NumWrong, plainly: what is no number counts as 0, in every call.
-/
import Derived.Test.YtlcjfabbnclalaaDoorF42
import Derived.Test.YtlcjfabbnclalaaDoorKNumWrong
namespace Go.Proofs.YtlcjfabbnclalaaDoor.F
open Go.RowKit Go.Proofs.YtlcjfabbnclalaaDoorW.PrintWords NumM
set_option linter.unusedVariables false
set_option linter.unusedSimpArgs false

theorem rat_zero1 : rat 0 1 = 0 := by decide +kernel
theorem i64_0 : I64 0 := by unfold I64; omega
theorem i64_1 : I64 1 := by unfold I64; omega

theorem wrong_j1 {n d m e : Int} (hn : I64 n) (hd : I64 d) (hm : I64 m) (he : I64 e) (h : ¬ RightP n d) : Ev (fun k => whittlelaw1_NumWrong.j1 k false m e n d 0 1) true := by
  refine Ev.step (fun k => by simp only [whittlelaw1_NumWrong.j1]; exact if_neg (by simp)) ?_
  have hr := right_ev hn hd
  rw [decide_eq_false h] at hr
  refine Ev.bind hr (Ev.ite_neg (by simp) (Ev.bind (text_ev hn hd) ?_))
  rw [rat_wrong h]
  refine Ev.ite_pos (by decide +kernel) ?_
  have hf := floorF_ev hn hd
  rw [rat_wrong h] at hf
  refine Ev.bind hf (Ev.ite_pos (by decide +kernel) ?_)
  have hg := neg_ev hn hd
  rw [rat_wrong h] at hg
  refine Ev.bind hg (Ev.ite_pos (by decide +kernel) ?_)
  have ha := abs_ev hn hd
  rw [rat_wrong h] at ha
  refine Ev.bind ha (Ev.ite_pos (by decide +kernel) ?_)
  have c1 := cmp_ev hn hd hm he
  have c2 := cmp_ev i64_0 i64_1 hm he
  rw [rat_wrong h] at c1
  rw [rat_zero1] at c2
  refine Ev.bind c1 (Ev.bind c2 (Ev.const ?_))
  simp

theorem sum_two {q : Rat} (hq : Fits q) : sumQ 0 [q, 0] = (q.num, (q.den : Int), true) ∧ sumQ 0 [q] = (q.num, (q.den : Int), true) := by
  have e1 : (0 : Rat) + q = q := Rat.zero_add q
  have e2 : q + 0 = q := Rat.add_zero q
  unfold sumQ
  rw [e1, if_pos hq, if_pos hq]
  unfold sumQ
  rw [e2, if_pos hq]
  exact ⟨rfl, rfl⟩

theorem wrong_j0 {n d m e p : Int} (hn : I64 n) (hd : I64 d) (hm : I64 m) (he : I64 e) (hp : I64 p) (h : ¬ RightP n d) : Ev (fun k => whittlelaw1_NumWrong.j0 k p false m e n d) true := by
  refine Ev.step (fun k => by simp only [whittlelaw1_NumWrong.j0]; exact if_neg (by simp)) ?_
  refine Ev.bind0 (show whittlelaw1_zero.f = some (0, 1) from rfl) ?_
  refine Ev.bind (add_ev hn hd hm he) (Ev.bind (add_ev i64_0 i64_1 hm he) ?_)
  refine Ev.bind (sub_ev hm he hn hd) (Ev.bind (sub_ev hm he i64_0 i64_1) ?_)
  refine Ev.bind (mul_ev hn hd hm he) (Ev.bind (mul_ev i64_0 i64_1 hm he) ?_)
  refine Ev.bind (div_ev hn hd hm he) (Ev.bind (div_ev i64_0 i64_1 hm he) ?_)
  refine Ev.bind (pow_ev hn hd hp) (Ev.bind (pow_ev i64_0 i64_1 hp) ?_)
  refine Ev.bind (div_ev hm he hn hd) (Ev.bind (mod_ev hm he hn hd) ?_)
  have s1 := sum_ev [⟨m, e⟩, ⟨n, d⟩] (by simp [hn, hd, hm, he]) (by simp)
  have s2 := sum_ev [⟨m, e⟩] (by simp [hm, he]) (by simp)
  rw [show ([⟨m, e⟩, ⟨n, d⟩] : List S23).map ratS = [rat m e, rat n d] from rfl, rat_wrong h, (sum_two (fits_rat m e)).1] at s1
  rw [show ([⟨m, e⟩] : List S23).map ratS = [rat m e] from rfl, (sum_two (fits_rat m e)).2] at s2
  refine Ev.bind s1 (Ev.bind s2 ?_)
  rw [rat_wrong h, rat_zero1]
  unfold modQ'
  rw [if_pos rfl, if_pos rfl]
  have last := wrong_j1 hn hd hm he h
  iterate 12 refine Ev.ite_neg (by simp) ?_
  exact Ev.ite_neg (by simp) last

theorem NumWrong_pure (n d m e p : Int) (hn : I64 n) (hd : I64 d) (hm : I64 m) (he : I64 e) (hp : I64 p) : ∃ r, whittlelaw1_NumWrong.f r n d m e p = some true := by
  refine Ev.rounds ?_
  unfold whittlelaw1_NumWrong.f
  refine Ev.bind able_ev (Ev.ite_pos rfl (Ev.bind (rightL_ev hn hd) ?_))
  by_cases h : RightP n d
  · rw [decide_eq_true h]
    exact Ev.step (fun k => by simp only [whittlelaw1_NumWrong.j0, if_true]) (Ev.bind able_ev (Ev.now _))
  · rw [decide_eq_false h]
    exact wrong_j0 hn hd hm he hp h
end Go.Proofs.YtlcjfabbnclalaaDoor.F
