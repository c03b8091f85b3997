/-
NumRounds, plainly: Round is odd, keeps the order, and leaves what it has rounded.
-/
import Derived.Test.YtlcjfabbnclalaaDoorF41
import Derived.Test.YtlcjfabbnclalaaDoorKNumRounds
namespace Go.Proofs.YtlcjfabbnclalaaDoor.F
open Go.RowKit Go.Proofs.YtlcjfabbnclalaaDoorW.PrintWords NumM
set_option linter.unusedVariables false
set_option linter.unusedSimpArgs false

/-- how many of the multiples make 1 -/
def perOne (p : Int) : Rat := (upOf p : Rat) / (downOf p : Rat)
theorem up_pos (p : Int) : (0 : Rat) < (upOf p : Rat) := by
  have : 0 < upOf p := Nat.pow_pos (by omega)
  rw [show (0 : Rat) = ((0 : Nat) : Rat) from rfl]; exact Rat.natCast_lt_natCast.2 this
theorem down_pos (p : Int) : (0 : Rat) < (downOf p : Rat) := by
  have : 0 < downOf p := Nat.pow_pos (by omega)
  rw [show (0 : Rat) = ((0 : Nat) : Rat) from rfl]; exact Rat.natCast_lt_natCast.2 this
theorem perOne_pos (p : Int) : 0 < perOne p := by
  unfold perOne
  rw [Rat.div_def]
  exact Rat.mul_pos (up_pos p) (Rat.inv_pos.2 (down_pos p))

theorem roundR_eq (q : Rat) (p : Int) : roundR q p = (near q (perOne p) : Rat) / perOne p := by
  unfold roundR
  show Rat.divInt (near q (perOne p) * (downOf p : Int)) (upOf p : Int) = _
  rw [Rat.divInt_eq_div, Rat.intCast_mul, Rat.intCast_natCast, Rat.intCast_natCast]
  have h1 := up_pos p
  have h2 := down_pos p
  generalize (near q (perOne p) : Rat) = k
  unfold perOne
  generalize (upOf p : Rat) = u at *
  generalize (downOf p : Rat) = d at *
  grind

theorem roundR_neg (q : Rat) (p : Int) : roundR (-q) p = -roundR q p := by
  rw [roundR_eq, roundR_eq, near_neg, Rat.intCast_neg]
  generalize (near q (perOne p) : Rat) = k
  generalize perOne p = t
  grind
theorem roundR_again (q : Rat) (p : Int) : roundR (roundR q p) p = roundR q p := by
  rw [roundR_eq (roundR q p), roundR_eq q, near_whole _ (perOne_pos p)]
theorem roundR_mono {q r : Rat} (p : Int) (h : q ≤ r) : roundR q p ≤ roundR r p := by
  rw [roundR_eq, roundR_eq]
  have h1 := near_mono (perOne_pos p) h
  have h2 : (near q (perOne p) : Rat) ≤ (near r (perOne p) : Rat) := Rat.intCast_le_intCast.2 h1
  rw [Rat.div_def, Rat.div_def]
  exact Rat.mul_le_mul_of_nonneg_right h2 (Rat.le_of_lt (Rat.inv_pos.2 (perOne_pos p)))
theorem perOne_zero : perOne 0 = 1 := by decide +kernel
theorem roundR_zero (q : Rat) : roundR q 0 = (near q 1 : Rat) := by
  rw [roundR_eq, perOne_zero]
  generalize (near q 1 : Rat) = k
  grind
theorem fits_intCast {k : Int} (h1 : -1000000000000 ≤ k) (h2 : k ≤ 1000000000000) : Fits (k : Rat) := by
  unfold Fits
  rw [Rat.num_intCast, Rat.den_intCast]
  omega
theorem near_fits {q : Rat} (h : Fits q) : Fits (near q 1 : Rat) := by
  have hb := fits_bounds h
  have one : (0 : Rat) < 1 := by decide
  have le : ∀ k : Int, q.num ≤ k * q.den → q ≤ (k : Rat) := by
    intro k hk
    rw [Rat.le_iff, Rat.num_intCast, Rat.den_intCast]; omega
  have ge : ∀ k : Int, k * q.den ≤ q.num → (k : Rat) ≤ q := by
    intro k hk
    rw [Rat.le_iff, Rat.num_intCast, Rat.den_intCast]; omega
  have h1 := near_mono one (le 1000000000000 (by omega))
  have h2 := near_mono one (ge (-1000000000000) (by omega))
  rw [near_int] at h1 h2
  exact fits_intCast h2 h1

theorem roundF_ev {q : Rat} {p : Int} (hq : Fits q) (h1 : -12 ≤ p) (h2 : p ≤ 6) : Ev (fun k => num_Round.f k q.num q.den p) (res (roundR q p)) := by
  have := round_ev (i64_num hq) (i64_den hq) (p := p) (by unfold I64; omega)
  rw [rat_of_fits hq] at this
  unfold roundQ at this
  rwa [if_neg (by omega)] at this

theorem rounds_j4 {q : Rat} {p : Int} (hq : Fits q) : Ev (fun k => whittlelaw1_NumRounds.j4 k p (res (roundR q p)).2.2 false q.num q.den (res (roundR q p)).1 (res (roundR q p)).2.1) true := by
  refine Ev.step (fun k => by simp only [whittlelaw1_NumRounds.j4]; exact if_neg (by simp)) ?_
  by_cases p0 : p = 0
  · refine Ev.ite_pos p0 ?_
    subst p0
    have hf := floorF_ev (i64_num hq) (i64_den hq)
    rw [rat_of_fits hq] at hf
    refine Ev.bind hf (Ev.bind0 (show whittlelaw1_one.f = some (1, 1) from rfl) ?_)
    have hff := (floor_fits hq).1
    have ha := addF_ev hff fits_one
    refine Ev.bind ha ?_
    have hn := near_fits hq
    rw [roundR_zero, res_pos hn]
    refine Ev.ite_pos rfl ?_
    have last : Ev (fun _ => if (q.den : Int) > 1 then some true else some ((near q 1 : Rat).num == q.num && (((near q 1 : Rat).den : Int) == (q.den : Int)))) true := by
      by_cases hd : (q.den : Int) > 1
      · exact Ev.ite_pos hd (Ev.now _)
      · refine Ev.ite_neg hd (Ev.const ?_)
        have hden := q.den_pos
        have e : q = (q.num : Rat) := Rat.ext (by rw [Rat.num_intCast]) (by rw [Rat.den_intCast]; omega)
        have e2 : (near q 1 : Rat) = q := by
          conv => lhs; rw [e, near_int]
          exact e.symm
        rw [e2]; simp
    rcases near_one q with h | h
    · rw [h] at hn ⊢
      rw [h] at last
      exact Ev.ite_pos (by simp [nd]) last
    · by_cases hc : ((near q 1 : Rat).num == (nd ((q.floor : Int) : Rat)).1 && (((near q 1 : Rat).den : Int) == (nd ((q.floor : Int) : Rat)).2)) = true
      · exact Ev.ite_pos hc last
      · refine Ev.ite_neg hc ?_
        have e : ((q.floor : Int) : Rat) + 1 = (near q 1 : Rat) := by rw [h, Rat.intCast_add]; rfl
        rw [e, res_pos hn]
        exact Ev.ite_pos rfl (Ev.ite_pos (by simp) last)
  · exact Ev.ite_neg p0 (Ev.now _)

theorem rounds_j3 {q r : Rat} {p : Int} (hq : Fits q) (hr : Fits r) : Ev (fun k => whittlelaw1_NumRounds.j3 k p (res (roundR q p)).2.2 (res (roundR r p)).2.2 q.num q.den r.num r.den (res (roundR q p)).1 (res (roundR q p)).2.1 (res (roundR r p)).1 (res (roundR r p)).2.1) true := by
  refine Ev.step (fun k => by simp only [whittlelaw1_NumRounds.j3]; rfl) ?_
  have last := rounds_j4 (p := p) hq
  by_cases h1 : Fits (roundR q p)
  · refine Ev.ite_pos ((res_ok _).2 h1) ?_
    by_cases h2 : Fits (roundR r p)
    · refine Ev.ite_pos ((res_ok _).2 h2) (Ev.bind (cmpF_ev hq hr) ?_)
      by_cases h3 : cmpQ q r ≤ 0
      · refine Ev.ite_pos h3 ?_
        have h4 := roundR_mono p (cmpQ_le.1 h3)
        have h5 := cmpF_ev h1 h2
        have h6 := cmpQ_le.2 h4
        rw [res_pos h1, res_pos h2]
        rw [res_pos h1] at last
        refine Ev.bind h5 ?_
        rw [decide_eq_false (by omega)]
        exact last
      · exact Ev.ite_neg h3 last
    · exact Ev.ite_neg (fun h => h2 ((res_ok _).1 h)) last
  · exact Ev.ite_neg (fun h => h1 ((res_ok _).1 h)) last

theorem rounds_j2 {q r : Rat} {p : Int} (hq : Fits q) (hr : Fits r) (p1 : -12 ≤ p) (p2 : p ≤ 6) : Ev (fun k => whittlelaw1_NumRounds.j2 k p (res (roundR q p)).2.2 (res (roundR r p)).2.2 false q.num q.den r.num r.den (res (roundR q p)).1 (res (roundR q p)).2.1 (res (roundR r p)).1 (res (roundR r p)).2.1) true := by
  refine Ev.step (fun k => by simp only [whittlelaw1_NumRounds.j2]; exact if_neg (by simp)) ?_
  have last := rounds_j3 (p := p) hq hr
  by_cases h1 : Fits (roundR q p)
  · refine Ev.ite_pos ((res_ok _).2 h1) ?_
    rw [res_pos h1] at last ⊢
    have h2 := roundF_ev h1 p1 p2
    rw [roundR_again, res_pos h1] at h2
    exact Ev.bind h2 (Ev.ite_pos rfl (Ev.ite_neg (by simp) (Ev.bind (rightF_ev h1) (Ev.ite_pos rfl last))))
  · exact Ev.ite_neg (fun h => h1 ((res_ok _).1 h)) last

theorem rounds_j1 {q r : Rat} {p : Int} (hq : Fits q) (hr : Fits r) (p1 : -12 ≤ p) (p2 : p ≤ 6) : Ev (fun k => whittlelaw1_NumRounds.j1 k p (res (roundR q p)).2.2 (res (roundR r p)).2.2 false q.num q.den r.num r.den (res (roundR q p)).1 (res (roundR q p)).2.1 (res (roundR r p)).1 (res (roundR r p)).2.1) true := by
  refine Ev.step (fun k => by simp only [whittlelaw1_NumRounds.j1]; exact if_neg (by simp)) ?_
  have hn := neg_ev (i64_num hq) (i64_den hq)
  rw [rat_of_fits hq] at hn
  refine Ev.bind hn ?_
  refine Ev.bind (roundF_ev (fits_neg hq) p1 p2) ?_
  rw [roundR_neg]
  have last := rounds_j2 hq hr p1 p2
  have hnf : Fits (-roundR q p) ↔ Fits (roundR q p) := ⟨fun h => by have := fits_neg h; rwa [Rat.neg_neg] at this, fits_neg⟩
  by_cases h1 : Fits (roundR q p)
  · have h2 := hnf.2 h1
    rw [res_pos h1] at last ⊢
    rw [res_pos h2]
    refine Ev.ite_neg (by simp) (Ev.ite_pos rfl ?_)
    have h3 := neg_ev (i64_num h1) (i64_den h1)
    rw [rat_of_fits h1] at h3
    refine Ev.bind h3 ?_
    unfold nd
    rw [beq_self_eq_true, beq_self_eq_true]
    exact last
  · have h2 : ¬ Fits (-roundR q p) := fun h => h1 (hnf.1 h)
    rw [res_neg h1] at last ⊢
    rw [res_neg h2]
    exact Ev.ite_neg (by simp) (Ev.ite_neg (by simp) last)

theorem rounds_bad {q r : Rat} {p : Int} (h : p < -12 ∨ p > 6) : Ev (fun k => whittlelaw1_NumRounds.j1 k p (roundQ q p).2.2 (roundQ r p).2.2 true q.num q.den r.num r.den (roundQ q p).1 (roundQ q p).2.1 (roundQ r p).1 (roundQ r p).2.1) true := by
  refine Ev.step (fun k => by simp only [whittlelaw1_NumRounds.j1, if_true]; rfl) ?_
  unfold roundQ
  rw [if_pos h, if_pos h]
  exact Ev.ite_neg (by simp) (Ev.now _)

theorem rounds_j0 {q r : Rat} {p : Int} (hq : Fits q) (hr : Fits r) (hp : I64 p) : Ev (fun k => whittlelaw1_NumRounds.j0 k p false q.num q.den r.num r.den) true := by
  refine Ev.step (fun k => by simp only [whittlelaw1_NumRounds.j0]; exact if_neg (by simp)) ?_
  have e1 := round_ev (i64_num hq) (i64_den hq) hp
  have e2 := round_ev (i64_num hr) (i64_den hr) hp
  rw [rat_of_fits hq] at e1
  rw [rat_of_fits hr] at e2
  refine Ev.bind e1 (Ev.bind e2 ?_)
  by_cases p1 : p < -12
  · exact Ev.ite_pos p1 (rounds_bad (Or.inl p1))
  · refine Ev.ite_neg p1 ?_
    by_cases p2 : p > 6
    · rw [decide_eq_true p2]; exact rounds_bad (Or.inr p2)
    · rw [decide_eq_false p2]
      unfold roundQ
      rw [if_neg (by omega), if_neg (by omega)]
      exact rounds_j1 hq hr (by omega) (by omega)

theorem NumRounds_pure (n d m e p : Int) (hn : I64 n) (hd : I64 d) (hm : I64 m) (he : I64 e) (hp : I64 p) : ∃ r, whittlelaw1_NumRounds.f r n d m e p = some true := by
  refine Ev.rounds ?_
  unfold whittlelaw1_NumRounds.f
  refine Ev.bind able_ev (Ev.ite_pos rfl (Ev.bind (rightL_ev hn hd) ?_))
  have no : ∀ n d m e, Ev (fun k => whittlelaw1_NumRounds.j0 k p true n d m e) true := fun _ _ _ _ => Ev.step (fun k => by simp only [whittlelaw1_NumRounds.j0, if_true]) (Ev.bind able_ev (Ev.now _))
  by_cases h : RightP n d
  · rw [decide_eq_true h]
    refine Ev.ite_pos rfl (Ev.bind (rightL_ev hm he) ?_)
    by_cases h' : RightP m e
    · rw [decide_eq_true h']
      obtain ⟨q, hq, rfl, rfl⟩ := of_right h
      obtain ⟨r, hr, rfl, rfl⟩ := of_right h'
      exact rounds_j0 hq hr hp
    · rw [decide_eq_false h']
      exact no _ _ _ _
  · rw [decide_eq_false h]
    exact Ev.ite_neg (by simp) (no _ _ _ _)
end Go.Proofs.YtlcjfabbnclalaaDoor.F
