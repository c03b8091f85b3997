/-
NumFloors, plainly: where Floor and Mod lie; a number is Mod and a whole multiple.
-/
import Derived.Test.YtlcjfabbnclalaaDoorF37
import Derived.Test.YtlcjfabbnclalaaDoorKNumFloors
namespace Go.Proofs.YtlcjfabbnclalaaDoor.F
open Go.RowKit Go.Proofs.YtlcjfabbnclalaaDoorW.PrintWords NumM
set_option linter.unusedVariables false

/-- where a rest lies -/
theorem mod_lies {p q : Rat} (hq : q ≠ 0) : (0 < q → 0 ≤ p - q * ((p / q).floor : Rat) ∧ p - q * ((p / q).floor : Rat) < q) ∧ (q < 0 → q < p - q * ((p / q).floor : Rat) ∧ p - q * ((p / q).floor : Rat) ≤ 0) := by
  have h1 := Rat.floor_le (p / q)
  have h2 := Rat.lt_floor_add_one (p / q)
  rw [Rat.intCast_add] at h2
  have h2' : p / q < ((p / q).floor : Rat) + 1 := h2
  generalize ((p / q).floor : Rat) = f at *
  have e : p / q * q = p := Rat.div_mul_cancel hq
  constructor
  · intro h
    have a1 := Rat.mul_le_mul_of_nonneg_right h1 (Rat.le_of_lt h)
    have a2 := Rat.mul_lt_mul_of_pos_right h2' h
    rw [e] at a1 a2
    constructor <;> grind
  · intro h
    have hn : 0 < -q := by grind
    have a1 := Rat.mul_le_mul_of_nonneg_right h1 (Rat.le_of_lt hn)
    have a2 := Rat.mul_lt_mul_of_pos_right h2' hn
    rw [Rat.mul_neg, Rat.mul_neg, e] at a1
    rw [Rat.mul_neg, e] at a2
    constructor <;> grind

theorem floors_j3 {p q m : Rat} (hp : Fits p) (hq : Fits q) (hm : Fits m) (h0 : q ≠ 0) (hmm : m = p - q * ((p / q).floor : Rat)) : Ev (fun k => whittlelaw1_NumFloors.j3 k false p.num p.den q.num q.den m.num m.den) true := by
  refine Ev.step (fun k => by simp only [whittlelaw1_NumFloors.j3]; exact if_neg (by simp)) ?_
  refine Ev.bind (subF_ev hp hm) ?_
  by_cases h1 : Fits (p - m)
  · rw [res_pos h1]
    have hd := div_ev (i64_num h1) (i64_den h1) (i64_num hq) (i64_den hq)
    rw [rat_of_fits h1, rat_of_fits hq, if_neg h0] at hd
    refine Ev.bind hd (Ev.ite_pos rfl ?_)
    by_cases h2 : Fits ((p - m) / q)
    · rw [res_pos h2]
      refine Ev.ite_pos rfl ?_
      have hw := whole_ev (i64_num h2) (i64_den h2)
      rw [rat_of_fits h2] at hw
      refine Ev.bind hw (Ev.const ?_)
      have e : (p - m) / q = ((p / q).floor : Rat) := by
        rw [hmm]
        generalize ((p / q).floor : Rat) = f
        grind
      unfold wholeQ
      rw [e, Rat.den_intCast, if_pos rfl]
    · rw [res_neg h2]; exact Ev.ite_neg (by simp) (Ev.now _)
  · rw [res_neg h1]
    have hd := div_ev (n := 0) (d := 0) (by unfold I64; omega) (by unfold I64; omega) (i64_num hq) (i64_den hq)
    refine Ev.bind hd ?_
    exact Ev.ite_neg (by simp) (Ev.now _)

theorem floors_j2 {p q : Rat} (hp : Fits p) (hq : Fits q) : Ev (fun k => whittlelaw1_NumFloors.j2 k false p.num p.den q.num q.den) true := by
  refine Ev.step (fun k => by simp only [whittlelaw1_NumFloors.j2]; exact if_neg (by simp)) ?_
  have hm := mod_ev (i64_num hp) (i64_den hp) (i64_num hq) (i64_den hq)
  rw [rat_of_fits hp, rat_of_fits hq] at hm
  refine Ev.bind hm ?_
  unfold modQ'
  by_cases h0 : q = 0
  · rw [if_pos h0]
    exact Ev.ite_pos (Rat.num_eq_zero.2 h0) (Ev.now _)
  · rw [if_neg h0]
    refine Ev.ite_neg (fun h => h0 (Rat.num_eq_zero.1 h)) ?_
    have hl := mod_lies (p := p) h0
    generalize hmm : p - q * ((p / q).floor : Rat) = m at *
    by_cases h1 : Fits m
    · rw [res_pos h1]
      refine Ev.ite_pos rfl ?_
      refine Ev.bind0 (show whittlelaw1_zero.f = some (0, 1) from rfl) (Ev.bind (cmpF_ev hq fits_zero) ?_)
      refine Ev.bind0 (show whittlelaw1_zero.f = some (0, 1) from rfl) (Ev.bind (cmpF_ev h1 fits_zero) ?_)
      have r1 := cmpQ_range q 0
      have r2 := cmpQ_range m 0
      have r3 := cmpQ_range m q
      rw [w64 (x := -cmpQ q 0) (by unfold I64; omega)]
      have hne : q < 0 ∨ 0 < q := by
        rcases lt_or_ge q 0 with h | h
        · exact Or.inl h
        · exact Or.inr (Rat.lt_of_le_of_ne h (fun h' => h0 h'.symm))
      have key : ¬ cmpQ m 0 = -cmpQ q 0 ∧ ¬ cmpQ m q * cmpQ q 0 ≥ 0 := by
        rcases hne with h | h
        · obtain ⟨l1, l2⟩ := hl.2 h
          rw [cmpQ_lt.2 h, cmpQ_gt.2 l1]
          have := cmpQ_le.2 l2
          exact ⟨by omega, by omega⟩
        · obtain ⟨l1, l2⟩ := hl.1 h
          rw [cmpQ_gt.2 h, cmpQ_lt.2 l2]
          have := cmpQ_le.2 l1
          rw [cmpQ_swap] at this
          exact ⟨by omega, by omega⟩
      refine Ev.ite_neg key.1 (Ev.bind (cmpF_ev h1 hq) ?_)
      rw [w64 (x := cmpQ m q * cmpQ q 0) (by rcases r3 with h | h | h <;> rcases r1 with h' | h' | h' <;> rw [h, h'] <;> unfold I64 <;> omega), decide_eq_false key.2]
      exact floors_j3 hp hq h1 h0 hmm.symm
    · rw [res_neg h1]; exact Ev.ite_neg (by simp) (Ev.now _)

theorem floors_j0 {p q : Rat} (hp : Fits p) (hq : Fits q) : Ev (fun k => whittlelaw1_NumFloors.j0 k false p.num p.den q.num q.den) true := by
  refine Ev.step (fun k => by simp only [whittlelaw1_NumFloors.j0]; exact if_neg (by simp)) ?_
  have hf := floorF_ev (i64_num hp) (i64_den hp)
  rw [rat_of_fits hp] at hf
  refine Ev.bind hf ?_
  obtain ⟨ff, f1, f2⟩ := floor_fits hp
  have hw := whole_ev (i64_num ff) (i64_den ff)
  rw [rat_of_fits ff] at hw
  have e1 : nd ((p.floor : Int) : Rat) = (p.floor, 1) := rfl
  have e2 : wholeQ ((p.floor : Int) : Rat) = (p.floor, true) := rfl
  rw [e2] at hw
  rw [e1]
  refine Ev.bind hw (Ev.ite_pos rfl (Ev.ite_pos rfl (Ev.ite_pos rfl ?_)))
  have hc := cmpF_ev ff hp
  refine Ev.bind hc ?_
  have hle := cmpQ_le.2 (Rat.floor_le p)
  rw [decide_eq_false (show ¬ cmpQ ((p.floor : Int) : Rat) p > 0 by omega)]
  refine Ev.step (fun k => by simp only [whittlelaw1_NumFloors.j1]; exact if_neg (by simp)) ?_
  refine Ev.bind0 (show whittlelaw1_one.f = some (1, 1) from rfl) (Ev.bind (addF_ev ff fits_one) ?_)
  by_cases h1 : Fits (((p.floor : Int) : Rat) + 1)
  · rw [res_pos h1]
    refine Ev.ite_pos rfl (Ev.bind (cmpF_ev hp h1) ?_)
    have hlt : p < ((p.floor : Int) : Rat) + 1 := by
      have := Rat.lt_floor_add_one p
      rw [Rat.intCast_add] at this
      exact this
    rw [cmpQ_lt.2 hlt, decide_eq_false (show ¬ (-1 : Int) ≥ 0 by omega)]
    exact floors_j2 hp hq
  · rw [res_neg h1]; exact Ev.ite_neg (by simp) (floors_j2 hp hq)

theorem NumFloors_pure (n d m e : Int) (hn : I64 n) (hd : I64 d) (hm : I64 m) (he : I64 e) : ∃ k, whittlelaw1_NumFloors.f k n d m e = some true := by
  refine Ev.rounds ?_
  have bad : Ev (fun k => whittlelaw1_NumFloors.j0 k true n d m e) true := by
    refine Ev.step (fun k => by simp only [whittlelaw1_NumFloors.j0, if_true]; rfl) ?_
    exact Ev.bind able_ev (Ev.now _)
  unfold whittlelaw1_NumFloors.f
  refine Ev.bind able_ev (Ev.ite_pos rfl (Ev.bind (rightL_ev hn hd) ?_))
  by_cases h1 : RightP n d
  · rw [decide_eq_true h1]
    refine Ev.ite_pos rfl (Ev.bind (rightL_ev hm he) ?_)
    by_cases h2 : RightP m e
    · rw [decide_eq_true h2]
      obtain ⟨p, hp, rfl, rfl⟩ := of_right h1
      obtain ⟨q, hq, rfl, rfl⟩ := of_right h2
      exact floors_j0 hp hq
    · rw [decide_eq_false h2]; exact bad
  · rw [decide_eq_false h1]; exact Ev.ite_neg (by simp) bad
end Go.Proofs.YtlcjfabbnclalaaDoor.F
