/-
NumSums, plainly: what Sum of the program and of the reference come to, over any list of numbers: the same.
-/
import Derived.Test.YtlcjfabbnclalaaDoorF19
import Derived.Test.YtlcjfabbnclalaaDoorF20
import Derived.Test.YtlcjfabbnclalaaDoorM5
namespace Go.Proofs.YtlcjfabbnclalaaDoor.F
open Go.RowKit Go.Proofs.YtlcjfabbnclalaaDoorW.PrintWords NumM
set_option linter.unusedVariables false
set_option linter.unusedSimpArgs false

theorem resS_pos {q : Rat} (h : Fits q) : res q = (q.num, (q.den : Int), true) := by unfold res; rw [if_pos h]
theorem resS_neg {q : Rat} (h : ¬ Fits q) : res q = (0, 0, false) := by unfold res; rw [if_neg h]
theorem fitsS_zero : Fits 0 := by decide
/-- a sum, one by one -/
def sumQ : Rat → List Rat → Int × Int × Bool
  | s, [] => (s.num, (s.den : Int), true)
  | s, q :: l => if Fits (s + q) then sumQ (s + q) l else (0, 0, false)
/-- what an entry counts as -/
def ratS (x : S23) : Rat := rat x.f0 x.f1
theorem rd_at (xs : List S23) (i : Nat) (hi : i < xs.length) : rd_T23 xs (i : Int) = xs[i] := by
  unfold rd_T23
  rw [Int.toNat_natCast, List.getD_eq_getElem?_getD, List.getElem?_eq_getElem hi, Option.getD_some]

theorem sum_loop (xs : List S23) (hx : ∀ x ∈ xs, I64 x.f0 ∧ I64 x.f1) (hl : xs.length ≤ 9223372036854775807) : ∀ (j i : Nat) (s : Rat), xs.length - i = j → i ≤ xs.length → Fits s → Ev (fun k => num_Sum.l0 k xs (xs.length : Int) i s.num s.den) (sumQ s ((xs.drop i).map ratS)) := by
  intro j
  induction j with
  | zero =>
    intro i s hj hi hs
    have e : i = xs.length := by omega
    subst e
    rw [List.drop_length]
    exact Ev.step (f := fun _ => some (s.num, (s.den : Int), true)) (fun k => by simp only [num_Sum.l0]; exact if_neg (by omega)) (Ev.now _)
  | succ j ih =>
    intro i s hj hi hs
    have hi' : i < xs.length := by omega
    refine Ev.step (fun k => by simp only [num_Sum.l0]; exact if_pos (by omega)) ?_
    refine Ev.ite_pos (by omega) (Ev.ite_pos (by omega) ?_)
    rw [rd_at xs i hi', List.drop_eq_getElem_cons hi', List.map_cons]
    obtain ⟨h1, h2⟩ := hx xs[i] (List.getElem_mem hi')
    have ha := add_ev (i64_num hs) (i64_den hs) h1 h2
    rw [rat_of_fits hs] at ha
    refine Ev.bind ha ?_
    show Ev _ (if Fits (s + ratS xs[i]) then sumQ (s + ratS xs[i]) ((xs.drop (i + 1)).map ratS) else (0, 0, false))
    unfold ratS
    by_cases hf : Fits (s + rat xs[i].f0 xs[i].f1)
    · rw [resS_pos hf, if_pos hf]
      refine Ev.ite_pos rfl ?_
      rw [w64 (x := (i : Int) + 1) (by unfold I64; omega)]
      exact ih (i + 1) _ (by omega) (by omega) hf
    · rw [resS_neg hf, if_neg hf]
      exact Ev.ite_neg (by simp) (Ev.now _)
theorem sum_ev (xs : List S23) (hx : ∀ x ∈ xs, I64 x.f0 ∧ I64 x.f1) (hl : xs.length ≤ 9223372036854775807) : Ev (fun k => num_Sum.f k xs) (sumQ 0 (xs.map ratS)) :=
  sum_loop xs hx hl xs.length 0 0 rfl (by omega) fitsS_zero

theorem sumR_loop (xs : List S23) (hx : ∀ x ∈ xs, I64 x.f0 ∧ I64 x.f1) (hl : xs.length ≤ 9223372036854775807) : ∀ (j i : Nat) (s : Rat), xs.length - i = j → i ≤ xs.length → Fits s → Ev (fun k => whittleref1_Sum.l0 k xs i s.num s.den) (sumQ s ((xs.drop i).map ratS)) := by
  intro j
  induction j with
  | zero =>
    intro i s hj hi hs
    have e : i = xs.length := by omega
    subst e
    rw [List.drop_length]
    exact Ev.step (f := fun _ => some (s.num, (s.den : Int), true)) (fun k => by simp only [whittleref1_Sum.l0]; exact if_neg (by omega)) (Ev.now _)
  | succ j ih =>
    intro i s hj hi hs
    have hi' : i < xs.length := by omega
    refine Ev.step (fun k => by simp only [whittleref1_Sum.l0]; exact if_pos (by omega)) ?_
    refine Ev.ite_pos (by omega) ?_
    rw [rd_at xs i hi', List.drop_eq_getElem_cons hi', List.map_cons]
    obtain ⟨h1, h2⟩ := hx xs[i] (List.getElem_mem hi')
    have ha := addR_ev (i64_num hs) (i64_den hs) h1 h2
    rw [rat_of_fits hs] at ha
    refine Ev.bind ha ?_
    show Ev _ (if Fits (s + ratS xs[i]) then sumQ (s + ratS xs[i]) ((xs.drop (i + 1)).map ratS) else (0, 0, false))
    unfold ratS
    by_cases hf : Fits (s + rat xs[i].f0 xs[i].f1)
    · rw [resS_pos hf, if_pos hf]
      refine Ev.ite_pos rfl ?_
      rw [w64 (x := (i : Int) + 1) (by unfold I64; omega)]
      exact ih (i + 1) _ (by omega) (by omega) hf
    · rw [resS_neg hf, if_neg hf]
      exact Ev.ite_neg (by simp) (Ev.now _)
theorem sumR_ev (xs : List S23) (hx : ∀ x ∈ xs, I64 x.f0 ∧ I64 x.f1) (hl : xs.length ≤ 9223372036854775807) : Ev (fun k => whittleref1_Sum.f k xs) (sumQ 0 (xs.map ratS)) :=
  sumR_loop xs hx hl xs.length 0 0 rfl (by omega) fitsS_zero

theorem NumSums_pure (xs : List S23) (hx : ∀ x ∈ xs, I64 x.f0 ∧ I64 x.f1) (hl : xs.length ≤ 9223372036854775807) : ∃ (k : Nat) (r1 r2 : Int) (r3 : Bool), num_Sum.f k xs = some (r1, r2, r3) ∧ whittleref1_Sum.f k xs = some (r1, r2, r3) ∧ whittlelaw1_able.f k = some true := by
  obtain ⟨k1, h1⟩ := sum_ev xs hx hl
  obtain ⟨k2, h2⟩ := sumR_ev xs hx hl
  obtain ⟨k3, h3⟩ := able_ev
  exact ⟨max k1 (max k2 k3), _, _, _, h1 _ (by omega), h2 _ (by omega), h3 _ (by omega)⟩
end Go.Proofs.YtlcjfabbnclalaaDoor.F
