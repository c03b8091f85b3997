/-
The reference's values, more: orders; what typed contents are; how a value is shown: the same as the program's.
-/
import Derived.Test.YtmakkdlkgfgaoaaGreatDoorF109
import Derived.Test.YtmakkdlkgfgaoaaGreatDoorU2
import Derived.Test.YtmakkdlkgfgaoaaGreatDoorV3
namespace Go.Proofs.YtmakkdlkgfgaoaaGreatDoor.F
open Go.RowKit Go.Proofs.YtmakkdlkgfgaoaaGreatDoorW.PrintWords NumM
set_option linter.unusedVariables false
set_option linter.unusedSimpArgs false

theorem ras_eq (a : W) (k : Int) : whittleref2_as.f (enc a).1 (enc a).2.1 (enc a).2.2.1 (enc a).2.2.2.1 (enc a).2.2.2.2.1 (enc a).2.2.2.2.2 k = some (enc (asKind a k)) := by
  unfold whittleref2_as.f
  cases a with
  | blank =>
    rw [if_pos (by rfl)]
    unfold asKind
    simp only
    by_cases h1 : k = 1
    · rw [if_pos h1, if_pos h1]; rfl
    rw [if_neg h1, if_neg h1]
    by_cases h2 : k = 2
    · subst h2; rfl
    rw [if_neg h2, if_neg h2]
    by_cases h3 : k = 3
    · subst h3; rfl
    rw [if_neg h3, if_neg h3]
  | num q => exact if_neg (show ¬ ((1 : Int) = 0) by decide)
  | text l => exact if_neg (show ¬ ((2 : Int) = 0) by decide)
  | truth b => exact if_neg (show ¬ ((3 : Int) = 0) by decide)
  | fault c => exact if_neg (show ¬ ((4 : Int) = 0) by decide)
theorem ras_w (a b : W) : whittleref2_as.f (enc a).1 (enc a).2.1 (enc a).2.2.1 (enc a).2.2.2.1 (enc a).2.2.2.2.1 (enc a).2.2.2.2.2 (enc b).1 = some (enc (asKind a (kindW b))) := by
  rw [kind_enc b]
  exact ras_eq a _
theorem compare_less (l m : List UInt8) : Lib.compareBytes l m = if Op.bytesLess l m = true then -1 else if Op.bytesLess m l = true then 1 else 0 := by
  induction l generalizing m with
  | nil => cases m <;> simp [Lib.compareBytes, Op.bytesLess]
  | cons a l ih =>
    cases m with
    | nil => simp [Lib.compareBytes, Op.bytesLess]
    | cons b m =>
      simp only [Lib.compareBytes, Op.bytesLess]
      rcases Nat.lt_trichotomy a.toNat b.toNat with h | h | h
      · have h1 : a < b := UInt8.lt_iff_toNat_lt.2 h
        simp [h1]
      · obtain rfl := UInt8.toNat_inj.1 h
        have h1 : ¬ a < a := fun c => by have := UInt8.lt_iff_toNat_lt.1 c; omega
        simp only [h1, if_false, ih m, decide_false, beq_self_eq_true, Bool.true_and, Bool.false_or]
      · have h1 : b < a := UInt8.lt_iff_toNat_lt.2 h
        have h2 : ¬ a < b := fun c => by have := UInt8.lt_iff_toNat_lt.1 c; omega
        have h3 : (a == b) = false := by simp only [beq_eq_false_iff_ne]; rintro rfl; omega
        simp [h1, h2, h3]
theorem rorder_eq (a b : Int) : whittleref2_order.f a b = some (if a < b then -1 else if b < a then 1 else 0) := by
  unfold whittleref2_order.f
  by_cases h1 : a < b
  · rw [if_pos h1, if_pos h1]
  · rw [if_neg h1, if_neg h1]
    by_cases h2 : a > b
    · rw [if_pos h2, if_pos h2]
    · rw [if_neg h2, if_neg h2]
theorem rrank_eq (x : W) : whittleref2_rank.f (enc x).1 = some (kindW x) := by cases x <;> rfl
theorem rcmp_ev (v u : V) (h : BV v) (h' : BV u) : Ev (fun k => whittleref2_Cmp.f k v.1 v.2.1 v.2.2.1 v.2.2.2.1 v.2.2.2.2.1 v.2.2.2.2.2 u.1 u.2.1 u.2.2.1 u.2.2.2.1 u.2.2.2.2.1 u.2.2.2.2.2) (cmpW (tk v) (tk u)) := by
  unfold whittleref2_Cmp.f cmpW
  refine Ev.bind (rof_ev v h) (Ev.bind (rof_ev u h') ?_)
  have ok := ok_tk v
  have ok' := ok_tk u
  generalize tk v = a at ok ⊢
  generalize tk u = b at ok' ⊢
  refine Ev.bind (Ev.const (ras_w a b)) (Ev.bind (Ev.const (ras_w b a)) ?_)
  have hx := asKind_ok ok (kindW b)
  have hy := asKind_ok ok' (kindW a)
  generalize asKind a (kindW b) = x at hx ⊢
  generalize asKind b (kindW a) = y at hy ⊢
  by_cases hk : (enc x).1 = (enc y).1
  · refine Ev.ite_pos hk ?_
    rw [kind_enc, kind_enc] at hk
    cases x with
    | blank =>
      cases y <;> simp [kindW] at hk
      exact Ev.ite_neg (by decide) (Ev.ite_neg (by decide) (Ev.ite_neg (by decide) (Ev.const rfl)))
    | num p =>
      cases y <;> simp [kindW] at hk
      rename_i q
      refine Ev.ite_pos rfl ?_
      have := cmpR_ev (i64_num hx) (i64_den hx) (i64_num hy) (i64_den hy)
      rw [rat_of_fits hx, rat_of_fits hy] at this
      exact Ev.bind this (Ev.now _)
    | text l =>
      cases y <;> simp [kindW] at hk
      rename_i m
      refine Ev.ite_neg (show ¬ ((2 : Int) = 1) by decide) (Ev.ite_pos rfl (Ev.const ?_))
      simp only [enc, by_toList]
      show _ = some (Lib.compareBytes l m)
      rw [compare_less]
      by_cases h1 : Op.bytesLess l m = true
      · rw [if_pos h1, if_pos h1]
      rw [if_neg h1, if_neg h1]
      by_cases h2 : Op.bytesLess m l = true
      · rw [if_pos h2, if_pos h2]
      · rw [if_neg h2, if_neg h2]
    | truth s =>
      cases y <;> simp [kindW] at hk
      rename_i t
      refine Ev.ite_neg (show ¬ ((3 : Int) = 1) by decide) (Ev.ite_neg (show ¬ ((3 : Int) = 2) by decide) (Ev.ite_pos rfl (Ev.const ?_)))
      cases s <;> cases t <;> rfl
    | fault c =>
      cases y <;> simp [kindW] at hk
      rename_i d
      refine Ev.ite_neg (show ¬ ((4 : Int) = 1) by decide) (Ev.ite_neg (show ¬ ((4 : Int) = 2) by decide) (Ev.ite_neg (show ¬ ((4 : Int) = 3) by decide) (Ev.const ?_)))
      simp only [enc, rorder_eq]; rfl
  · refine Ev.ite_neg hk (Ev.bind (Ev.const (rrank_eq x)) (Ev.bind (Ev.const (rrank_eq y)) (Ev.const ?_)))
    rw [kind_enc, kind_enc] at hk
    rw [rorder_eq]
    cases x <;> cases y <;> first | exact absurd rfl hk | rfl
theorem recmp_ev {a b : W} (h : a.Ok) (h' : b.Ok) : Ev (fun k => whittleref2_Cmp.f k (enc a).1 (enc a).2.1 (enc a).2.2.1 (enc a).2.2.2.1 (enc a).2.2.2.2.1 (enc a).2.2.2.2.2 (enc b).1 (enc b).2.1 (enc b).2.2.1 (enc b).2.2.2.1 (enc b).2.2.2.2.1 (enc b).2.2.2.2.2) (cmpW a b) := by
  have := rcmp_ev (enc a) (enc b) (bv_enc h) (bv_enc h')
  rw [tk_enc h, tk_enc h'] at this
  exact this
end Go.Proofs.YtmakkdlkgfgaoaaGreatDoor.F
