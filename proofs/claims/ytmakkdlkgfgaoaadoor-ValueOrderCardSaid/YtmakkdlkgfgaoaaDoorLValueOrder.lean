/-
ValueOrder, plainly: among right values that are neither Blank nor Faults Cmp is an order.
-/
import Derived.Test.YtmakkdlkgfgaoaaDoorF103
import Derived.Test.YtmakkdlkgfgaoaaDoorF120
import Derived.Test.YtmakkdlkgfgaoaaDoorA0
import Derived.Test.YtmakkdlkgfgaoaaDoorV3
namespace Go.Proofs.YtmakkdlkgfgaoaaDoor.F
open Go.RowKit Go.Proofs.YtmakkdlkgfgaoaaDoorW.PrintWords NumM
set_option linter.unusedVariables false
set_option linter.unusedSimpArgs false
theorem cmpQ_range (p q : Rat) : cmpQ p q = -1 ∨ cmpQ p q = 0 ∨ cmpQ p q = 1 := by unfold cmpQ; split; exact Or.inl rfl; split; exact Or.inr (Or.inr rfl); exact Or.inr (Or.inl rfl)
theorem cmpQ_lt {p q : Rat} : cmpQ p q = -1 ↔ p < q := by
  unfold cmpQ
  constructor
  · intro h
    split at h
    · assumption
    · split at h <;> omega
  · intro h; rw [if_pos h]
theorem cmpQ_gt {p q : Rat} : cmpQ p q = 1 ↔ q < p := by
  unfold cmpQ
  constructor
  · intro h
    split at h
    · omega
    · split at h
      · assumption
      · omega
  · intro h; rw [if_neg (Rat.not_lt.2 (Rat.le_of_lt h)), if_pos h]
theorem cmpQ_eq {p q : Rat} : cmpQ p q = 0 ↔ p = q := by
  constructor
  · intro h
    have h1 : ¬ p < q := fun h' => by have := cmpQ_lt.2 h'; omega
    have h2 : ¬ q < p := fun h' => by have := cmpQ_gt.2 h'; omega
    exact Rat.le_antisymm (Rat.not_lt.1 h2) (Rat.not_lt.1 h1)
  · rintro rfl
    unfold cmpQ
    rw [if_neg Rat.lt_irrefl, if_neg Rat.lt_irrefl]
theorem cmpQ_swap (p q : Rat) : cmpQ q p = -cmpQ p q := by
  rcases cmpQ_range p q with h | h | h
  · have := cmpQ_lt.1 h; rw [h, cmpQ_gt.2 this]; rfl
  · have := cmpQ_eq.1 h; rw [h, this, cmpQ_eq.2 rfl]; rfl
  · have := cmpQ_gt.1 h; rw [h, cmpQ_lt.2 this]
theorem cmpQ_le {p q : Rat} : cmpQ p q ≤ 0 ↔ p ≤ q := by
  rcases cmpQ_range p q with h | h | h
  · have := cmpQ_lt.1 h; exact ⟨fun _ => Rat.le_of_lt this, fun _ => by omega⟩
  · have := cmpQ_eq.1 h; exact ⟨fun _ => by rw [this]; exact Rat.le_refl, fun _ => by omega⟩
  · have := cmpQ_gt.1 h; exact ⟨fun _ => by omega, fun h' => absurd this (Rat.not_lt.2 h')⟩
theorem u_lt {a b : UInt8} : a < b ↔ a.toNat < b.toNat := UInt8.lt_iff_toNat_lt
theorem u_eq {a b : UInt8} (h : a.toNat = b.toNat) : a = b := UInt8.toNat_inj.1 h
theorem cb_cons (a b : UInt8) (l m : List UInt8) : Lib.compareBytes (a :: l) (b :: m) = if a < b then -1 else if b < a then 1 else Lib.compareBytes l m := rfl
theorem cb_swap (l : List UInt8) : ∀ m, Lib.compareBytes m l = -Lib.compareBytes l m := by
  induction l with
  | nil => intro m; cases m <;> rfl
  | cons a l ih =>
    intro m
    cases m with
    | nil => rfl
    | cons b m =>
      rw [cb_cons, cb_cons, ih m]
      by_cases h1 : a < b
      · rw [if_neg (by rw [u_lt] at *; omega), if_pos h1, if_pos h1]
        rfl
      · rw [if_neg h1, if_neg h1]
        split <;> rfl
theorem cb_eq (l : List UInt8) : ∀ m, Lib.compareBytes l m = 0 ↔ l = m := by
  induction l with
  | nil => intro m; cases m <;> simp [Lib.compareBytes]
  | cons a l ih =>
    intro m
    cases m with
    | nil => simp [Lib.compareBytes]
    | cons b m =>
      rw [cb_cons]
      by_cases h1 : a < b
      · rw [if_pos h1]
        exact ⟨fun h => by omega, fun h => by cases h; rw [u_lt] at h1; omega⟩
      · rw [if_neg h1]
        by_cases h2 : b < a
        · rw [if_pos h2]
          exact ⟨fun h => by omega, fun h => by cases h; rw [u_lt] at h2; omega⟩
        · rw [if_neg h2, ih m]
          have e : a = b := u_eq (by rw [u_lt] at h1 h2; omega)
          subst e
          simp
theorem cb_range (l : List UInt8) : ∀ m, Lib.compareBytes l m = -1 ∨ Lib.compareBytes l m = 0 ∨ Lib.compareBytes l m = 1 := by
  induction l with
  | nil => intro m; cases m <;> simp [Lib.compareBytes]
  | cons a l ih =>
    intro m
    cases m with
    | nil => simp [Lib.compareBytes]
    | cons b m =>
      rw [cb_cons]
      split
      · exact Or.inl rfl
      split
      · exact Or.inr (Or.inr rfl)
      · exact ih m
theorem cb_le (a b : UInt8) (l m : List UInt8) : Lib.compareBytes (a :: l) (b :: m) ≤ 0 ↔ a.toNat < b.toNat ∨ (a.toNat = b.toNat ∧ Lib.compareBytes l m ≤ 0) := by
  rw [cb_cons]
  by_cases h1 : a < b
  · rw [if_pos h1]
    rw [u_lt] at h1
    exact ⟨fun _ => Or.inl h1, fun _ => by omega⟩
  · rw [if_neg h1]
    rw [u_lt] at h1
    by_cases h2 : b < a
    · rw [if_pos h2]
      rw [u_lt] at h2
      omega
    · rw [if_neg h2]
      rw [u_lt] at h2
      omega
theorem cb_trans (l : List UInt8) : ∀ m n, Lib.compareBytes l m ≤ 0 → Lib.compareBytes m n ≤ 0 → Lib.compareBytes l n ≤ 0 := by
  induction l with
  | nil => intro m n _ _; cases n <;> simp [Lib.compareBytes]
  | cons a l ih =>
    intro m n h1 h2
    cases m with
    | nil => exact absurd h1 (by simp [Lib.compareBytes])
    | cons b m =>
      cases n with
      | nil => exact absurd h2 (by simp [Lib.compareBytes])
      | cons c n =>
        rw [cb_le] at h1 h2 ⊢
        rcases h1 with h1 | ⟨h1, h3⟩
        · rcases h2 with h2 | ⟨h2, h4⟩ <;> exact Or.inl (by omega)
        · rcases h2 with h2 | ⟨h2, h4⟩
          · exact Or.inl (by omega)
          · exact Or.inr ⟨by omega, ih m n h3 h4⟩

theorem ord_lt {x y : W} (h : kindW x < kindW y) : ordW x y = -1 := by
  cases x <;> cases y <;> first | rfl | (simp [kindW] at h)
theorem ord_gt {x y : W} (h : kindW y < kindW x) : ordW x y = 1 := by
  cases x <;> cases y <;> first | rfl | (simp [kindW] at h)
theorem ord_range (x y : W) : ordW x y = -1 ∨ ordW x y = 0 ∨ ordW x y = 1 := by
  rcases Int.lt_trichotomy (kindW x) (kindW y) with h | h | h
  · exact Or.inl (ord_lt h)
  · cases x with
    | blank => cases y <;> simp [kindW] at h; exact Or.inr (Or.inl rfl)
    | num p => cases y <;> simp [kindW] at h; exact cmpQ_range _ _
    | text l => cases y <;> simp [kindW] at h; exact cb_range _ _
    | truth s =>
      cases y <;> simp [kindW] at h
      rename_i t
      cases s <;> cases t <;> simp [ordW]
    | fault c =>
      cases y <;> simp [kindW] at h
      simp only [ordW]
      split
      · exact Or.inl rfl
      split
      · exact Or.inr (Or.inr rfl)
      · exact Or.inr (Or.inl rfl)
  · exact Or.inr (Or.inr (ord_gt h))
theorem ord_swap (x y : W) : ordW y x = -ordW x y := by
  rcases Int.lt_trichotomy (kindW x) (kindW y) with h | h | h
  · rw [ord_lt h, ord_gt h]; rfl
  · cases x with
    | blank => cases y <;> simp [kindW] at h; rfl
    | num p => cases y <;> simp [kindW] at h; exact cmpQ_swap _ _
    | text l => cases y <;> simp [kindW] at h; exact cb_swap _ _
    | truth s =>
      cases y <;> simp [kindW] at h
      rename_i t
      cases s <;> cases t <;> rfl
    | fault c =>
      cases y <;> simp [kindW] at h
      rename_i d
      show (if d < c then (-1 : Int) else if c < d then 1 else 0) = -(if c < d then (-1 : Int) else if d < c then 1 else 0)
      by_cases h1 : c < d
      · rw [if_neg (by omega), if_pos h1, if_pos h1]; rfl
      · rw [if_neg h1, if_neg h1]
        split <;> rfl
  · rw [ord_lt h, ord_gt h]
theorem ord_eq {x y : W} : ordW x y = 0 ↔ x = y := by
  rcases Int.lt_trichotomy (kindW x) (kindW y) with h | h | h
  · rw [ord_lt h]
    exact ⟨fun e => by omega, fun e => by rw [e] at h; omega⟩
  · cases x with
    | blank => cases y <;> simp [kindW] at h; exact ⟨fun _ => rfl, fun _ => rfl⟩
    | num p => cases y <;> simp [kindW] at h; exact cmpQ_eq.trans ⟨fun e => by rw [e], fun e => by cases e; rfl⟩
    | text l => cases y <;> simp [kindW] at h; exact (cb_eq _ _).trans ⟨fun e => by rw [e], fun e => by cases e; rfl⟩
    | truth s =>
      cases y <;> simp [kindW] at h
      rename_i t
      cases s <;> cases t <;> simp [ordW]
    | fault c =>
      cases y <;> simp [kindW] at h
      rename_i d
      show (if c < d then (-1 : Int) else if d < c then 1 else 0) = 0 ↔ _
      constructor
      · intro e
        have : c = d := by
          by_cases h1 : c < d
          · rw [if_pos h1] at e; omega
          · rw [if_neg h1] at e
            by_cases h2 : d < c
            · rw [if_pos h2] at e; omega
            · omega
        rw [this]
      · intro e
        cases e
        rw [if_neg (by omega), if_neg (by omega)]
  · rw [ord_gt h]
    exact ⟨fun e => by omega, fun e => by rw [e] at h; omega⟩
theorem ord_trans {x y z : W} (h1 : ordW x y ≤ 0) (h2 : ordW y z ≤ 0) : ordW x z ≤ 0 := by
  have k1 : kindW x ≤ kindW y := by
    rcases (show (kindW y) < (kindW x) ∨ (kindW x) ≤ (kindW y) by omega) with h | h
    · rw [ord_gt h] at h1; omega
    · exact h
  have k2 : kindW y ≤ kindW z := by
    rcases (show (kindW z) < (kindW y) ∨ (kindW y) ≤ (kindW z) by omega) with h | h
    · rw [ord_gt h] at h2; omega
    · exact h
  rcases (show (kindW x) < (kindW z) ∨ (kindW z) ≤ (kindW x) by omega) with h | h
  · rw [ord_lt h]; omega
  have e1 : kindW x = kindW y := by omega
  have e2 : kindW y = kindW z := by omega
  clear k1 k2 h
  cases x with
  | blank =>
    cases y <;> simp [kindW] at e1
    cases z <;> simp [kindW] at e2
    exact h1
  | num p =>
    cases y <;> simp [kindW] at e1
    cases z <;> simp [kindW] at e2
    exact cmpQ_le.2 (Rat.le_trans (cmpQ_le.1 h1) (cmpQ_le.1 h2))
  | text l =>
    cases y <;> simp [kindW] at e1
    cases z <;> simp [kindW] at e2
    exact cb_trans _ _ _ h1 h2
  | truth s =>
    cases y <;> simp [kindW] at e1
    cases z <;> simp [kindW] at e2
    rename_i t u
    revert h1 h2
    cases s <;> cases t <;> cases u <;> decide
  | fault c =>
    cases y <;> simp [kindW] at e1
    cases z <;> simp [kindW] at e2
    rename_i d e
    have a1 : c ≤ d := by
      rcases (show d < c ∨ c ≤ d by omega) with h | h
      · have : (if c < d then (-1 : Int) else if d < c then 1 else 0) ≤ 0 := h1
        rw [if_neg (by omega), if_pos h] at this; omega
      · exact h
    have a2 : d ≤ e := by
      rcases (show e < d ∨ d ≤ e by omega) with h | h
      · have : (if d < e then (-1 : Int) else if e < d then 1 else 0) ≤ 0 := h2
        rw [if_neg (by omega), if_pos h] at this; omega
      · exact h
    show (if c < e then (-1 : Int) else if e < c then 1 else 0) ≤ 0
    split
    · omega
    · rw [if_neg (by omega)]; omega

theorem wright_ev (v : V) (h : BV v) : Ev (fun k => value_Right.f k v.1 v.2.1 v.2.2.1 v.2.2.2.1 v.2.2.2.2.1 v.2.2.2.2.2) (rightV v) := by
  obtain ⟨a, b, c, s, t, f⟩ := v
  exact vright_ev h
theorem as_nb {w : W} (h : ¬ kindW w = 0) (k : Int) : asKind w k = w := by
  cases w with
  | blank => exact absurd rfl h
  | _ => rfl
noncomputable instance : DecidableEq W := fun a b => Classical.propDecidable _
theorem eqB_W {v u : V} (h : rightV v = true) (h' : rightV u = true) : eqB v u = decide (tk v = tk u) := by
  rw [Bool.eq_iff_iff, eqB_iff, decide_eq_true_iff]
  exact ⟨fun e => by rw [e], fun e => by rw [← enc_tk h, e, enc_tk h']⟩
theorem ValueOrder_pure (a b c : Int) (s : ByteArray) (t : Bool) (f a' b' c' : Int) (s' : ByteArray) (t' : Bool) (f' a'' b'' c'' : Int) (s'' : ByteArray) (t'' : Bool) (f'' : Int) (h : BV (a, b, c, s, t, f)) (h' : BV (a', b', c', s', t', f')) (h'' : BV (a'', b'', c'', s'', t'', f'')) : ∃ k, whittlelaw2_ValueOrder.f k a b c s t f a' b' c' s' t' f' a'' b'' c'' s'' t'' f'' = some true := by
  refine Ev.rounds ?_
  unfold whittlelaw2_ValueOrder.f
  refine Ev.bind vable_ev (Ev.ite_pos rfl ?_)
  generalize hL : ([(⟨a, (⟨b, c⟩ : S23), s, t, f⟩ : S25), (⟨a', (⟨b', c'⟩ : S23), s', t', f'⟩ : S25), (⟨a'', (⟨b'', c''⟩ : S23), s'', t'', f''⟩ : S25)] : List S25) = L
  have hlen : (L.length : Int) = 3 := by rw [← hL]; rfl
  have step : ∀ (i : Int) (v : V), BV v → rd_T25 L i = ⟨v.1, ⟨v.2.1, v.2.2.1⟩, v.2.2.2.1, v.2.2.2.2.1, v.2.2.2.2.2⟩ → 0 ≤ i → i < 3 →
      (rightV v = true → ¬ v.1 = 0 → ¬ v.1 = 4 → Ev (fun k => whittlelaw2_ValueOrder.l0 k L (i + 1) a b c s t f a' b' c' s' t' f' a'' b'' c'' s'' t'' f'') true) →
      Ev (fun k => whittlelaw2_ValueOrder.l0 k L i a b c s t f a' b' c' s' t' f' a'' b'' c'' s'' t'' f'') true := by
    intro i v hv rd h0 h3 next
    refine Ev.step (fun k => by simp only [whittlelaw2_ValueOrder.l0]; exact if_pos h3) (Ev.ite_pos h0 (Ev.ite_pos (by omega) ?_))
    rw [rd, w64 (x := i + 1) (by unfold I64; omega)]
    refine Ev.bind (wright_ev v hv) ?_
    by_cases hr : rightV v = true
    · refine Ev.ite_pos hr ?_
      by_cases k0 : v.1 = 0
      · exact Ev.ite_pos k0 (Ev.now _)
      refine Ev.ite_neg k0 ?_
      by_cases k4 : v.1 = 4
      · exact Ev.ite_pos k4 (Ev.now _)
      exact Ev.ite_neg k4 (next hr k0 k4)
    · exact Ev.ite_neg hr (Ev.now _)
  refine step 0 (a, b, c, s, t, f) h (by rw [← hL]; rfl) (by decide) (by decide) fun r1 z1 f1 => ?_
  refine step 1 (a', b', c', s', t', f') h' (by rw [← hL]; rfl) (by decide) (by decide) fun r2 z2 f2 => ?_
  refine step 2 (a'', b'', c'', s'', t'', f'') h'' (by rw [← hL]; rfl) (by decide) (by decide) fun r3 z3 f3 => ?_
  refine Ev.step (fun k => by simp only [whittlelaw2_ValueOrder.l0]; exact if_neg (by decide)) ?_
  have e1 : kindW (tk (a, b, c, s, t, f)) = a := by rw [← kind_enc, enc_tk r1]
  have e2 : kindW (tk (a', b', c', s', t', f')) = a' := by rw [← kind_enc, enc_tk r2]
  have e3 : kindW (tk (a'', b'', c'', s'', t'', f'')) = a'' := by rw [← kind_enc, enc_tk r3]
  have q := eqB_W r1 r2
  have c12 := vcmp_ev _ _ h h'
  have c21 := vcmp_ev _ _ h' h
  have c23 := vcmp_ev _ _ h' h''
  have c13 := vcmp_ev _ _ h h''
  have sm := same_ev _ _ h h'
  generalize tk (a, b, c, s, t, f) = x at *
  generalize tk (a', b', c', s', t', f') = y at *
  generalize tk (a'', b'', c'', s'', t'', f'') = z at *
  have nx : ¬ kindW x = 0 := by rw [e1]; exact z1
  have ny : ¬ kindW y = 0 := by rw [e2]; exact z2
  have nz : ¬ kindW z = 0 := by rw [e3]; exact z3
  have fx : ¬ kindW x = 4 := by rw [e1]; exact f1
  have m : ∀ {u w : W}, ¬ kindW u = 0 → ¬ kindW w = 0 → cmpW u w = ordW u w := fun {u w} hu hw => by unfold cmpW; rw [as_nb hu, as_nb hw]
  have sq : sameW x y = decide (x = y) := by
    unfold sameW
    rw [m nx ny, if_neg nx, if_neg fx]
    by_cases hk : kindW x = kindW y
    · rw [if_pos hk, Bool.eq_iff_iff, beq_iff_eq, decide_eq_true_iff, ord_eq]
    · rw [if_neg hk, eq_comm, decide_eq_false_iff_not]
      intro e
      exact hk (by rw [e])
  rw [m nx ny] at c12
  rw [m ny nx, ord_swap] at c21
  rw [m ny nz] at c23
  rw [m nx nz] at c13
  rw [sq] at sm
  have rng := ord_range x y
  refine Ev.bind c12 (Ev.ite_neg (by omega) (Ev.ite_neg (by omega) (Ev.bind c21 ?_)))
  rw [w64 (x := -ordW x y) (by unfold I64; omega)]
  refine Ev.ite_pos rfl ?_
  have z0 : (ordW x y == 0) = decide (x = y) := by rw [Bool.eq_iff_iff, beq_iff_eq, decide_eq_true_iff, ord_eq]
  have q' : (a == a' && ((b == b' && (c == c')) && (s.toList == s'.toList && (t == t' && (f == f'))))) = decide (x = y) := q
  rw [q', z0]
  refine Ev.ite_neg (by simp) (Ev.bind sm ?_)
  rw [show (decide (x = y) != decide (x = y)) = false by simp]
  refine Ev.step (fun k => by simp only [whittlelaw2_ValueOrder.j1]; exact if_neg (by decide)) ?_
  by_cases h1 : ordW x y > 0
  · exact Ev.ite_pos h1 (Ev.now _)
  refine Ev.ite_neg h1 (Ev.bind c23 ?_)
  by_cases h2 : ordW y z > 0
  · exact Ev.ite_pos h2 (Ev.now _)
  refine Ev.ite_neg h2 (Ev.bind c13 (Ev.const ?_))
  rw [decide_eq_true (ord_trans (Int.not_lt.1 h1) (Int.not_lt.1 h2))]
end Go.Proofs.YtmakkdlkgfgaoaaDoor.F
