/-
What Read of the reference reads.
-/
import Derived.Test.YtlcjfabbnclalaaDoorF13
import Derived.Test.YtlcjfabbnclalaaDoorM11
namespace Go.Proofs.YtlcjfabbnclalaaDoor.F
open Go.RowKit Go.Proofs.YtlcjfabbnclalaaDoorW.PrintWords NumM
set_option linter.unusedVariables false
set_option linter.unusedSimpArgs false

/-- what piece answers of what was read of l from a place on -/
def piS (l : List UInt8) (a : Nat) : Option (Nat × List UInt8) → Int × Int × Bool
  | none => (0, 0, false)
  | some (n, rest) => (n, ((l.length - rest.length : Nat) : Int), decide (rest.length < l.length - a))

theorem rd10_suf (l : List UInt8) : ∀ (n m : Nat) (r : List UInt8), rd10 l n = some (m, r) → r = l.drop (l.length - r.length) := by
  induction l with
  | nil => intro n m r h; simp [rd10] at h; rw [h.2]; rfl
  | cons c l ih =>
    intro n m r h
    rw [rd10] at h
    split at h
    · split at h
      · have h1 := ih _ _ _ h
        have h2 : r.length ≤ l.length := by rw [h1, List.length_drop]; omega
        rw [List.length_cons, show l.length + 1 - r.length = (l.length - r.length) + 1 by omega, List.drop_succ_cons]
        exact h1
      · cases h
    · simp at h; rw [← h.2, Nat.sub_self]; rfl

theorem rd10_over (c : UInt8) (l : List UInt8) (v : Nat) (h : 48 ≤ c.toNat ∧ c.toNat ≤ 57) (hv : v > 100000000000000000) : rd10 (c :: l) v = none := by
  rw [rd10, if_pos h, if_neg (by omega)]

theorem piece_loop (l : List UInt8) (hl : l.length ≤ 9223372036854775000) (a : Nat) (ha : a ≤ l.length) : ∀ (j i v : Nat), l.length - i = j → a ≤ i → i ≤ l.length → v ≤ 1000000000000000000 → Ev (fun k => whittleref1_piece.l0 k (by' l) a v i) (piS l a (rd10 (l.drop i) v)) := by
  intro j
  induction j with
  | zero =>
    intro i v hj hai hi hv
    have e : i = l.length := by omega
    subst e
    refine Ev.step (fun k => by simp only [whittleref1_piece.l0]; exact if_neg (by rw [by_size]; omega)) ?_
    refine Ev.step (f := fun _ => some ((v : Int), (l.length : Int), decide ((l.length : Int) > a))) (fun k => ?_) ?_
    · simp only [whittleref1_piece.j1]
      rw [if_neg (by simp)]
    · rw [List.drop_length]
      simp only [rd10, piS, List.length_nil, Nat.sub_zero]
      refine Ev.const ?_
      congr 3
      rw [decide_eq_decide]; omega
  | succ j ih =>
    intro i v hj hai hi hv
    have hi' : i < l.length := by omega
    refine Ev.step (fun k => by simp only [whittleref1_piece.l0]; exact if_pos (by rw [by_size]; omega)) ?_
    refine Ev.ite_pos (by omega) ?_
    rw [by_bt l i hi', List.drop_eq_getElem_cons hi']
    generalize hc : l[i] = c
    have stop : ¬ (48 ≤ c.toNat ∧ c.toNat ≤ 57) → Ev (fun k => whittleref1_piece.j1 k (by' l) a v i false) (piS l a (rd10 (c :: l.drop (i + 1)) v)) := by
      intro h
      rw [rd10, if_neg h, ← hc, ← List.drop_eq_getElem_cons hi']
      refine Ev.step (f := fun _ => some ((v : Int), (i : Int), decide ((i : Int) > a))) (fun k => ?_) (Ev.const ?_)
      · simp only [whittleref1_piece.j1]
        rw [if_neg (by simp)]
      · simp only [piS, List.length_drop]
        rw [show l.length - (l.length - i) = i by omega]
        congr 3
        rw [decide_eq_decide]; omega
    by_cases c1 : 48 ≤ c.toNat
    · refine Ev.ite_pos (by omega) ?_
      by_cases c2 : c.toNat ≤ 57
      · rw [decide_eq_true (by omega)]
        refine Ev.step (fun k => by simp only [whittleref1_piece.j1, if_true]; rfl) ?_
        by_cases c0 : v > 100000000000000000
        · rw [rd10_over c _ v ⟨c1, c2⟩ c0]
          exact Ev.ite_pos (by omega) (Ev.now _)
        · refine Ev.ite_neg (by omega) (Ev.ite_pos (by omega) (Ev.ite_pos (by rw [by_size]; omega) ?_))
          rw [by_bt l i hi', hc, show ((c.toNat : Int) - 48) % 256 = ((c.toNat - 48 : Nat) : Int) by omega, rd10, if_pos ⟨c1, c2⟩]
          have hx : c.toNat - 48 ≤ 9 := by omega
          generalize c.toNat - 48 = x at *
          rw [show (v : Int) * 10 = ((10 * v : Nat) : Int) by omega, u64n (by omega), ← Int.natCast_add, u64n (by omega)]
          by_cases c3 : 10 * v + x ≤ 1000000000000000000
          · rw [if_pos c3]
            refine Ev.ite_neg (by omega) ?_
            rw [w64 (x := (i : Int) + 1) (by unfold I64; omega)]
            exact ih (i + 1) (10 * v + x) (by omega) (by omega) (by omega) c3
          · rw [if_neg c3]
            exact Ev.ite_pos (by omega) (Ev.now _)
      · rw [decide_eq_false (by omega)]
        exact stop (by omega)
    · exact Ev.ite_neg (by omega) (stop (by omega))

theorem piece_ev (l : List UInt8) (hl : l.length ≤ 9223372036854775000) (a : Nat) (ha : a ≤ l.length) : Ev (fun k => whittleref1_piece.f k (by' l) a) (piS l a (rd10 (l.drop a) 0)) := piece_loop l hl a ha (l.length - a) a 0 rfl (by omega) ha (by omega)

theorem ten_loop (t : Nat) (ht : t ≤ 6) : ∀ (j i : Nat), t - i = j → i ≤ t → Ev (fun k => whittleref1_ten.l0 k t ((10 ^ i : Nat) : Int) i) ((10 ^ t : Nat) : Int) := by
  have hb : ∀ i, i ≤ t → 10 ^ i ≤ 1000000 := fun i hi => Nat.le_trans (Nat.pow_le_pow_right (by omega) (Nat.le_trans hi ht)) (by decide)
  intro j
  induction j with
  | zero =>
    intro i hj hi
    have e : i = t := by omega
    subst e
    exact Ev.step (f := fun _ => some ((10 ^ i : Nat) : Int)) (fun k => by simp only [whittleref1_ten.l0]; exact if_neg (by omega)) (Ev.now _)
  | succ j ih =>
    intro i hj hi
    refine Ev.step (fun k => by simp only [whittleref1_ten.l0]; exact if_pos (by omega)) ?_
    have := hb (i + 1) (by omega)
    rw [w64 (x := ((i : Nat) : Int) + 1) (by unfold I64; omega), show ((10 ^ i : Nat) : Int) * 10 = ((10 ^ (i + 1) : Nat) : Int) by rw [Nat.pow_succ, Int.natCast_mul]; rfl, u64n (by omega)]
    exact ih (i + 1) (by omega) (by omega)

theorem tenN_ev (t : Nat) (ht : t ≤ 6) : Ev (fun k => whittleref1_ten.f k t) ((10 ^ t : Nat) : Int) := ten_loop t ht t 0 rfl (by omega)

/-- the reference's making, with its sign -/
theorem made_sg (minus : Bool) (n d : Nat) (hd : 0 < d) (hn : n ≤ 9223372036854775807) (hd' : d ≤ 9223372036854775807) : Ev (fun k => if minus = true then (whittleref1_made.f k (decide ((n : Int) > 0)) n d).bind fun b => some (b.1, b.2.1, b.2.2) else (whittleref1_made.f k false n d).bind fun b => some (b.1, b.2.1, b.2.2)) (mk (sg minus n) d) := by
  have hm : mk (sg minus n) d = (if n / Nat.gcd n d ≤ 1000000000000 ∧ d / Nat.gcd n d ≤ 1000000 then ((if (minus && decide ((n : Int) > 0)) = true then -((n / Nat.gcd n d : Nat) : Int) else ((n / Nat.gcd n d : Nat) : Int)), ((d / Nat.gcd n d : Nat) : Int), true) else (0, 0, false)) := by
    unfold mk
    rw [if_neg (by omega), res_divInt (by omega)]
    have e1 : (sg minus n).natAbs = n := by unfold sg; cases minus <;> simp
    have e2 : (decide (sg minus n < 0) ≠ decide ((d : Int) < 0)) ↔ ((minus && decide ((n : Int) > 0)) = true) := by
      rw [decide_eq_false (show ¬ (d : Int) < 0 by omega)]
      unfold sg
      cases minus <;> simp <;> omega
    rw [e1, Int.natAbs_natCast]
    simp only [e2]
  rw [hm]
  cases minus with
  | true =>
    refine Ev.ite_pos rfl ?_
    refine Ev.bind (made_ev _ n d hd (by omega) (by omega)) (Ev.const ?_)
    rw [Bool.true_and]
  | false =>
    refine Ev.ite_neg (by simp) ?_
    refine Ev.bind (made_ev _ n d hd (by omega) (by omega)) (Ev.const ?_)
    rw [Bool.false_and]

theorem readR_j1 (minus : Bool) (l : List UInt8) (hl : l.length ≤ 9223372036854775000) (a : Nat) (ha : a ≤ l.length) : Ev (fun k => whittleref1_Read.j1 k (by' l) a minus) (bodyS minus (l.drop a)) := by
  refine Ev.step (fun k => by simp only [whittleref1_Read.j1]; rfl) ?_
  refine Ev.bind (piece_ev l hl a ha) ?_
  unfold bodyS
  have hla : (l.drop a).length = l.length - a := List.length_drop
  cases h1 : rd10 (l.drop a) 0 with
  | none => exact Ev.ite_neg (by simp [piS]) (Ev.now _)
  | some x =>
    obtain ⟨n, rest⟩ := x
    have b1 := rd10_le (l.drop a) 0 n rest h1 (by omega)
    have hsuf := rd10_suf (l.drop a) 0 n rest h1
    simp only [piS]
    by_cases hr : rest.length < (l.drop a).length
    · rw [if_pos hr]
      refine Ev.ite_pos (by rw [decide_eq_true_iff]; omega) ?_
      have hrest : rest = l.drop (l.length - rest.length) := by
        conv => lhs; rw [hsuf]
        rw [List.drop_drop, hla]
        congr 1; omega
      cases rest with
      | nil =>
        refine Ev.ite_pos (by rw [by_size]; simp) ?_
        exact made_sg minus n 1 (by omega) (by omega) (by omega)
      | cons c t =>
        have hlc : (c :: t).length = t.length + 1 := rfl
        rw [hlc] at hrest hr
        refine Ev.ite_neg (by rw [by_size, hlc]; omega) ?_
        rw [hlc]
        have hi : l.length - (t.length + 1) < l.length := by omega
        generalize hI : l.length - (t.length + 1) = I at *
        have hc : l[I] = c ∧ l.drop (I + 1) = t := by
          rw [List.drop_eq_getElem_cons hi] at hrest
          injection hrest with h1 h2
          exact ⟨h1.symm, h2.symm⟩
        rw [w64 (x := (I : Int) + 1) (by unfold I64; omega)]
        refine Ev.bind (piece_ev l hl (I + 1) (by omega)) ?_
        rw [hc.2]
        dsimp only
        have fail : ∀ x y : Int, Ev (fun k => whittleref1_Read.j2 k (by' l) minus n I x y true) (0, 0, false) := fun x y =>
          Ev.step (f := fun _ => some (0, 0, false)) (fun k => by simp only [whittleref1_Read.j2, if_true]) (Ev.now _)
        cases h2 : rd10 t 0 with
        | none => exact Ev.ite_neg (by simp [piS]) (fail _ _)
        | some y =>
          obtain ⟨m, e⟩ := y
          have b2 := rd10_le t 0 m e h2 (by omega)
          simp only [piS]
          by_cases he : e.length < t.length
          · refine Ev.ite_pos (by rw [decide_eq_true_iff]; omega) ?_
            by_cases e0 : e = []
            · rw [if_pos ⟨he, e0⟩, e0, List.length_nil, Nat.sub_zero, show (((l.length : Nat) : Int) != ((by' l).size : Int)) = false by rw [by_size]; simp]
              refine Ev.step (fun k => by simp only [whittleref1_Read.j2]; exact if_neg (by simp)) ?_
              refine Ev.ite_pos (by omega) (Ev.ite_pos (by rw [by_size]; omega) ?_)
              rw [by_bt l I hi, hc.1]
              by_cases hs : c = 47
              · rw [if_pos hs]
                refine Ev.ite_pos (by rw [hs]; rfl) ?_
                by_cases m0 : m = 0
                · refine Ev.ite_pos (by omega) ?_
                  rw [m0]
                  exact Ev.const (by unfold mk; rw [if_pos (by rfl)])
                · refine Ev.ite_neg (by omega) ?_
                  exact made_sg minus n m (by omega) (by omega) (by omega)
              · have hs' : ¬ (c.toNat : Int) = 47 := fun h => hs (UInt8.toNat_inj.1 (by show c.toNat = 47; omega))
                rw [if_neg hs]
                refine Ev.ite_neg hs' ?_
                have fail1 : ∀ x y : Int, Ev (fun k => whittleref1_Read.j3 k minus n I x y true) (0, 0, false) := fun x y =>
                  Ev.step (f := fun _ => some (0, 0, false)) (fun k => by simp only [whittleref1_Read.j3, if_true]) (Ev.now _)
                by_cases hp : c = 46
                · refine Ev.ite_pos (by rw [hp]; rfl) ?_
                  rw [w64 (x := ((l.length : Nat) : Int) - (I : Int)) (by unfold I64; omega), w64 (x := ((l.length : Nat) : Int) - (I : Int) - 1) (by unfold I64; omega), show ((l.length : Nat) : Int) - (I : Int) - 1 = (t.length : Int) by omega]
                  by_cases ht : t.length ≤ 6
                  · refine Ev.ite_neg (by omega) ?_
                    by_cases hn : n ≤ 1000000000000
                    · rw [if_pos ⟨hp, ht, hn⟩, decide_eq_false (by omega)]
                      refine Ev.step (fun k => by simp only [whittleref1_Read.j3]; exact if_neg (by simp)) ?_
                      rw [w64 (x := ((l.length : Nat) : Int) - (I : Int)) (by unfold I64; omega), w64 (x := ((l.length : Nat) : Int) - (I : Int) - 1) (by unfold I64; omega), show ((l.length : Nat) : Int) - (I : Int) - 1 = (t.length : Int) by omega]
                      refine Ev.bind (tenN_ev t.length ht) ?_
                      have hp10 : 10 ^ t.length ≤ 1000000 := Nat.le_trans (Nat.pow_le_pow_right (by omega) ht) (by decide)
                      have hp1 : 0 < 10 ^ t.length := Nat.pow_pos (by omega)
                      have hm := Nat.mul_le_mul hn hp10
                      rw [← Int.natCast_mul, u64n (x := n * 10 ^ t.length) (by omega), ← Int.natCast_add, u64n (x := n * 10 ^ t.length + m) (by omega)]
                      exact made_sg minus _ _ hp1 (by omega) (by omega)
                    · rw [if_neg (fun h => hn h.2.2), decide_eq_true (by omega)]; exact fail1 _ _
                  · rw [if_neg (fun h => ht h.2.1)]
                    exact Ev.ite_pos (by omega) (fail1 _ _)
                · rw [if_neg (fun h => hp h.1)]
                  exact Ev.ite_neg (fun h => hp (UInt8.toNat_inj.1 (by show c.toNat = 46; omega))) (fail1 _ _)
            · rw [if_neg (fun h => e0 h.2)]
              have he1 : 0 < e.length := List.length_pos_iff.2 e0
              rw [show (((l.length - e.length : Nat) : Int) != ((by' l).size : Int)) = true by rw [by_size, bne_iff_ne]; omega]
              exact fail _ _
          · rw [if_neg (fun h => he h.1)]
            exact Ev.ite_neg (by rw [decide_eq_true_iff]; omega) (fail _ _)
    · rw [if_neg hr]
      exact Ev.ite_neg (by rw [decide_eq_true_iff]; omega) (Ev.now _)

theorem readR_ev (l : List UInt8) (hl : l.length ≤ 9223372036854775000) : Ev (fun k => whittleref1_Read.f k (by' l)) (readS l) := by
  unfold whittleref1_Read.f
  cases l with
  | nil =>
    refine Ev.ite_neg (by rw [by_size]; simp) ?_
    refine Ev.step (fun k => by simp only [whittleref1_Read.j0]; exact if_neg (by simp)) ?_
    exact readR_j1 false [] (by simp) 0 (by simp)
  | cons c t =>
    refine Ev.ite_pos (by rw [by_size, List.length_cons]; omega) (Ev.ite_pos (by rw [by_size, List.length_cons]; omega) ?_)
    rw [by_bt0]
    show Ev _ (if c = 45 then bodyS true t else bodyS false (c :: t))
    by_cases hc : c = 45
    · rw [if_pos hc, show ((c.toNat : Int) == 45) = true by rw [hc]; rfl]
      refine Ev.step (fun k => by simp only [whittleref1_Read.j0, if_true]; rfl) ?_
      exact readR_j1 true (c :: t) hl 1 (by simp)
    · rw [if_neg hc, show ((c.toNat : Int) == 45) = false by
        rw [beq_eq_false_iff_ne]; exact fun h => hc (UInt8.toNat_inj.1 (by show c.toNat = 45; omega))]
      refine Ev.step (fun k => by simp only [whittleref1_Read.j0]; exact if_neg (by simp)) ?_
      exact readR_j1 false (c :: t) hl 0 (by simp)
end Go.Proofs.YtlcjfabbnclalaaDoor.F
