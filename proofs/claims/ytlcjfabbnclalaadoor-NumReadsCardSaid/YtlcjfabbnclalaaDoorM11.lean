/-
Texts as lists of bytes; what Read of the program reads.
-/
import Derived.Test.YtlcjfabbnclalaaDoorF4
import Derived.Test.YtlcjfabbnclalaaDoorF5
import Derived.Test.YtlcjfabbnclalaaDoorM2
namespace Go.Proofs.YtlcjfabbnclalaaDoor.F
open Go.RowKit Go.Proofs.YtlcjfabbnclalaaDoorW.PrintWords NumM
set_option linter.unusedVariables false
set_option linter.unusedSimpArgs false

/-- the string of these bytes -/
def by' (l : List UInt8) : ByteArray := ⟨l.toArray⟩
theorem by_eta (s : ByteArray) : s = by' s.data.toList := by cases s; simp [by']
theorem by_size (l : List UInt8) : (by' l).size = l.length := by simp [by', ByteArray.size]
theorem by_data (l : List UInt8) : (by' l).data.toList = l := by simp [by']
theorem by_toList (l : List UInt8) : (by' l).toList = l := by rw [ByteArray.toList_eq]; exact by_data l
theorem by_ext {a b : ByteArray} (h : a.data.toList = b.data.toList) : a = b := by rw [by_eta a, by_eta b, h]
theorem by_app (l m : List UInt8) : by' l ++ by' m = by' (l ++ m) := by
  apply by_ext; rw [ByteArray.data_append, by_data, Array.toList_append, by_data, by_data]
theorem by_extract (l : List UInt8) (a b : Nat) : (by' l).extract a b = by' ((l.drop a).take (b - a)) := by
  apply by_ext; rw [ByteArray.data_extract, Array.toList_extract, by_data, by_data]
theorem by_tail (l : List UInt8) (a : Nat) : (by' l).extract a (by' l).size = by' (l.drop a) := by
  rw [by_extract, by_size, List.take_of_length_le (by simp)]
theorem by_bt (l : List UInt8) (i : Nat) (h : i < l.length) : bt (by' l) (i : Int) = (l[i].toNat : Int) := by
  unfold bt
  rw [dif_pos (by rw [Int.toNat_natCast, by_size]; exact h)]
  simp only [Int.toNat_natCast, by']
  rfl
theorem by_bt0 (c : UInt8) (l : List UInt8) : bt (by' (c :: l)) 0 = (c.toNat : Int) := by_bt (c :: l) 0 (by simp)

/-- what digits answers of what was read of l -/
def digS (l : List UInt8) : Option (Nat × List UInt8) → Int × ByteArray × Bool
  | none => (0, by' [], false)
  | some (n, rest) => (n, by' rest, decide (rest.length < l.length))

theorem digits_loop (l : List UInt8) (hl : l.length ≤ 9223372036854775807) : ∀ (j i v : Nat), l.length - i = j → i ≤ l.length → v ≤ 1000000000000000000 → Ev (fun k => num_digits.l0 k (by' l) v i) (digS l (rd10 (l.drop i) v)) := by
  intro j
  induction j with
  | zero =>
    intro i v hj hi hv
    have e : i = l.length := by omega
    subst e
    refine Ev.step (fun k => by simp only [num_digits.l0]; exact if_neg (by rw [by_size]; omega)) ?_
    refine Ev.step (f := fun _ => some ((v : Int), by' [], decide ((l.length : Int) > 0))) (fun k => ?_) ?_
    · simp only [num_digits.j1]
      rw [if_neg (by simp), if_pos (by omega), if_pos (by rw [by_size]; omega), Int.toNat_natCast, by_tail, List.drop_length]
    · rw [List.drop_length]
      simp only [rd10, digS]
      refine Ev.const ?_
      simp
  | succ j ih =>
    intro i v hj hi hv
    have hi' : i < l.length := by omega
    refine Ev.step (fun k => by simp only [num_digits.l0]; exact if_pos (by rw [by_size]; omega)) ?_
    refine Ev.ite_pos (by omega) ?_
    rw [by_bt l i hi', List.drop_eq_getElem_cons hi']
    generalize hc : l[i] = c
    have stop : ¬ (48 ≤ c.toNat ∧ c.toNat ≤ 57) → Ev (fun k => num_digits.j1 k (by' l) v i false) (digS l (rd10 (c :: l.drop (i + 1)) v)) := by
      intro h
      rw [rd10, if_neg h, ← hc, ← List.drop_eq_getElem_cons hi']
      refine Ev.step (f := fun _ => some ((v : Int), by' (l.drop i), decide ((i : Int) > 0))) (fun k => ?_) (Ev.const ?_)
      · simp only [num_digits.j1]
        rw [if_neg (by simp), if_pos (by omega), if_pos (by rw [by_size]; omega), Int.toNat_natCast, by_tail]
      · simp only [digS, List.length_drop]
        congr 3
        rw [decide_eq_decide]; omega
    by_cases c1 : 48 ≤ c.toNat
    · refine Ev.ite_pos (by omega) ?_
      by_cases c2 : c.toNat ≤ 57
      · rw [decide_eq_true (by omega), rd10, if_pos ⟨c1, c2⟩]
        refine Ev.step (fun k => by simp only [num_digits.j1, if_true]; rfl) ?_
        refine Ev.ite_pos (by omega) (Ev.ite_pos (by rw [by_size]; omega) ?_)
        rw [by_bt l i hi', hc, show ((c.toNat : Int) - 48) % 256 = ((c.toNat - 48 : Nat) : Int) by omega]
        have hx : c.toNat - 48 ≤ 9 := by omega
        generalize c.toNat - 48 = x at *
        by_cases c3 : 10 * v + x ≤ 1000000000000000000
        · rw [if_pos c3]
          refine Ev.ite_neg (by omega) ?_
          rw [w64 (x := 10 * (v : Int)) (by unfold I64; omega), w64 (x := 10 * (v : Int) + (x : Int)) (by unfold I64; omega), w64 (x := (i : Int) + 1) (by unfold I64; omega)]
          exact ih (i + 1) (10 * v + x) (by omega) (by omega) c3
        · rw [if_neg c3]
          exact Ev.ite_pos (by omega) (Ev.now _)
      · rw [decide_eq_false (by omega)]
        exact stop (by omega)
    · exact Ev.ite_neg (by omega) (stop (by omega))

theorem digits_ev (l : List UInt8) (hl : l.length ≤ 9223372036854775807) : Ev (fun k => num_digits.f k (by' l)) (digS l (rd10 l 0)) := digits_loop l hl l.length 0 0 rfl (by omega) (by omega)

theorem power_loop (t : Nat) (ht : t ≤ 6) : ∀ (j i : Nat), t - i = j → i ≤ t → Ev (fun k => num_power.l0 k ((10 ^ i : Nat) : Int) t i) ((10 ^ t : Nat) : Int) := by
  have hb : ∀ i, i ≤ t → 10 ^ i ≤ 1000000 := fun i hi => Nat.le_trans (Nat.pow_le_pow_right (by omega) (Nat.le_trans hi ht)) (by decide)
  intro j
  induction j with
  | zero =>
    intro i hj hi
    have e : i = t := by omega
    subst e
    exact Ev.step (f := fun _ => some ((10 ^ i : Nat) : Int)) (fun k => by simp only [num_power.l0]; exact if_neg (by omega)) (Ev.now _)
  | succ j ih =>
    intro i hj hi
    refine Ev.step (fun k => by simp only [num_power.l0]; exact if_pos (by omega)) ?_
    have := hb (i + 1) (by omega)
    rw [w64 (x := ((i : Nat) : Int) + 1) (by unfold I64; omega), show ((10 ^ i : Nat) : Int) * 10 = ((10 ^ (i + 1) : Nat) : Int) by rw [Nat.pow_succ, Int.natCast_mul]; rfl, w64 (x := ((10 ^ (i + 1) : Nat) : Int)) (by unfold I64; generalize 10 ^ (i + 1) = X at *; omega)]
    exact ih (i + 1) (by omega) (by omega)

theorem powerN_ev (t : Nat) (ht : t ≤ 6) : Ev (fun k => num_power.f k t) ((10 ^ t : Nat) : Int) := power_loop t ht t 0 rfl (by omega)

/-- a number with its sign -/
def sg (minus : Bool) (n : Nat) : Int := if minus then -(n : Int) else n

/-- what is read behind the sign -/
def bodyS (minus : Bool) (l : List UInt8) : Int × Int × Bool :=
  match rd10 l 0 with
  | none => (0, 0, false)
  | some (n, rest) => if rest.length < l.length then
      match rest with
      | [] => mk (sg minus n) 1
      | c :: t => match rd10 t 0 with
        | none => (0, 0, false)
        | some (m, e) => if e.length < t.length ∧ e = [] then
            (if c = 47 then mk (sg minus n) m else if c = 46 ∧ t.length ≤ 6 ∧ n ≤ 1000000000000 then mk (sg minus (n * 10 ^ t.length + m)) (10 ^ t.length : Nat) else (0, 0, false))
          else (0, 0, false)
    else (0, 0, false)

/-- what Read reads -/
def readS : List UInt8 → Int × Int × Bool
  | [] => bodyS false []
  | c :: l => if c = 45 then bodyS true l else bodyS false (c :: l)

/-- how far digits go -/
theorem rd10_le (l : List UInt8) : ∀ (n m : Nat) (r : List UInt8), rd10 l n = some (m, r) → n ≤ 1000000000000000000 → m ≤ 1000000000000000000 ∧ r.length ≤ l.length := by
  induction l with
  | nil => intro n m r h hn; simp [rd10] at h; obtain ⟨rfl, rfl⟩ := h; exact ⟨hn, Nat.le_refl _⟩
  | cons c l ih =>
    intro n m r h hn
    rw [rd10] at h
    split at h
    · split at h
      · rename_i h2
        have := ih _ _ _ h h2
        exact ⟨this.1, by simp; omega⟩
      · cases h
    · simp at h; obtain ⟨rfl, rfl⟩ := h; exact ⟨hn, Nat.le_refl _⟩

theorem make_sg {minus : Bool} {n : Nat} {d : Int} (hn : n ≤ 9223372036854775807) (hd : I64 d) : Ev (fun k => if minus = true then (num_Make.f k (wrap64 (-(n : Int))) d).bind fun b => some (b.1, b.2.1, b.2.2) else (num_Make.f k n d).bind fun b => some (b.1, b.2.1, b.2.2)) (mk (sg minus n) d) := by
  cases minus with
  | true =>
    refine Ev.ite_pos rfl ?_
    rw [w64 (by unfold I64; omega)]
    exact Ev.bind (make_ev (by unfold I64; omega) hd) (Ev.now _)
  | false =>
    exact Ev.ite_neg (by simp) (Ev.bind (make_ev (by unfold I64; omega) hd) (Ev.now _))

theorem cut_minus (l : List UInt8) : strings_CutPrefix.f (by' l) ⟨#[45]⟩ = some (match l with | [] => (by' [], false) | c :: t => if c = 45 then (by' t, true) else (by' (c :: t), false)) := by
  have e1 : (⟨#[45]⟩ : ByteArray) = by' [45] := rfl
  have s1 : ((by' [45]).size : Int) = 1 := rfl
  unfold strings_CutPrefix.f stringslite_CutPrefix.f stringslite_HasPrefix.f
  rw [e1]
  cases l with
  | nil =>
    rw [if_neg (by rw [by_size, by_size]; simp)]
    simp
  | cons c t =>
    rw [if_pos (by rw [by_size, by_size, List.length_cons, List.length_cons, List.length_nil]; omega), if_pos (by omega), if_pos (by rw [by_size, by_size, List.length_cons, List.length_cons, List.length_nil]; omega)]
    rw [s1, show Int.toNat 1 = 1 from rfl, by_extract, by_toList, by_toList]
    by_cases hc : c = 45
    · subst hc
      simp only [if_true, Option.bind_some]
      rw [if_pos (by simp), if_pos (by omega), if_pos (by rw [by_size, List.length_cons]; omega), by_tail]
      rfl
    · simp only [if_neg hc, Option.bind_some]
      rw [if_neg (by simpa using hc)]
      rfl

theorem read_body (minus : Bool) (l : List UInt8) (hl : l.length ≤ 9223372036854775807) : Ev (fun k => (num_digits.f k (by' l)).bind fun bt141 => (if bt141.2.2 = true then (if bt141.2.1.toList = ([] : List UInt8) then (if minus = true then ((num_Make.f k (wrap64 (-bt141.1)) 1).bind fun bt144 => (some (bt144.1, bt144.2.1, bt144.2.2))) else ((num_Make.f k bt141.1 1).bind fun bt147 => (some (bt147.1, bt147.2.1, bt147.2.2)))) else (if 1 ≤ (bt141.2.1.size : Int) then ((num_digits.f k (bt141.2.1.extract 1 bt141.2.1.size)).bind fun bt150 => (if bt150.2.2 = true then (num_Read.j0 k minus bt141.1 bt141.2.1 bt150.1 (bt150.2.1.toList != ([] : List UInt8))) else (num_Read.j0 k minus bt141.1 bt141.2.1 bt150.1 true))) else (none))) else (some (0, 0, false)))) (bodyS minus l) := by
  refine Ev.bind (digits_ev l hl) ?_
  unfold bodyS
  cases h1 : rd10 l 0 with
  | none => exact Ev.ite_neg (by simp [digS]) (Ev.now _)
  | some x =>
    obtain ⟨n, rest⟩ := x
    have b1 := rd10_le l 0 n rest h1 (by omega)
    simp only [digS]
    by_cases hr : rest.length < l.length
    · rw [if_pos hr]
      refine Ev.ite_pos (by simpa using hr) ?_
      cases rest with
      | nil =>
        refine Ev.ite_pos (by rw [by_toList]) ?_
        exact make_sg (by omega) (by unfold I64; omega)
      | cons c t =>
        refine Ev.ite_neg (by rw [by_toList]; simp) (Ev.ite_pos (by rw [by_size, List.length_cons]; omega) ?_)
        rw [by_tail, List.drop_one, List.tail_cons]
        refine Ev.bind (digits_ev t (by simp at hr; omega)) ?_
        have fail : ∀ a : Int, Ev (fun k => num_Read.j0 k minus n (by' (c :: t)) a true) (0, 0, false) := fun a =>
          Ev.step (f := fun _ => some (0, 0, false)) (fun k => by simp only [num_Read.j0, if_true]) (Ev.now _)
        dsimp only
        cases h2 : rd10 t 0 with
        | none => exact Ev.ite_neg (by simp [digS]) (fail _)
        | some y =>
          obtain ⟨m, e⟩ := y
          have b2 := rd10_le t 0 m e h2 (by omega)
          simp only [digS]
          by_cases he : e.length < t.length
          · refine Ev.ite_pos (by simpa using he) ?_
            rw [by_toList]
            by_cases e0 : e = []
            · rw [if_pos ⟨he, e0⟩, e0, show (([] : List UInt8) != []) = false from rfl]
              refine Ev.step (fun k => by simp only [num_Read.j0]; exact if_neg (by simp)) ?_
              refine Ev.ite_pos (by rw [by_size, List.length_cons]; omega) ?_
              rw [by_bt0, by_size, List.length_cons]
              by_cases hs : c = 47
              · rw [if_pos hs]
                refine Ev.ite_pos (by rw [hs]; rfl) ?_
                exact make_sg (by omega) (by unfold I64; omega)
              · have hs' : ¬ (c.toNat : Int) = 47 := fun h => hs (UInt8.toNat_inj.1 (by show c.toNat = 47; omega))
                rw [if_neg hs]
                refine Ev.ite_neg hs' ?_
                have fail1 : Ev (fun k => num_Read.j1 k minus n (by' (c :: t)) m true) (0, 0, false) :=
                  Ev.step (f := fun _ => some (0, 0, false)) (fun k => by simp only [num_Read.j1, if_true]) (Ev.now _)
                by_cases hp : c = 46
                · refine Ev.ite_pos (by rw [hp]; rfl) ?_
                  by_cases ht : t.length ≤ 6
                  · refine Ev.ite_neg (by omega) ?_
                    by_cases hn : n ≤ 1000000000000
                    · rw [if_pos ⟨hp, ht, hn⟩, decide_eq_false (by omega)]
                      refine Ev.step (fun k => by simp only [num_Read.j1]; exact if_neg (by simp)) ?_
                      rw [by_size, List.length_cons, show (((t.length + 1 : Nat) : Int) - 1) = (t.length : Int) by omega, w64 (by unfold I64; omega)]
                      refine Ev.bind (powerN_ev t.length ht) ?_
                      have hp10 : 10 ^ t.length ≤ 1000000 := Nat.le_trans (Nat.pow_le_pow_right (by omega) ht) (by decide)
                      have hm := Nat.mul_le_mul hn hp10
                      rw [← Int.natCast_mul, w64 (x := ((n * 10 ^ t.length : Nat) : Int)) (by unfold I64; omega), ← Int.natCast_add, w64 (x := ((n * 10 ^ t.length + m : Nat) : Int)) (by unfold I64; omega)]
                      exact make_sg (by omega) (by unfold I64; generalize 10 ^ t.length = X at *; omega)
                    · rw [if_neg (fun h => hn h.2.2), decide_eq_true (by omega)]; exact fail1
                  · rw [if_neg (fun h => ht h.2.1)]
                    exact Ev.ite_pos (by omega) fail1
                · rw [if_neg (fun h => hp h.1)]
                  exact Ev.ite_neg (fun h => hp (UInt8.toNat_inj.1 (by show c.toNat = 46; omega))) fail1
            · rw [if_neg (fun h => e0 h.2), show (e != []) = true by simpa using e0]
              exact fail _
          · rw [if_neg (fun h => he h.1)]
            exact Ev.ite_neg (by simpa using he) (fail _)
    · rw [if_neg hr]
      exact Ev.ite_neg (by simpa using hr) (Ev.now _)

theorem read_ev (l : List UInt8) (hl : l.length ≤ 9223372036854775807) : Ev (fun k => num_Read.f k (by' l)) (readS l) := by
  unfold num_Read.f
  refine Ev.bind0 (cut_minus l) ?_
  cases l with
  | nil => exact read_body false [] hl
  | cons c t =>
    unfold readS
    by_cases hc : c = 45
    · simp only [hc, if_true]
      exact read_body true t (by simp at hl; omega)
    · simp only [hc, if_false]
      exact read_body false (c :: t) hl

theorem res_cases (q : Rat) : res q = (0, 0, false) ∨ ∃ r, Fits r ∧ res q = (r.num, (r.den : Int), true) := by
  unfold res
  by_cases h : Fits q
  · rw [if_pos h]; exact Or.inr ⟨q, h, rfl⟩
  · rw [if_neg h]; exact Or.inl rfl

theorem mk_cases (n d : Int) : mk n d = (0, 0, false) ∨ ∃ r, Fits r ∧ mk n d = (r.num, (r.den : Int), true) := by
  unfold mk
  by_cases h : d = 0
  · rw [if_pos h]; exact Or.inl rfl
  · rw [if_neg h]; exact res_cases _

theorem bodyS_cases (minus : Bool) (l : List UInt8) : bodyS minus l = (0, 0, false) ∨ ∃ r, Fits r ∧ bodyS minus l = (r.num, (r.den : Int), true) := by
  unfold bodyS
  split
  · exact Or.inl rfl
  · split
    · split
      · exact mk_cases _ _
      · split
        · exact Or.inl rfl
        · split
          · split
            · exact mk_cases _ _
            · split
              · exact mk_cases _ _
              · exact Or.inl rfl
          · exact Or.inl rfl
    · exact Or.inl rfl

theorem readS_cases (l : List UInt8) : readS l = (0, 0, false) ∨ ∃ r, Fits r ∧ readS l = (r.num, (r.den : Int), true) := by
  unfold readS
  split
  · exact bodyS_cases _ _
  · split <;> exact bodyS_cases _ _
end Go.Proofs.YtlcjfabbnclalaaDoor.F
