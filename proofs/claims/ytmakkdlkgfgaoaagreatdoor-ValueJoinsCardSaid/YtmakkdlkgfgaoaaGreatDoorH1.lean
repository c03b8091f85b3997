/-
Rows of values: what is read of one; append of a whole list (nil too) to a row of the call's own.
-/
import Derived.Test.YtmakkdlkgfgaoaaGreatDoorC0
import Derived.Laws.AppendOwnNone
import Derived.Laws.Slices
namespace Go.Proofs.YtmakkdlkgfgaoaaGreatDoor.F
open Go.RowKit Go.Proofs.YtmakkdlkgfgaoaaGreatDoorW.PrintWords
set_option linter.unusedVariables false
section
variable {P : Program} {w0 W : World} {ops : Array Oper} {rest : List Oper} {o : Oper} {a : Act} {Q : Exit → Act → World → Prop}
theorem append_any (hgd : o.guard = none) (s x : Operand) (t : TypeId)
    (ho : o.op = .call { callee := .builtin .append, args := #[s, x], argTypes := #[t, t] })
    (base : Nat) (e : TypeId) (z : Value) (size bytes : Nat) (ht : P.underlying t = some (.slice e)) (hinfo : (P.info? e).map (fun i => (i.zero, i.size, i.bytes)) = some (some z, size, bytes)) (hz : z.cells.size = size) (hs0 : 0 < size)
    (v : Value) (n : Nat) (xs : List Value) (hs : a.eval s = v) (hown : W.ownsRow base e size v n xs)
    (A : Option Addr) (m c : Nat) (news : List Value) (hx : a.eval x = .slice A m c) (hl : news.length = m * size) (hA : A = none → m = 0 ∧ c = 0) (hnews : ∀ ad, A = some ad → ∀ j u, news[j]? = some u → W.cell? (ad.add j) = some u) (h1 : ∀ u ∈ news, u.oneCell' = true)
    (N : Nat) (hN : n + m = N) (h63 : N ≤ maxLen) (hbytes : N * bytes ≤ 140737488355328) (hbase : base ≤ W.heap.size) (hB : Below base w0 W)
    (h : ∀ v' w', w'.ownsRow base e size v' N (xs ++ news) → Below base w0 w' → wpList P ops Q rest (a.put o.dst v') w') : wpList P ops Q (o :: rest) a W := by
  obtain ⟨i0, hi, hz0, hz1, hz2⟩ := info_parts hinfo
  subst hN
  cases A with
  | none =>
    obtain ⟨rfl, rfl⟩ := hA rfl
    have hn : news = [] := List.eq_nil_of_length_eq_zero (by simpa using hl)
    subst hn
    refine wpList_append_own_none hgd s x t ho base e i0 size ht hi v n xs hs hown hx ?_
    exact h v W (by simpa using hown) hB
  | some ad =>
    refine wpList_append_own_at W hgd s x t ho base e i0 z size bytes ht hi hz0 hz1 hz2 hz hs0 v n xs hs hown ad m c news hx hl (hnews ad rfl) h1 h63 hbytes hbase ?_
    intro v' w' hown' hg _ _
    exact h v' w' hown' (hB.grown hg hbase fun k hk => (hown.lt k hk).1)
end
/-- a value, as the program has it -/
abbrev VV := Int × Int × Int × ByteArray × Bool × Int
def cellsV (v : VV) : List Value := [.int .i64 v.1, .int .i64 v.2.1, .int .i64 v.2.2.1, .string v.2.2.2.1, .bool v.2.2.2.2.1, .int .i64 v.2.2.2.2.2]
/-- a list's cells -/
def rowV : List VV → List Value
  | [] => []
  | v :: l => .int .i64 v.1 :: .int .i64 v.2.1 :: .int .i64 v.2.2.1 :: .string v.2.2.2.1 :: .bool v.2.2.2.2.1 :: .int .i64 v.2.2.2.2.2 :: rowV l
theorem rowV_len (l : List VV) : (rowV l).length = l.length * 6 := by
  induction l with
  | nil => rfl
  | cons x l ih => simp only [rowV, List.length_cons] at ih ⊢; omega
theorem rowV_one (l : List VV) : ∀ u ∈ rowV l, u.oneCell' = true := by
  induction l with
  | nil => intro u hu; cases hu
  | cons x l ih =>
    intro u hu
    simp only [rowV, List.mem_cons] at hu
    rcases hu with rfl | rfl | rfl | rfl | rfl | rfl | hu
    all_goals first | rfl | exact ih u hu
theorem rowV_app (l m : List VV) : rowV (l ++ m) = rowV l ++ rowV m := by
  induction l with
  | nil => rfl
  | cons x l ih => simp only [List.cons_append, rowV, ih]
theorem rowV_at (l : List VV) (i : Nat) (x : VV) (h : l[i]? = some x) (q : Nat) (u : Value) (hq : (cellsV x)[q]? = some u) : (rowV l)[i * 6 + q]? = some u := by
  induction l generalizing i with
  | nil => simp at h
  | cons y l ih =>
    have e : rowV (y :: l) = cellsV y ++ rowV l := rfl
    have hl : (cellsV y).length = 6 := rfl
    rw [e]
    cases i with
    | zero =>
      have : y = x := by simpa using h
      subst this
      rw [Nat.zero_mul, Nat.zero_add, List.getElem?_append_left (List.getElem?_eq_some_iff.1 hq).1]
      exact hq
    | succ i =>
      rw [List.getElem?_append_right (by omega), show (i + 1) * 6 + q - (cellsV y).length = i * 6 + q by omega]
      exact ih i (by simpa using h)
/-- a list that lies at an address -/
def RowAt (w : World) (A : Option Addr) (l : List VV) : Prop := 0 < l.length → ∃ ad, A = some ad ∧ ∀ j u, (rowV l)[j]? = some u → w.cell? (ad.add j) = some u
theorem RowAt.below {w w1 : World} {A : Option Addr} {l : List VV} (h : RowAt w A l) (hb : Below w.heap.size w w1) : RowAt w1 A l := fun hp => by
  obtain ⟨ad, e, hc⟩ := h hp
  exact ⟨ad, e, fun j u hu => (hb.cell (World.block_lt_of_cell? w _ (hc j u hu))).trans (hc j u hu)⟩
theorem RowAt.news {w : World} {A : Option Addr} {l : List VV} (h : RowAt w A l) (ad : Addr) (hA : A = some ad) : ∀ j u, (rowV l)[j]? = some u → w.cell? (ad.add j) = some u := by
  intro j u hu
  have hlt := (List.getElem?_eq_some_iff.1 hu).1
  rw [rowV_len] at hlt
  obtain ⟨ad', e, hc⟩ := h (by omega)
  rw [hA] at e
  obtain rfl := Option.some.inj e
  exact hc j u hu
theorem RowAt.left {w : World} {A : Option Addr} {l m : List VV} (h : RowAt w A (l ++ m)) : RowAt w A l := fun hp => by
  obtain ⟨ad, e, hc⟩ := h (by rw [List.length_append]; omega)
  refine ⟨ad, e, fun j u hu => hc j u ?_⟩
  rw [rowV_app, List.getElem?_append_left (List.getElem?_eq_some_iff.1 hu).1]
  exact hu
/-- one of them, read -/
theorem RowAt.get {w : World} {A : Option Addr} {l : List VV} (h : RowAt w A l) (i : Nat) (v1 v2 v3 : Int) (v4 : ByteArray) (v5 : Bool) (v6 : Int) (hv : l[i]? = some (v1, v2, v3, v4, v5, v6)) :
    ∃ ad, A = some ad ∧ w.cell? (ad.add (i * 6)) = some (.int .i64 v1) ∧ w.cell? ⟨(ad.add (i * 6)).block, (ad.add (i * 6)).off + 1, none⟩ = some (.int .i64 v2) ∧ w.cell? ⟨(ad.add (i * 6)).block, (ad.add (i * 6)).off + 2, none⟩ = some (.int .i64 v3) ∧ w.cell? ⟨(ad.add (i * 6)).block, (ad.add (i * 6)).off + 3, none⟩ = some (.string v4) ∧ w.cell? ⟨(ad.add (i * 6)).block, (ad.add (i * 6)).off + 4, none⟩ = some (.bool v5) ∧ w.cell? ⟨(ad.add (i * 6)).block, (ad.add (i * 6)).off + 5, none⟩ = some (.int .i64 v6) := by
  have hlt := (List.getElem?_eq_some_iff.1 hv).1
  obtain ⟨ad, e, hc⟩ := h (by omega)
  have hat := fun q u hq => hc _ u (rowV_at l i _ hv q u hq)
  refine ⟨ad, e, hat 0 _ rfl, ?_, ?_, ?_, ?_, ?_⟩
  · rw [← add_field _ _ 1 (by omega)]; exact hat 1 _ rfl
  · rw [← add_field _ _ 2 (by omega)]; exact hat 2 _ rfl
  · rw [← add_field _ _ 3 (by omega)]; exact hat 3 _ rfl
  · rw [← add_field _ _ 4 (by omega)]; exact hat 4 _ rfl
  · rw [← add_field _ _ 5 (by omega)]; exact hat 5 _ rfl
/-- what stands behind the second append -/
theorem own_told {w W : World} {base : Nat} {v : Value} {l : List VV} (h : W.ownsRow base 25 6 v l.length (rowV l)) (hp : 0 < l.length) :
    ∃ (ad : Addr) (cap : Nat), v = .slice (some ad) l.length cap ∧ l.length ≤ cap ∧ RowAt W (some ad) l := by
  obtain ⟨g, cap, rfl, _, _⟩ := h.form hp
  have hc : l.length ≤ cap := by
    rcases h.2 with ⟨h1, _⟩ | ⟨g', cap', cur, he, _, _, h1, h2, _⟩
    · cases h1
    · cases he; exact h1
  exact ⟨⟨g, 0, none⟩, cap, rfl, hc, fun _ => ⟨_, rfl, fun j u hu => h.cells (g := g) rfl j u hu⟩⟩
theorem info25 : (Tryz.prog.info? 25).map (fun i => (i.zero, i.size, i.bytes)) = some (some (.agg #[.int .i64 0, .int .i64 0, .int .i64 0, .string ⟨#[]⟩, .bool false, .int .i64 0]), 6, 56) := by kernel_rfl
/-- a slice's beginning -/
theorem cut_list (A : Option Addr) (n c j : Nat) (hj : j ≤ n) (hc : n ≤ c) :
    ∀ W : World, (Instr.slice 29 (.slice A n c) none (some (.int .i64 (j : Int))) none).run Tryz.prog W = .ok (.slice A j c) W := by
  intro W
  obtain ⟨i0, hi, _, _, _⟩ := info_parts info25
  have hel : Tryz.prog.elem 29 = 25 := by simp [Program.elem, Tryz.underlying29]
  have hu : Tryz.prog.underlying 29 = some (.slice (Tryz.prog.elem 29)) := by rw [hel]; exact Tryz.underlying29
  have ha : (A.map fun x => x.add 0) = A := by cases A <;> simp [Addr.add]
  rw [run_slice_h W 29 A n c hu .i64 (j : Int) (by omega) (by omega), hel]
  simp [sizeOf, typeInfo, hi, sliced, Result.andThen, ha]
end Go.Proofs.YtmakkdlkgfgaoaaGreatDoor.F
