/-
append of a whole list (nil too) to a row of the call's own, and what of a row of numbers is read.
-/
import Derived.Test.YtlcjfabbnclalaaDoorC0
import Derived.Laws.AppendOwnNone
import Derived.Laws.Slices
namespace Go.Proofs.YtlcjfabbnclalaaDoor.F
open Go.RowKit Go.Proofs.YtlcjfabbnclalaaDoorW.PrintWords
set_option linter.unusedVariables false
section
variable {P : Program} {w0 W : World} {ops : Array Oper} {rest : List Oper} {o : Oper} {a : Act} {Q : Exit → Act → World → Prop}
theorem append_any (hgd : o.guard = none) (s x : Operand) (t : TypeId)
    (ho : o.op = .call { callee := .builtin .append, args := #[s, x], argTypes := #[t, t] })
    (base : Nat) (e : TypeId) (z : Value) (size bytes : Nat) (ht : P.underlying t = some (.slice e)) (hinfo : (P.info? e).map (fun i => (i.zero, i.size, i.bytes)) = some (some z, size, bytes)) (hz : z.cells.size = size) (hs0 : 0 < size)
    (v : Value) (n : Nat) (xs : List Value) (hs : a.eval s = v) (hown : W.ownsRow base e size v n xs)
    (A : Option Addr) (m c : Nat) (news : List Value) (hx : a.eval x = .slice A m c) (hl : news.length = m * size) (hA : A = none → m = 0 ∧ c = 0) (hnews : ∀ ad, A = some ad → ∀ j u, news[j]? = some u → W.cell? (ad.add j) = some u) (h1 : ∀ u ∈ news, u.oneCell' = true)
    (N : Nat) (hN : n + m = N) (h63 : N ≤ maxLen) (hbytes : N * bytes ≤ 140737488355328) (hbase : base ≤ W.heap.size) (hB : Below base w0 W)
    (h : ∀ v' w', w'.ownsRow base e size v' N (xs ++ news) → Below base w0 w' → wpList P ops Q rest (a.put o.dst v') w') : wpList P ops Q (o :: rest) a W := by
  obtain ⟨i0, hi, hz0, hz1, hz2⟩ := info_parts hinfo
  subst hN
  cases A with
  | none =>
    obtain ⟨rfl, rfl⟩ := hA rfl
    have hn : news = [] := List.eq_nil_of_length_eq_zero (by simpa using hl)
    subst hn
    refine wpList_append_own_none hgd s x t ho base e i0 size ht hi v n xs hs hown hx ?_
    exact h v W (by simpa using hown) hB
  | some ad =>
    refine wpList_append_own_at W hgd s x t ho base e i0 z size bytes ht hi hz0 hz1 hz2 hz hs0 v n xs hs hown ad m c news hx hl (hnews ad rfl) h1 h63 hbytes hbase ?_
    intro v' w' hown' hg _ _
    exact h v' w' hown' (hB.grown hg hbase fun k hk => (hown.lt k hk).1)
end
/-- a list's cells -/
def cellsS (l : List S23) : List Value := l.flatMap fun x => [.int .i64 x.f0, .int .i64 x.f1]
theorem cellsS_len (l : List S23) : (cellsS l).length = l.length * 2 := by
  induction l with
  | nil => rfl
  | cons x l ih => simp only [cellsS, List.flatMap_cons, List.length_append, List.length_cons, List.length_nil] at ih ⊢; omega
theorem cellsS_one (l : List S23) : ∀ u ∈ cellsS l, u.oneCell' = true := by
  intro u hu
  obtain ⟨x, _, hx⟩ := List.mem_flatMap.1 hu
  simp at hx
  rcases hx with rfl | rfl <;> rfl
theorem cellsS_get (l : List S23) : ∀ (j : Nat) (u : Value), (cellsS l)[j]? = some u → ∃ (i q : Nat) (x : S23), j = i * 2 + q ∧ l[i]? = some x ∧ [Value.int .i64 x.f0, .int .i64 x.f1][q]? = some u := by
  induction l with
  | nil => intro j u h; simp [cellsS] at h
  | cons x l ih =>
    intro j u h
    have e : cellsS (x :: l) = .int .i64 x.f0 :: .int .i64 x.f1 :: cellsS l := rfl
    rw [e] at h
    match j, h with
    | 0, h => exact ⟨0, 0, x, rfl, rfl, by simpa using h⟩
    | 1, h => exact ⟨0, 1, x, rfl, rfl, by simpa using h⟩
    | j + 2, h =>
      obtain ⟨i, q, y, rfl, hy, hq⟩ := ih j u (by simpa using h)
      exact ⟨i + 1, q, y, by omega, by simpa using hy, hq⟩
theorem cellsS_app (l m : List S23) : cellsS (l ++ m) = cellsS l ++ cellsS m := by simp [cellsS]
theorem cellsS_at (l : List S23) (i q : Nat) (x : S23) (h : l[i]? = some x) (u : Value) (hq : [Value.int .i64 x.f0, .int .i64 x.f1][q]? = some u) : (cellsS l)[i * 2 + q]? = some u := by
  induction l generalizing i with
  | nil => simp at h
  | cons y l ih =>
    have e : cellsS (y :: l) = .int .i64 y.f0 :: .int .i64 y.f1 :: cellsS l := rfl
    rw [e]
    cases i with
    | zero =>
      have : y = x := by simpa using h
      subst this
      match q, hq with
      | 0, hq => simpa using hq
      | 1, hq => simpa using hq
    | succ i =>
      have := ih i (by simpa using h)
      rw [show (i + 1) * 2 + q = (i * 2 + q) + 2 by omega]
      simpa using this
/-- what a list that is read has in its cells -/
theorem news_of_C {w : World} {A : Option Addr} {l : List S23} (h : Kd.C k23 w A l.length l) (ad : Addr) (hA : A = some ad) : ∀ j u, (cellsS l)[j]? = some u → w.cell? (ad.add j) = some u := by
  intro j u hu
  obtain ⟨i, q, x, rfl, hx, hq⟩ := cellsS_get l j u hu
  have hlt := (List.getElem?_eq_some_iff.1 hx).1
  obtain ⟨ad', e, hc⟩ := h.2.2 (by omega)
  rw [hA] at e
  obtain rfl := Option.some.inj e
  obtain ⟨c, _, hK, hcell⟩ := hc i x hx
  obtain rfl := k23_open hK
  exact hcell q u hq
/-- a row of the call's own, read -/
theorem C_of_cells {w : World} {g : Nat} {l : List S23} (hl : l.length ≤ 9223372036854775807) (h : ∀ j u, (cellsS l)[j]? = some u → w.cell? ((⟨g, 0, none⟩ : Addr).add j) = some u) : Kd.C k23 w (some ⟨g, 0, none⟩) l.length l :=
  ⟨rfl, hl, fun _ => ⟨_, rfl, fun i x hx => ⟨_, rfl, k23_mk w x, fun q u hq => h _ _ (cellsS_at l i q x hx u hq)⟩⟩⟩
/-- its beginning -/
theorem C_left {w : World} {A : Option Addr} {l m : List S23} (h : Kd.C k23 w A (l ++ m).length (l ++ m)) : Kd.C k23 w A l.length l := by
  obtain ⟨_, h2, h3⟩ := h
  have hlen : (l ++ m).length = l.length + m.length := List.length_append
  refine ⟨rfl, by omega, fun hp => ?_⟩
  obtain ⟨ad, e, hc⟩ := h3 (by omega)
  exact ⟨ad, e, fun i x hx => hc i x (by rw [List.getElem?_append_left (List.getElem?_eq_some_iff.1 hx).1]; exact hx)⟩
/-- what stands behind the second append -/
theorem own_told {w W : World} {base : Nat} {v : Value} {l : List S23} (h : W.ownsRow base 23 2 v l.length (cellsS l)) (hp : 0 < l.length) :
    ∃ (ad : Addr) (cap : Nat), v = .slice (some ad) l.length cap ∧ l.length ≤ cap ∧ Kd.C k23 W (some ad) l.length l := by
  obtain ⟨g, cap, rfl, _, _⟩ := h.form hp
  have hc : l.length ≤ cap ∧ cap ≤ maxLen := by
    rcases h.2 with ⟨h1, _⟩ | ⟨g', cap', cur, he, _, _, h1, h2, _⟩
    · cases h1
    · cases he; exact ⟨h1, h2⟩
  refine ⟨⟨g, 0, none⟩, cap, rfl, hc.1, C_of_cells (by have := hc.2; simp only [maxLen] at this; omega) fun j u hu => h.cells (g := g) rfl j u hu⟩
/-- a slice's beginning -/
theorem cut_list (A : Option Addr) (n c j : Nat) (hj : j ≤ n) (hc : n ≤ c) :
    ∀ W : World, (Instr.slice 37 (.slice A n c) none (some (.int .i64 (j : Int))) none).run Tryd.prog W = .ok (.slice A j c) W := by
  intro W
  obtain ⟨i0, hi, _, _, _⟩ := info_parts info23
  have hel : Tryd.prog.elem 37 = 23 := by simp [Program.elem, Tryd.underlying37]
  have hu : Tryd.prog.underlying 37 = some (.slice (Tryd.prog.elem 37)) := by rw [hel]; exact Tryd.underlying37
  have ha : (A.map fun x => x.add 0) = A := by cases A <;> simp [Addr.add]
  rw [run_slice_h W 37 A n c hu .i64 (j : Int) (by omega) (by omega), hel]
  simp [sizeOf, typeInfo, hi, sliced, Result.andThen, ha]
end Go.Proofs.YtlcjfabbnclalaaDoor.F
