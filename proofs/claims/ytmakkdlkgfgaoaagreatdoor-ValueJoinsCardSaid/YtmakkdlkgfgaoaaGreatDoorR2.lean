/-
A list of values that came in, opened: what it reads as, and its size.
-/
import Derived.Test.YtmakkdlkgfgaoaaGreatDoorR0
import Derived.Test.YtmakkdlkgfgaoaaGreatDoorH1
import Derived.Deep.Slices
import Derived.Carry
namespace Go.Proofs.YtmakkdlkgfgaoaaGreatDoor.R
open Go.ChangeShapes Go.WideShapes Go.ChangeAt Go.RowKit
theorem laidOut : laidOutB Tryz.prog = true := by kernel_rfl
theorem bytes25 : Tryz.prog.bytesOf 25 = 56 := by kernel_rfl
set_option maxRecDepth 100000 in
/-- one entry's cells -/
theorem val_cells {H : Type} {enc : TypeId × Value → H} {W : World} {fuel : Nat} {cs : List Value} {x : DataW H × List MemPlace} (hl : cs.length = 6) (h : DataW.trod enc Tryz.prog W 0 (fun _ => true) true fuel 25 cs = some x) :
    ∃ y : F.VV, cs = F.cellsV y ∧ F.BV y := by
  match cs, hl with
  | [c0, c1, c2, c3, c4, c5], _ =>
    obtain ⟨xs, n, _, hx, _, hlen, hg⟩ := DataW.trod_struct Tryz.underlying25 h
    match xs, hlen with
    | [y0, y1, y2, y3, y4], _ =>
      have g0 := hg 0 _ rfl
      have g1 := hg 1 _ rfl
      have g2 := hg 2 _ rfl
      have g3 := hg 3 _ rfl
      have g4 := hg 4 _ rfl
      simp [cells3, cells4, cells9, cells23] at g0 g1 g2 g3 g4
      obtain ⟨a, e0, rfl, wa⟩ := DataW.trod_int Tryz.underlying3 g0
      obtain ⟨zs, m, _, hz, _, hzl, hk⟩ := DataW.trod_struct Tryz.underlying23 g1
      obtain ⟨s, e2, rfl, ws⟩ := DataW.trod_string Tryz.underlying9 g2
      obtain ⟨t, e3, rfl⟩ := DataW.trod_bool Tryz.underlying4 g3
      obtain ⟨f, e4, rfl, wf⟩ := DataW.trod_int Tryz.underlying3 g4
      match zs, hzl with
      | [z0, z1], _ =>
        have k0 := hk 0 _ rfl
        have k1 := hk 1 _ rfl
        simp [cells3] at k0 k1
        obtain ⟨b, b0, rfl, wb⟩ := DataW.trod_int Tryz.underlying3 k0
        obtain ⟨c, b1, rfl, wc⟩ := DataW.trod_int Tryz.underlying3 k1
        simp at e0 e2 e3 e4 b0 b1
        subst e0 e2 e3 e4 b0 b1
        exact ⟨(a, b, c, s, t, f), rfl, i64_of wa, i64_of wb, i64_of wc, by unfold maxLen at ws; show s.size ≤ _; omega, i64_of wf⟩
set_option maxRecDepth 100000 in
theorem vals_open {H : Type} {enc : TypeId × Value → H} {W : World} {base : Nat} {v : Value} {d : DataW H} {p : List MemPlace} (hv : Value.okWide Tryz.prog W .any base 29 v) (h : DataW.Trod enc Tryz.prog W 0 (fun _ => true) true 29 v d p)
    {ts : List TypeId} {ds : List (DataW H)} {j : Nat} (hsz : (DataW.weightsEach Tryz.prog ts ds).all (· ≤ reachBytes) = true) (ht : ts[j]? = some 29) (hd : ds[j]? = some d) :
    ∃ (a : Option Addr) (cap : Nat) (l : List F.VV), v = .slice a l.length cap ∧ l.length ≤ cap ∧ (a = none → cap = 0) ∧ l.length * 56 ≤ 140737488351232 ∧ F.RowAt W a l ∧ ∀ x ∈ l, F.BV x := by
  obtain ⟨a, len, cap, rfl⟩ := okWide_slice Tryz.underlying29 hv
  obtain ⟨fuel, hf⟩ := h
  rcases Go.Deep.open_slice Tryz.underlying29 hf with ⟨hcs, _⟩ | ⟨ad, l, c, m, n, D, Pl, hcs, _, hl, hm, hmm, hx, hel⟩
  · simp [Value.cells] at hcs
    obtain ⟨rfl, rfl, rfl⟩ := hcs
    exact ⟨none, 0, [], rfl, Nat.le_refl _, fun _ => rfl, by simp, fun h => absurd h (by simp), fun x hx => by simp at hx⟩
  · simp [Value.cells] at hcs
    obtain ⟨rfl, rfl, rfl⟩ := hcs
    have hlm : len ≤ m := by rw [hmm]; split <;> omega
    have hs : len * 56 ≤ 140737488351232 := by
      have hd' : ds[j]? = some (.slice ((List.range len).map D) ((List.range (m - len)).map fun j => D (len + j))) := by
        rw [hd]; simpa using congrArg Prod.fst hx
      have := sized_slice hsz ht hd' Tryz.underlying29
      rw [bytes25] at this
      simp only [List.length_map, List.length_range, reachBytes] at this
      omega
    have hone : ∀ i : Nat, ∃ y : F.VV, i < len → (∀ q u, (F.cellsV y)[q]? = some u → W.cell? (ad.add (i * 6 + q)) = some u) ∧ F.BV y := by
      intro i
      by_cases hi : i < len
      · obtain ⟨cs', hc, htr⟩ := hel i (by omega)
        rw [cells25] at hc
        obtain ⟨_, hcl, hat⟩ := World.cells?_some hc
        obtain ⟨y, rfl, hy⟩ := val_cells hcl htr
        refine ⟨y, fun _ => ⟨fun q u hq => ?_, hy⟩⟩
        have hq6 : q < 6 := (List.getElem?_eq_some_iff.1 hq).1
        have := hat q hq6
        rw [Go.Deep.add_add] at this
        rw [this, hq]
      · exact ⟨(0, 0, 0, ⟨#[]⟩, false, 0), fun h => absurd h hi⟩
    obtain ⟨Y, hY⟩ := Classical.axiomOfChoice hone
    have hrow : ∀ (ls : List Nat) (b : Nat), (∀ q, ls[q]? = (if q < ls.length then some (b + q) else none)) → (∀ x ∈ ls, x < len) → ∀ j u, (F.rowV (ls.map Y))[j]? = some u → W.cell? (ad.add (b * 6 + j)) = some u := by
      intro ls
      induction ls with
      | nil => intro b _ _ j u hu; cases hu
      | cons x ls ih =>
        intro b hq hlt j u hu
        have hx0 : x = b := by have := hq 0; simpa using this
        subst hx0
        have e : F.rowV ((x :: ls).map Y) = F.cellsV (Y x) ++ F.rowV (ls.map Y) := rfl
        have h6 : (F.cellsV (Y x)).length = 6 := rfl
        rw [e] at hu
        by_cases hj : j < 6
        · rw [List.getElem?_append_left (by omega)] at hu
          exact (hY x (hlt x (by simp))).1 j u hu
        · rw [List.getElem?_append_right (by omega), h6] at hu
          have := ih (x + 1) (fun q => by
            have h1 := hq (q + 1)
            rw [List.getElem?_cons_succ] at h1
            rw [h1]
            simp only [List.length_cons, Nat.add_lt_add_iff_right]
            split
            · congr 1; omega
            · rfl) (fun y hy => hlt y (by simp [hy])) (j - 6) u hu
          rwa [show (x + 1) * 6 + (j - 6) = x * 6 + j by omega] at this
    refine ⟨some ad, cap, (List.range len).map Y, by simp, by simpa using hl, (fun e => nomatch e), by simpa using hs, fun _ => ⟨ad, rfl, fun j u hu => ?_⟩, fun x hx => ?_⟩
    · have := hrow (List.range len) 0 (fun q => by
        simp only [List.length_range, Nat.zero_add]
        split
        · rename_i h; rw [List.getElem?_range h]
        · rename_i h; rw [List.getElem?_eq_none (by simpa using h)]) (fun x hx => by simpa using hx) j u hu
      simpa using this
    · obtain ⟨i, hi, rfl⟩ := List.mem_map.1 hx
      exact (hY i (by simpa using hi)).2
end Go.Proofs.YtmakkdlkgfgaoaaGreatDoor.R
