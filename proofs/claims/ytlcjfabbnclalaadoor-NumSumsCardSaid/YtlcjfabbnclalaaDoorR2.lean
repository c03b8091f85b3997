/-
A list of numbers that came in, opened: what it reads as, and its size.
-/
import Derived.Test.YtlcjfabbnclalaaDoorR1
import Derived.Test.YtlcjfabbnclalaaDoorF0
import Derived.Deep.Slices
import Derived.Carry
namespace Go.Proofs.YtlcjfabbnclalaaDoor.R
open Go.ChangeShapes Go.WideShapes Go.ChangeAt Go.RowKit Go.Proofs.YtlcjfabbnclalaaDoorW.PrintWords
theorem laidOut : laidOutB Tryd.prog = true := by kernel_rfl
theorem bytes23 : Tryd.prog.bytesOf 23 = 16 := by kernel_rfl
theorem oneC3 : Tryd.prog.cellsOf 3 = 1 := by kernel_rfl
/-- one entry's cells -/
theorem num_cells {H : Type} {enc : TypeId × Value → H} {W : World} {n : Nat} {cs : List Value} {x : DataW H × List MemPlace} (hl : cs.length = 2) (h : DataW.trod enc Tryd.prog W 0 (fun _ => true) true n 23 cs = some x) :
    ∃ y : F.S23, cs = [.int .i64 y.f0, .int .i64 y.f1] ∧ F.I64 y.f0 ∧ F.I64 y.f1 := by
  obtain ⟨xs, m, _, _, _, hxl, hg⟩ := DataW.trod_struct Tryd.underlying23 h
  match cs, hl with
  | [c0, c1], _ =>
    match xs, hxl with
    | [y0, y1], _ =>
      have g0 := hg 0 _ rfl
      have g1 := hg 1 _ rfl
      simp [oneC3] at g0 g1
      obtain ⟨a, e0, _, wa⟩ := DataW.trod_int Tryd.underlying3 g0
      obtain ⟨b, e1, _, wb⟩ := DataW.trod_int Tryd.underlying3 g1
      simp at e0 e1
      subst e0 e1
      exact ⟨⟨a, b⟩, rfl, i64_of wa, i64_of wb⟩
theorem nums_open {H : Type} {enc : TypeId × Value → H} {W : World} {base : Nat} {v : Value} {d : DataW H} {p : List MemPlace} (hv : Value.okWide Tryd.prog W .any base 37 v) (h : DataW.Trod enc Tryd.prog W 0 (fun _ => true) true 37 v d p)
    {ts : List TypeId} {ds : List (DataW H)} {j : Nat} (hsz : (DataW.weightsEach Tryd.prog ts ds).all (· ≤ reachBytes) = true) (ht : ts[j]? = some 37) (hd : ds[j]? = some d) :
    ∃ (a : Option Addr) (cap : Nat) (l : List F.S23), v = .slice a l.length cap ∧ l.length ≤ cap ∧ (a = none → cap = 0) ∧ l.length * 16 ≤ 140737488351232 ∧ Kd.C F.k23 W a l.length l ∧ ∀ x ∈ l, F.I64 x.f0 ∧ F.I64 x.f1 := by
  obtain ⟨a, len, cap, rfl⟩ := okWide_slice Tryd.underlying37 hv
  obtain ⟨fuel, hf⟩ := h
  rcases Go.Deep.open_slice Tryd.underlying37 hf with ⟨hcs, _⟩ | ⟨ad, l, c, m, n, D, Pl, hcs, _, hl, hm, hmm, hx, hel⟩
  · simp [Value.cells] at hcs
    obtain ⟨rfl, rfl, rfl⟩ := hcs
    exact ⟨none, 0, [], rfl, Nat.le_refl _, fun _ => rfl, by simp, ⟨rfl, by simp, fun h => absurd h (by simp)⟩, fun x hx => by simp at hx⟩
  · simp [Value.cells] at hcs
    obtain ⟨rfl, rfl, rfl⟩ := hcs
    have hlm : len ≤ m := by rw [hmm]; split <;> omega
    have hs : len * 16 ≤ 140737488351232 := by
      have hd' : ds[j]? = some (.slice ((List.range len).map D) ((List.range (m - len)).map fun j => D (len + j))) := by
        rw [hd]; simpa using congrArg Prod.fst hx
      have := sized_slice hsz ht hd' Tryd.underlying37
      rw [bytes23] at this
      simp only [List.length_map, List.length_range, reachBytes] at this
      omega
    have hone : ∀ i : Nat, ∃ y : F.S23, i < len → (W.cell? (ad.add (i * 2)) = some (.int .i64 y.f0) ∧ W.cell? (ad.add (i * 2 + 1)) = some (.int .i64 y.f1)) ∧ F.I64 y.f0 ∧ F.I64 y.f1 := by
      intro i
      by_cases hi : i < len
      · obtain ⟨cs', hc, htr⟩ := hel i (by omega)
        rw [cells23] at hc
        obtain ⟨_, hcl, hat⟩ := World.cells?_some hc
        obtain ⟨y, rfl, w0, w1⟩ := num_cells hcl htr
        have a0 := hat 0 (by omega)
        have a1 := hat 1 (by omega)
        rw [Go.Deep.add_add] at a0 a1
        exact ⟨y, fun _ => ⟨⟨a0, a1⟩, w0, w1⟩⟩
      · exact ⟨⟨0, 0⟩, fun h => absurd h hi⟩
    obtain ⟨Y, hY⟩ := Classical.axiomOfChoice hone
    refine ⟨some ad, cap, (List.range len).map Y, by simp, by simpa using hl, (fun e => nomatch e), by simpa using hs, ⟨by simp, by simp; omega, fun _ => ⟨ad, rfl, fun i p hp => ?_⟩⟩, fun x hx => ?_⟩
    · have hi : i < len := by
        have := (List.getElem?_eq_some_iff.1 hp).1
        simpa using this
      have hp' : Y i = p := by simpa [hi] using hp
      subst hp'
      obtain ⟨⟨c0, c1⟩, _⟩ := hY i hi
      refine ⟨[.int .i64 (Y i).f0, .int .i64 (Y i).f1], rfl, F.k23_mk W _, fun q u hq => ?_⟩
      match q, hq with
      | 0, hq => simp at hq; subst hq; exact c0
      | 1, hq => simp at hq; subst hq; exact c1
    · obtain ⟨i, hi, rfl⟩ := List.mem_map.1 hx
      exact (hY i (by simpa using hi)).2
end Go.Proofs.YtlcjfabbnclalaaDoor.R
