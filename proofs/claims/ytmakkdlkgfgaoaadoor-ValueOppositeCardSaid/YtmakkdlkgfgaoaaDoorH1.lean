/-
Rows of values: what is read of one; a slice that is written out in a region of open order.
-/
import Derived.Test.YtmakkdlkgfgaoaaDoorC0
namespace Go.Proofs.YtmakkdlkgfgaoaaDoor.F
open Go.RowKit Go.Proofs.YtmakkdlkgfgaoaaDoorW.PrintWords Go.Proofs.YtmakkdlkgfgaoaaDoorW.PrintLast Go.Proofs.YtmakkdlkgfgaoaaDoorW.PrintMore
set_option linter.unusedVariables false
/-- a value, as the program has it -/
abbrev VV := Int × Int × Int × ByteArray × Bool × Int
def cellsV (v : VV) : List Value := [.int .i64 v.1, .int .i64 v.2.1, .int .i64 v.2.2.1, .string v.2.2.2.1, .bool v.2.2.2.2.1, .int .i64 v.2.2.2.2.2]
/-- a list's cells -/
def rowV : List VV → List Value
  | [] => []
  | v :: l => .int .i64 v.1 :: .int .i64 v.2.1 :: .int .i64 v.2.2.1 :: .string v.2.2.2.1 :: .bool v.2.2.2.2.1 :: .int .i64 v.2.2.2.2.2 :: rowV l
theorem rowV_len (l : List VV) : (rowV l).length = l.length * 6 := by
  induction l with
  | nil => rfl
  | cons x l ih => simp only [rowV, List.length_cons] at ih ⊢; omega
theorem rowV_one (l : List VV) : ∀ u ∈ rowV l, u.oneCell' = true := by
  induction l with
  | nil => intro u hu; cases hu
  | cons x l ih =>
    intro u hu
    simp only [rowV, List.mem_cons] at hu
    rcases hu with rfl | rfl | rfl | rfl | rfl | rfl | hu
    all_goals first | rfl | exact ih u hu
theorem rowV_app (l m : List VV) : rowV (l ++ m) = rowV l ++ rowV m := by
  induction l with
  | nil => rfl
  | cons x l ih => simp only [List.cons_append, rowV, ih]
theorem rowV_at (l : List VV) (i : Nat) (x : VV) (h : l[i]? = some x) (q : Nat) (u : Value) (hq : (cellsV x)[q]? = some u) : (rowV l)[i * 6 + q]? = some u := by
  induction l generalizing i with
  | nil => simp at h
  | cons y l ih =>
    have e : rowV (y :: l) = cellsV y ++ rowV l := rfl
    have hl : (cellsV y).length = 6 := rfl
    rw [e]
    cases i with
    | zero =>
      have : y = x := by simpa using h
      subst this
      rw [Nat.zero_mul, Nat.zero_add, List.getElem?_append_left (List.getElem?_eq_some_iff.1 hq).1]
      exact hq
    | succ i =>
      rw [List.getElem?_append_right (by omega), show (i + 1) * 6 + q - (cellsV y).length = i * 6 + q by omega]
      exact ih i (by simpa using h)
/-- a list that lies at an address -/
def RowAt (w : World) (A : Option Addr) (l : List VV) : Prop := 0 < l.length → ∃ ad, A = some ad ∧ ∀ j u, (rowV l)[j]? = some u → w.cell? (ad.add j) = some u
theorem RowAt.below {w w1 : World} {A : Option Addr} {l : List VV} (h : RowAt w A l) (hb : Below w.heap.size w w1) : RowAt w1 A l := fun hp => by
  obtain ⟨ad, e, hc⟩ := h hp
  exact ⟨ad, e, fun j u hu => (hb.cell (World.block_lt_of_cell? w _ (hc j u hu))).trans (hc j u hu)⟩
theorem RowAt.news {w : World} {A : Option Addr} {l : List VV} (h : RowAt w A l) (ad : Addr) (hA : A = some ad) : ∀ j u, (rowV l)[j]? = some u → w.cell? (ad.add j) = some u := by
  intro j u hu
  have hlt := (List.getElem?_eq_some_iff.1 hu).1
  rw [rowV_len] at hlt
  obtain ⟨ad', e, hc⟩ := h (by omega)
  rw [hA] at e
  obtain rfl := Option.some.inj e
  exact hc j u hu
theorem RowAt.left {w : World} {A : Option Addr} {l m : List VV} (h : RowAt w A (l ++ m)) : RowAt w A l := fun hp => by
  obtain ⟨ad, e, hc⟩ := h (by rw [List.length_append]; omega)
  refine ⟨ad, e, fun j u hu => hc j u ?_⟩
  rw [rowV_app, List.getElem?_append_left (List.getElem?_eq_some_iff.1 hu).1]
  exact hu
/-- one of them, read -/
theorem RowAt.get {w : World} {A : Option Addr} {l : List VV} (h : RowAt w A l) (i : Nat) (v1 v2 v3 : Int) (v4 : ByteArray) (v5 : Bool) (v6 : Int) (hv : l[i]? = some (v1, v2, v3, v4, v5, v6)) :
    ∃ ad, A = some ad ∧ w.cell? (ad.add (i * 6)) = some (.int .i64 v1) ∧ w.cell? ⟨(ad.add (i * 6)).block, (ad.add (i * 6)).off + 1, none⟩ = some (.int .i64 v2) ∧ w.cell? ⟨(ad.add (i * 6)).block, (ad.add (i * 6)).off + 2, none⟩ = some (.int .i64 v3) ∧ w.cell? ⟨(ad.add (i * 6)).block, (ad.add (i * 6)).off + 3, none⟩ = some (.string v4) ∧ w.cell? ⟨(ad.add (i * 6)).block, (ad.add (i * 6)).off + 4, none⟩ = some (.bool v5) ∧ w.cell? ⟨(ad.add (i * 6)).block, (ad.add (i * 6)).off + 5, none⟩ = some (.int .i64 v6) := by
  have hlt := (List.getElem?_eq_some_iff.1 hv).1
  obtain ⟨ad, e, hc⟩ := h (by omega)
  have hat := fun q u hq => hc _ u (rowV_at l i _ hv q u hq)
  refine ⟨ad, e, hat 0 _ rfl, ?_, ?_, ?_, ?_, ?_⟩
  · rw [← add_field _ _ 1 (by omega)]; exact hat 1 _ rfl
  · rw [← add_field _ _ 2 (by omega)]; exact hat 2 _ rfl
  · rw [← add_field _ _ 3 (by omega)]; exact hat 3 _ rfl
  · rw [← add_field _ _ 4 (by omega)]; exact hat 4 _ rfl
  · rw [← add_field _ _ 5 (by omega)]; exact hat 5 _ rfl
/-- an array of the call's own, read as a list -/
theorem row_of_box {w : World} {g : Nat} {l : List VV} (h : w.heap[g]? = some (.cells (rowV l).toArray 25 (0, 0))) : RowAt w (some ⟨g, 0, none⟩) l :=
  fun _ => ⟨_, rfl, by simpa using World.news_of_block h⟩
section
variable {P : Program} {ops : Array Oper} {o : Oper} {a : Act} {Q : Exit → Act → World → Prop} {Kc : Act → World → Prop} {w0 : World} {L : List BoxE}
/-- a slice that is written out, in a region of open order -/
theorem slice1 {W : World} [k : Bx w0 W L] (N : Tmp) (n : Nat) (cs : Array Value) (t : TypeId) (hd : o.dst = some N) (hw : Region.wanted o (yielded ops a.tmps) = true)
    (hrun : (execOp a.eval o).run P W = .ok (.value (.slice (some ⟨W.heap.size, 0, none⟩) n n)) (W.alloc (.cells cs t (0, 0))))
    (h : ∀ g w1, Bx w0 w1 ((g, t, cs) :: L) → Kc (a.put o.dst (.slice (some ⟨g, 0, none⟩) n n)) w1) : if Region.wanted o (yielded ops a.tmps) = true then Oper.wp P o a W Kc Q else Kc (a.put o.dst undef) W :=
  event_step hw hrun (h _ _ ⟨Boxes.new k.bx rfl (blk_new W _) (below_alloc (Below.refl _ _) _) (below_size k.bl), below_step k.bl (below_alloc (Below.refl _ _) _)⟩)
end
theorem boxes_swap {b : Nat} {w : World} {x y : BoxE} {L : List BoxE} (h : Boxes b w (x :: y :: L)) : Boxes b w (y :: x :: L) := by
  obtain ⟨h1, h2, ⟨h3, h4⟩, h5, h6, h7, h8⟩ := h
  exact ⟨h5, h6, ⟨fun e => h3 e.symm, h7⟩, h1, h2, h4, h8⟩
theorem bxw {w0 w : World} {x y : BoxE} {L : List BoxE} (h : Bx w0 w (x :: y :: L)) : Bx w0 w (y :: x :: L) := ⟨boxes_swap h.bx, h.bl⟩
theorem nrm {p : Prop} (h : p := by first | (simp only [putAll, Act.put, List.setIfInBounds_toArray, List.set_cons_zero, List.set_cons_succ]; done) | (simp only [putAll, Act.put, List.setIfInBounds_toArray, List.set_cons_zero, List.set_cons_succ]; rfl)) : p := h
theorem nr1 {p : Prop} (h : p := by (simp only [Act.put, List.setIfInBounds_toArray, List.set_cons_zero, List.set_cons_succ, i64_w, i32_w]; rfl)) : p := h
end Go.Proofs.YtmakkdlkgfgaoaaDoor.F
