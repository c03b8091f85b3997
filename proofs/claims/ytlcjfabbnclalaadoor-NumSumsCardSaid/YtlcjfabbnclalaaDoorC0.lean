/-
Boxes as classes: what a walk has made is told by an instance on the world; reads, stores, calls and new boxes are found by it.
-/
import Derived.Test.YtlcjfabbnclalaaDoorB0
namespace Go.Proofs.YtlcjfabbnclalaaDoor.F
open Go.RowKit Go.Proofs.YtlcjfabbnclalaaDoorW.PrintWords Go.Proofs.YtlcjfabbnclalaaDoorW.PrintLast Go.Proofs.YtlcjfabbnclalaaDoorW.PrintMore

/-- behind the world w0 nothing old has changed, and these were made -/
class Bx (w0 : outParam World) (w : World) (L : outParam (List BoxE)) : Prop where
  bx : Boxes w0.heap.size w L
  bl : Below w0.heap.size w0 w
class NthV (l : List Value) (j : Nat) (v : outParam Value) : Prop where
  out : l[j]? = some v
instance (v : Value) (l : List Value) : NthV (v :: l) 0 v := ⟨rfl⟩
instance (a : Value) (l : List Value) (j : Nat) (v : Value) [h : NthV l j v] : NthV (a :: l) (j + 1) v := ⟨by simpa using h.out⟩
class HasG (L : List BoxE) (g : Nat) (t : outParam TypeId) (cs : outParam (Array Value)) : Prop where
  out : ∃ i, nthB L i = some (g, t, cs)
instance (priority := high) (L : List BoxE) (g : Nat) (t : TypeId) (cs : Array Value) : HasG ((g, t, cs) :: L) g t cs := ⟨0, rfl⟩
instance (p : BoxE) (L : List BoxE) (g : Nat) (t : TypeId) (cs : Array Value) [h : HasG L g t cs] : HasG (p :: L) g t cs := ⟨h.out.elim fun i e => ⟨i + 1, e⟩⟩
class SetV (l : List Value) (j : Nat) (u : Value) (l' : outParam (List Value)) : Prop where
  out : l.set j u = l'
instance (v u : Value) (l : List Value) : SetV (v :: l) 0 u (u :: l) := ⟨rfl⟩
instance (a u : Value) (l l' : List Value) (j : Nat) [h : SetV l j u l'] : SetV (a :: l) (j + 1) u (a :: l') := ⟨by simpa using h.out⟩
class PutG (L : List BoxE) (g j : Nat) (u : Value) (L' : outParam (List BoxE)) : Prop where
  out : ∃ i t cs, nthB L i = some (g, t, cs) ∧ putB L i (g, t, cs.setIfInBounds j u) = L'
instance (priority := high) (L : List BoxE) (g j : Nat) (t : TypeId) (l l' : List Value) (u : Value) [h : SetV l j u l'] : PutG ((g, t, l.toArray) :: L) g j u ((g, t, l'.toArray) :: L) :=
  ⟨0, t, l.toArray, rfl, by simp [putB, h.out]⟩
instance (p : BoxE) (L L' : List BoxE) (g j : Nat) (u : Value) [h : PutG L g j u L'] : PutG (p :: L) g j u (p :: L') :=
  ⟨by obtain ⟨i, t, cs, e, e'⟩ := h.out; exact ⟨i + 1, t, cs, e, by simp [putB, e']⟩⟩

theorem Bx.start (w : World) : Bx w w [] := ⟨trivial, Below.refl _ _⟩
section
variable {w0 w : World} {L : List BoxE}
instance [h : Bx w0 w L] : Bx w0 w.drew L := ⟨h.bx.drew, below_drew1 h.bl⟩
instance (n : Nat) [h : Bx w0 w L] : Bx w0 (w.drewN n) L := ⟨h.bx.drewN n, pw_below_drewN h.bl n⟩
instance (o : Obj) [h : Bx w0 w L] : Bx w0 (w.alloc o) L := ⟨h.bx.alloc o, below_then h.bl h.bl.size (below_alloc (Below.refl _ _) o)⟩
instance (g j : Nat) (u : Value) (L' : List BoxE) [h : Bx w0 w L] [k : PutG L g j u L'] : Bx w0 (w.setCell ⟨g, j, none⟩ u) L' :=
  ⟨by obtain ⟨i, t, cs, e, e'⟩ := k.out; exact boxes_put i h.bx e e', by obtain ⟨i, t, cs, e, e'⟩ := k.out; exact below_set h.bl (h.bx.ge i e)⟩
theorem bx_cell {g j : Nat} {t : TypeId} {l : List Value} {v : Value} [h : Bx w0 w L] [k : HasG L g t l.toArray] [n : NthV l j v] : w.cell? ⟨g, j, none⟩ = some v := by
  obtain ⟨i, e⟩ := k.out
  rw [blk_cell (h.bx.get i e) j]; simpa using n.out
theorem bx_frozen {g j : Nat} {t : TypeId} {cs : Array Value} [h : Bx w0 w L] [k : HasG L g t cs] : w.frozen? ⟨g, j, none⟩ = false := by
  obtain ⟨i, e⟩ := k.out
  exact blk_frozen (h.bx.get i e) j
theorem bx_get {g : Nat} {t : TypeId} {cs : Array Value} [h : Bx w0 w L] [k : HasG L g t cs] : w.heap[g]? = some (.cells cs t (0, 0)) := by
  obtain ⟨i, e⟩ := k.out
  exact h.bx.get i e
theorem bx_ge (w : World) {w0 : World} {L : List BoxE} {g : Nat} {t : TypeId} {cs : Array Value} [h : Bx w0 w L] [k : HasG L g t cs] : w0.heap.size ≤ g := by
  obtain ⟨i, e⟩ := k.out
  exact h.bx.ge i e
theorem bx_bl [h : Bx w0 w L] : Below w0.heap.size w0 w := h.bl
theorem bx_call {w1 : World} [h : Bx w0 w L] (hb : Below w.heap.size w w1) : Bx w0 w1 L := ⟨h.bx.below hb, below_step h.bl hb⟩
/-- by what is in the context -/
theorem bxi {L' : List BoxE} [h : Bx w0 w L'] : Bx w0 w L' := h
theorem bxs {L' : List BoxE} [h : Bx w0 w L] (s : SubB L' L := by repeat first | exact SubB.nil | apply SubB.same | apply SubB.skip) : Bx w0 w L' := ⟨boxes_sub h.bx s, h.bl⟩
end
section
variable {P : Program} {ops : Array Oper} {rest : List Oper} {o : Oper} {a : Act} {Q : Exit → Act → World → Prop} {Kc : Act → World → Prop} {w0 : World} {L : List BoxE}
theorem bxe {W : World} [k : Bx w0 W L] (N : Tmp) (cs : Array Value) (t : TypeId) (hd : o.dst = some N) (hgd : o.guard = none)
    (hrun : (execOp a.eval o).run P W = .ok (.value (.pointer (some ⟨W.heap.size, 0, none⟩))) (W.alloc (.cells cs t (0, 0))))
    (h : ∀ g w1, Aside0 (w0.heap.size ≤ g) → Bx w0 w1 ((g, t, cs) :: L) → wpList P ops Q rest (a.put o.dst (.pointer (some ⟨g, 0, none⟩))) w1) : wpList P ops Q (o :: rest) a W :=
  box_event hgd hd hrun fun g hg w1 hbox hb => h g w1 ⟨by rw [hg]; exact below_size k.bl⟩ ⟨Boxes.new k.bx hg hbox hb (below_size k.bl), below_step k.bl hb⟩
theorem bxe1 {W : World} [k : Bx w0 W L] (N : Tmp) (cs : Array Value) (t : TypeId) (hd : o.dst = some N) (hw : Region.wanted o (yielded ops a.tmps) = true)
    (hrun : (execOp a.eval o).run P W = .ok (.value (.pointer (some ⟨W.heap.size, 0, none⟩))) (W.alloc (.cells cs t (0, 0))))
    (h : ∀ g w1, Aside0 (w0.heap.size ≤ g) → Bx w0 w1 ((g, t, cs) :: L) → Kc (a.put o.dst (.pointer (some ⟨g, 0, none⟩))) w1) : if Region.wanted o (yielded ops a.tmps) = true then Oper.wp P o a W Kc Q else Kc (a.put o.dst undef) W :=
  box_step hw hd hrun fun g hg w1 hbox hb => h g w1 ⟨by rw [hg]; exact below_size k.bl⟩ ⟨Boxes.new k.bx hg hbox hb (below_size k.bl), below_step k.bl hb⟩
theorem startb {id n : Nat} {a : Act} {w : World} {ds : List Nat} [k : Bx w0 w L] (l : Array Bool) (hm : P.follows .mixedOrders = true) (hn : ops.size = n) (hl : Array.replicate n false = l)
    (h : Bx w0 w.drew L → wpAnyLast P .any ops Q (fun w' => Bx w0 w' L) ds n l a w.drew) : (Code.region id ops true).wp P Q a w :=
  start_ l hm hn hl (S := fun w' => Bx w0 w' L) inferInstance h
end
/-- what closes by reckoning -/
theorem gr {p : Prop} (h : p := by first | (go_simp; done) | (go_simp; rfl)) : p := h
theorem er {p : Prop} (h : p := by first | rfl | (simp; done) | (simp [*]; done) | (simp [bne_nil]; done)) : p := h
theorem er2 {p : Prop} (h : p := by first | rfl | (simp [errW_none, errW_some] <;> rfl) | (simp [*, errW_none, errW_some] <;> rfl)) : p := h
theorem ga {p : Prop} (h : p := by (try simp only [List.map_toArray, List.map_cons, List.map_nil]); first | done | rfl | (simp only [List.length_drop, List.length_take]; rfl)) : p := h
theorem kr {p : Prop} (h : p := by kernel_rfl) : p := h
theorem dr {p : Prop} (h : p := by repeat (first | exact Drawn0.refl _ | apply Drawn0.step)) : p := h
end Go.Proofs.YtlcjfabbnclalaaDoor.F
