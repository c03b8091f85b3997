/-
Boxes: what a walk has made, told by an instance on the world; reads, stores, calls and new boxes are found by it.
-/
import Derived.Test.YtmakkdlkgfgaoaaDoorF0
namespace Go.Proofs.YtmakkdlkgfgaoaaDoor.F
open Go.RowKit Go.Proofs.YtmakkdlkgfgaoaaDoorW.PrintWords Go.Proofs.YtmakkdlkgfgaoaaDoorW.PrintLast Go.Proofs.YtmakkdlkgfgaoaaDoorW.PrintMore

abbrev BoxE := Nat × TypeId × Array Value
def nthB : List BoxE → Nat → Option BoxE
  | [], _ => none
  | a :: _, 0 => some a
  | _ :: l, n + 1 => nthB l n
def putB : List BoxE → Nat → BoxE → List BoxE
  | [], _, _ => []
  | _ :: l, 0, x => x :: l
  | a :: l, n + 1, x => a :: putB l n x
def farB (g : Nat) : List BoxE → Prop
  | [] => True
  | p :: l => g ≠ p.1 ∧ farB g l
def Boxes (b : Nat) (w : World) : List BoxE → Prop
  | [] => True
  | p :: l => b ≤ p.1 ∧ w.heap[p.1]? = some (.cells p.2.2 p.2.1 (0, 0)) ∧ farB p.1 l ∧ Boxes b w l

theorem Boxes.ge {b : Nat} {w : World} {L : List BoxE} (h : Boxes b w L) (i : Nat) {g : Nat} {t : TypeId} {cs : Array Value} (e : nthB L i = some (g, t, cs)) : b ≤ g := by
  induction L generalizing i with
  | nil => cases e
  | cons p l ih =>
    cases i with
    | zero => injection e with e; subst e; exact h.1
    | succ i => exact ih h.2.2.2 i e
theorem Boxes.get {b : Nat} {w : World} {L : List BoxE} (h : Boxes b w L) (i : Nat) {g : Nat} {t : TypeId} {cs : Array Value} (e : nthB L i = some (g, t, cs)) : w.heap[g]? = some (.cells cs t (0, 0)) := by
  induction L generalizing i with
  | nil => cases e
  | cons p l ih =>
    cases i with
    | zero => injection e with e; subst e; exact h.2.1
    | succ i => exact ih h.2.2.2 i e
theorem farB.ne {g : Nat} {L : List BoxE} (h : farB g L) (i : Nat) {g' : Nat} {t : TypeId} {cs : Array Value} (e : nthB L i = some (g', t, cs)) : g ≠ g' := by
  induction L generalizing i with
  | nil => cases e
  | cons p l ih =>
    cases i with
    | zero => injection e with e; subst e; exact h.1
    | succ i => exact ih h.2 i e
theorem Boxes.ne {b : Nat} {w : World} {L : List BoxE} (h : Boxes b w L) (i j : Nat) {g g' : Nat} {t t' : TypeId} {cs cs' : Array Value} (e : nthB L i = some (g, t, cs)) (e' : nthB L j = some (g', t', cs')) (d : i ≠ j) : g ≠ g' := by
  induction L generalizing i j with
  | nil => cases e
  | cons p l ih =>
    cases i with
    | zero =>
      cases j with
      | zero => exact absurd rfl d
      | succ j => injection e with e; subst e; exact h.2.2.1.ne j e'
    | succ i =>
      cases j with
      | zero => injection e' with e'; subst e'; exact (h.2.2.1.ne i e).symm
      | succ j => exact ih h.2.2.2 i j e e' (fun h => d (by rw [h]))
def apartB (g : Nat) : List BoxE → Prop
  | [] => True
  | p :: l => (g ≠ p.1 ∧ p.1 ≠ g) ∧ apartB g l
def lessB : List BoxE → Nat → List BoxE
  | [], _ => []
  | _ :: l, 0 => l
  | a :: l, n + 1 => a :: lessB l n
theorem farB.apart {g : Nat} {L : List BoxE} (h : farB g L) : apartB g L := by
  induction L with
  | nil => exact trivial
  | cons p l ih => exact ⟨⟨h.1, h.1.symm⟩, ih h.2⟩
/-- one is none of the others -/
theorem Boxes.apart {b : Nat} {w : World} {L : List BoxE} (h : Boxes b w L) (i : Nat) {g : Nat} {t : TypeId} {cs : Array Value} (e : nthB L i = some (g, t, cs)) : apartB g (lessB L i) := by
  induction L generalizing i with
  | nil => cases e
  | cons p l ih =>
    cases i with
    | zero => injection e with e; subst e; exact h.2.2.1.apart
    | succ i => exact ⟨⟨(h.2.2.1.ne i e).symm, h.2.2.1.ne i e⟩, ih h.2.2.2 i e⟩
/-- the same list at another world -/
theorem Boxes.at_ {b : Nat} {w w' : World} {L : List BoxE} (h : Boxes b w L) (k : ∀ (g : Nat) (o : Obj), w.heap[g]? = some o → w'.heap[g]? = some o) : Boxes b w' L := by
  induction L with
  | nil => exact trivial
  | cons p l ih => exact ⟨h.1, k _ _ h.2.1, h.2.2.1, ih h.2.2.2⟩
theorem Boxes.drew {b : Nat} {w : World} {L : List BoxE} (h : Boxes b w L) : Boxes b w.drew L := h.at_ fun _ _ e => e
theorem Boxes.drewN {b : Nat} {w : World} {L : List BoxE} (h : Boxes b w L) (n : Nat) : Boxes b (w.drewN n) L := h.at_ fun _ _ e => e
theorem Boxes.alloc {b : Nat} {w : World} {L : List BoxE} (h : Boxes b w L) (o : Obj) : Boxes b (w.alloc o) L := h.at_ fun _ _ e => blk_alloc e o
theorem Boxes.below {b : Nat} {w w1 : World} {L : List BoxE} (h : Boxes b w L) (hb : Below w.heap.size w w1) : Boxes b w1 L := h.at_ fun _ _ e => blk_below e hb
theorem farB.lt {b : Nat} {w : World} {L : List BoxE} (h : Boxes b w L) : farB w.heap.size L := by
  induction L with
  | nil => exact trivial
  | cons p l ih => exact ⟨Nat.ne_of_gt (blk_lt h.2.1), ih h.2.2.2⟩
/-- a new one -/
theorem Boxes.new {b : Nat} {w w1 : World} {L : List BoxE} (h : Boxes b w L) {g : Nat} (hg : g = w.heap.size) {cs : Array Value} {t : TypeId} (hbox : w1.heap[g]? = some (.cells cs t (0, 0))) (hb : Below w.heap.size w w1) (hs : b ≤ w.heap.size) : Boxes b w1 ((g, t, cs) :: L) := by
  subst hg
  exact ⟨hs, hbox, farB.lt h, h.below hb⟩
theorem farB.put {g : Nat} {L : List BoxE} (h : farB g L) (i : Nat) {x : BoxE} {y : BoxE} (e : nthB L i = some y) (hx : x.1 = y.1) : farB g (putB L i x) := by
  induction L generalizing i with
  | nil => cases e
  | cons p l ih =>
    cases i with
    | zero => injection e with e; subst e; exact ⟨by rw [hx]; exact h.1, h.2⟩
    | succ i => exact ⟨h.1, ih h.2 i e⟩
theorem Boxes.far {b : Nat} {w : World} {L : List BoxE} (h : Boxes b w L) {p : Addr} (hp : farB p.block L) (u : Value) : Boxes b (w.setCell p u) L := by
  induction L with
  | nil => exact trivial
  | cons q l ih => exact ⟨h.1, blk_far h.2.1 (fun e => hp.1 e.symm) u, h.2.2.1, ih h.2.2.2 hp.2⟩
/-- a store -/
theorem Boxes.put {b : Nat} {w : World} {L : List BoxE} (h : Boxes b w L) (i : Nat) {g : Nat} {t : TypeId} {cs : Array Value} (e : nthB L i = some (g, t, cs)) (j : Nat) (u : Value) : Boxes b (w.setCell ⟨g, j, none⟩ u) (putB L i (g, t, cs.setIfInBounds j u)) := by
  induction L generalizing i with
  | nil => cases e
  | cons p l ih =>
    cases i with
    | zero =>
      injection e with e; subst e
      exact ⟨h.1, blk_put h.2.1 j u rfl, h.2.2.1, h.2.2.2.far (p := ⟨g, j, none⟩) h.2.2.1 u⟩
    | succ i => exact ⟨h.1, blk_far h.2.1 (p := ⟨g, j, none⟩) (h.2.2.1.ne i e) u, h.2.2.1.put i e rfl, ih h.2.2.2 i e⟩
theorem boxes_put {b : Nat} {w : World} {L L' : List BoxE} (i : Nat) {g j : Nat} {t : TypeId} {cs : Array Value} {u : Value} (h : Boxes b w L) (e : nthB L i = some (g, t, cs)) (e' : putB L i (g, t, cs.setIfInBounds j u) = L') : Boxes b (w.setCell ⟨g, j, none⟩ u) L' := e' ▸ h.put i e j u
theorem boxes_drew {b : Nat} {w : World} {L : List BoxE} (h : Boxes b w L) : Boxes b w.drew L := h.drew
theorem boxes_drewN {b : Nat} {w : World} {L : List BoxE} (h : Boxes b w L) (n : Nat) : Boxes b (w.drewN n) L := h.drewN n
theorem boxes_alloc {b : Nat} {w : World} {L : List BoxE} (h : Boxes b w L) (o : Obj) : Boxes b (w.alloc o) L := h.alloc o
/-- some of them -/
inductive SubB : List BoxE → List BoxE → Prop
  | nil : SubB [] []
  | same (a : BoxE) {l l' : List BoxE} : SubB l l' → SubB (a :: l) (a :: l')
  | skip (a : BoxE) {l l' : List BoxE} : SubB l l' → SubB l (a :: l')
theorem SubB.farB {l l' : List BoxE} (s : SubB l l') {g : Nat} (h : farB g l') : F.farB g l := by
  induction s with
  | nil => exact h
  | same a _ ih => exact ⟨h.1, ih h.2⟩
  | skip a _ ih => exact ih h.2
theorem boxes_sub {b : Nat} {w : World} {l l' : List BoxE} (h : Boxes b w l') (s : SubB l l') : Boxes b w l := by
  induction s with
  | nil => exact h
  | same a s ih => exact ⟨h.1, h.2.1, s.farB h.2.2.1, ih h.2.2.2⟩
  | skip a _ ih => exact ih h.2.2.2
end Go.Proofs.YtmakkdlkgfgaoaaDoor.F
namespace Go.Proofs.YtmakkdlkgfgaoaaDoor.F
open Go.RowKit Go.Proofs.YtmakkdlkgfgaoaaDoorW.PrintWords Go.Proofs.YtmakkdlkgfgaoaaDoorW.PrintLast Go.Proofs.YtmakkdlkgfgaoaaDoorW.PrintMore

/-- behind the world w0 nothing old has changed, and these were made -/
class Bx (w0 : outParam World) (w : World) (L : outParam (List BoxE)) : Prop where
  bx : Boxes w0.heap.size w L
  bl : Below w0.heap.size w0 w
class NthV (l : List Value) (j : Nat) (v : outParam Value) : Prop where
  out : l[j]? = some v
instance (v : Value) (l : List Value) : NthV (v :: l) 0 v := ⟨rfl⟩
instance (a : Value) (l : List Value) (j : Nat) (v : Value) [h : NthV l j v] : NthV (a :: l) (j + 1) v := ⟨by simpa using h.out⟩
class HasG (L : List BoxE) (g : Nat) (t : outParam TypeId) (cs : outParam (Array Value)) : Prop where
  out : ∃ i, nthB L i = some (g, t, cs)
instance (priority := high) (L : List BoxE) (g : Nat) (t : TypeId) (cs : Array Value) : HasG ((g, t, cs) :: L) g t cs := ⟨0, rfl⟩
instance (p : BoxE) (L : List BoxE) (g : Nat) (t : TypeId) (cs : Array Value) [h : HasG L g t cs] : HasG (p :: L) g t cs := ⟨h.out.elim fun i e => ⟨i + 1, e⟩⟩
class SetV (l : List Value) (j : Nat) (u : Value) (l' : outParam (List Value)) : Prop where
  out : l.set j u = l'
instance (v u : Value) (l : List Value) : SetV (v :: l) 0 u (u :: l) := ⟨rfl⟩
instance (a u : Value) (l l' : List Value) (j : Nat) [h : SetV l j u l'] : SetV (a :: l) (j + 1) u (a :: l') := ⟨by simpa using h.out⟩
class PutG (L : List BoxE) (g j : Nat) (u : Value) (L' : outParam (List BoxE)) : Prop where
  out : ∃ i t cs, nthB L i = some (g, t, cs) ∧ putB L i (g, t, cs.setIfInBounds j u) = L'
instance (priority := high) (L : List BoxE) (g j : Nat) (t : TypeId) (l l' : List Value) (u : Value) [h : SetV l j u l'] : PutG ((g, t, l.toArray) :: L) g j u ((g, t, l'.toArray) :: L) :=
  ⟨0, t, l.toArray, rfl, by simp [putB, h.out]⟩
instance (p : BoxE) (L L' : List BoxE) (g j : Nat) (u : Value) [h : PutG L g j u L'] : PutG (p :: L) g j u (p :: L') :=
  ⟨by obtain ⟨i, t, cs, e, e'⟩ := h.out; exact ⟨i + 1, t, cs, e, by simp [putB, e']⟩⟩

theorem Bx.start (w : World) : Bx w w [] := ⟨trivial, Below.refl _ _⟩
section
variable {w0 w : World} {L : List BoxE}
instance [h : Bx w0 w L] : Bx w0 w.drew L := ⟨h.bx.drew, below_drew1 h.bl⟩
instance (n : Nat) [h : Bx w0 w L] : Bx w0 (w.drewN n) L := ⟨h.bx.drewN n, pw_below_drewN h.bl n⟩
instance (o : Obj) [h : Bx w0 w L] : Bx w0 (w.alloc o) L := ⟨h.bx.alloc o, below_then h.bl h.bl.size (below_alloc (Below.refl _ _) o)⟩
instance (g j : Nat) (u : Value) (L' : List BoxE) [h : Bx w0 w L] [k : PutG L g j u L'] : Bx w0 (w.setCell ⟨g, j, none⟩ u) L' :=
  ⟨by obtain ⟨i, t, cs, e, e'⟩ := k.out; exact boxes_put i h.bx e e', by obtain ⟨i, t, cs, e, e'⟩ := k.out; exact below_set h.bl (h.bx.ge i e)⟩
theorem bx_cell {g j : Nat} {t : TypeId} {l : List Value} {v : Value} [h : Bx w0 w L] [k : HasG L g t l.toArray] [n : NthV l j v] : w.cell? ⟨g, j, none⟩ = some v := by
  obtain ⟨i, e⟩ := k.out
  rw [blk_cell (h.bx.get i e) j]; simpa using n.out
theorem bx_frozen {g j : Nat} {t : TypeId} {cs : Array Value} [h : Bx w0 w L] [k : HasG L g t cs] : w.frozen? ⟨g, j, none⟩ = false := by
  obtain ⟨i, e⟩ := k.out
  exact blk_frozen (h.bx.get i e) j
theorem bx_get {g : Nat} {t : TypeId} {cs : Array Value} [h : Bx w0 w L] [k : HasG L g t cs] : w.heap[g]? = some (.cells cs t (0, 0)) := by
  obtain ⟨i, e⟩ := k.out
  exact h.bx.get i e
theorem bx_ge (w : World) {w0 : World} {L : List BoxE} {g : Nat} {t : TypeId} {cs : Array Value} [h : Bx w0 w L] [k : HasG L g t cs] : w0.heap.size ≤ g := by
  obtain ⟨i, e⟩ := k.out
  exact h.bx.ge i e
theorem bx_bl [h : Bx w0 w L] : Below w0.heap.size w0 w := h.bl
theorem bx_call {w1 : World} [h : Bx w0 w L] (hb : Below w.heap.size w w1) : Bx w0 w1 L := ⟨h.bx.below hb, below_step h.bl hb⟩
/-- by what is in the context -/
theorem bxi {L' : List BoxE} [h : Bx w0 w L'] : Bx w0 w L' := h
theorem bxs {L' : List BoxE} [h : Bx w0 w L] (s : SubB L' L := by repeat first | exact SubB.nil | apply SubB.same | apply SubB.skip) : Bx w0 w L' := ⟨boxes_sub h.bx s, h.bl⟩
end
section
variable {P : Program} {ops : Array Oper} {rest : List Oper} {o : Oper} {a : Act} {Q : Exit → Act → World → Prop} {Kc : Act → World → Prop} {w0 : World} {L : List BoxE}
theorem bxe {W : World} [k : Bx w0 W L] (N : Tmp) (cs : Array Value) (t : TypeId) (hd : o.dst = some N) (hgd : o.guard = none)
    (hrun : (execOp a.eval o).run P W = .ok (.value (.pointer (some ⟨W.heap.size, 0, none⟩))) (W.alloc (.cells cs t (0, 0))))
    (h : ∀ g w1, Aside0 (w0.heap.size ≤ g) → Bx w0 w1 ((g, t, cs) :: L) → wpList P ops Q rest (a.put o.dst (.pointer (some ⟨g, 0, none⟩))) w1) : wpList P ops Q (o :: rest) a W :=
  box_event hgd hd hrun fun g hg w1 hbox hb => h g w1 ⟨by rw [hg]; exact below_size k.bl⟩ ⟨Boxes.new k.bx hg hbox hb (below_size k.bl), below_step k.bl hb⟩
theorem bxe1 {W : World} [k : Bx w0 W L] (N : Tmp) (cs : Array Value) (t : TypeId) (hd : o.dst = some N) (hw : Region.wanted o (yielded ops a.tmps) = true)
    (hrun : (execOp a.eval o).run P W = .ok (.value (.pointer (some ⟨W.heap.size, 0, none⟩))) (W.alloc (.cells cs t (0, 0))))
    (h : ∀ g w1, Aside0 (w0.heap.size ≤ g) → Bx w0 w1 ((g, t, cs) :: L) → Kc (a.put o.dst (.pointer (some ⟨g, 0, none⟩))) w1) : if Region.wanted o (yielded ops a.tmps) = true then Oper.wp P o a W Kc Q else Kc (a.put o.dst undef) W :=
  box_step hw hd hrun fun g hg w1 hbox hb => h g w1 ⟨by rw [hg]; exact below_size k.bl⟩ ⟨Boxes.new k.bx hg hbox hb (below_size k.bl), below_step k.bl hb⟩
theorem startb {id n : Nat} {a : Act} {w : World} {ds : List Nat} [k : Bx w0 w L] (l : Array Bool) (hm : P.follows .mixedOrders = true) (hn : ops.size = n) (hl : Array.replicate n false = l)
    (h : Bx w0 w.drew L → wpAnyLast P .any ops Q (fun w' => Bx w0 w' L) ds n l a w.drew) : (Code.region id ops true).wp P Q a w :=
  start_ l hm hn hl (S := fun w' => Bx w0 w' L) inferInstance h
end
/-- what closes by reckoning -/
theorem gr {p : Prop} (h : p := by first | (go_simp; done) | (go_simp; rfl)) : p := h
theorem er {p : Prop} (h : p := by first | rfl | (simp; done) | (simp [*]; done) | (simp [bne_nil]; done)) : p := h
theorem er2 {p : Prop} (h : p := by first | rfl | (simp [errW_none, errW_some] <;> rfl) | (simp [*, errW_none, errW_some] <;> rfl)) : p := h
theorem ga {p : Prop} (h : p := by (try simp only [List.map_toArray, List.map_cons, List.map_nil]); first | done | rfl | (simp only [List.length_drop, List.length_take]; rfl)) : p := h
theorem kr {p : Prop} (h : p := by kernel_rfl) : p := h
theorem dr {p : Prop} (h : p := by repeat (first | exact Drawn0.refl _ | apply Drawn0.step)) : p := h
end Go.Proofs.YtmakkdlkgfgaoaaDoor.F
namespace Go.Proofs.YtmakkdlkgfgaoaaDoor.F
open Go.RowKit Go.Proofs.YtmakkdlkgfgaoaaDoorW.PrintWords Go.Proofs.YtmakkdlkgfgaoaaDoorW.PrintLast Go.Proofs.YtmakkdlkgfgaoaaDoorW.PrintMore

theorem subB_nil (L : List BoxE) : SubB [] L := by
  induction L with
  | nil => exact .nil
  | cons a L ih => exact .skip a ih
/-- those that the mask keeps -/
class PickB (L : List BoxE) (m : List Bool) (L' : outParam (List BoxE)) : Prop where
  out : SubB L' L
instance (L : List BoxE) : PickB L [] [] := ⟨subB_nil L⟩
instance (a : BoxE) (L L' : List BoxE) (m : List Bool) [h : PickB L m L'] : PickB (a :: L) (true :: m) (a :: L') := ⟨.same a h.out⟩
instance (a : BoxE) (L L' : List BoxE) (m : List Bool) [h : PickB L m L'] : PickB (a :: L) (false :: m) L' := ⟨.skip a h.out⟩
section
variable {P : Program} {ops : Array Oper} {rest : List Oper} {o : Oper} {a : Act} {Q : Exit → Act → World → Prop} {Kc : Act → World → Prop} {w0 : World} {L : List BoxE}
theorem startm {id n : Nat} {a : Act} {w : World} {ds : List Nat} {L' : List BoxE} (m : List Bool) [k : Bx w0 w L] [p : PickB L m L'] (l : Array Bool) (hm : P.follows .mixedOrders = true) (hn : ops.size = n) (hl : Array.replicate n false = l)
    (h : Bx w0 w.drew L → wpAnyLast P .any ops Q (fun w' => Bx w0 w' L') ds n l a w.drew) : (Code.region id ops true).wp P Q a w :=
  start_ l hm hn hl (S := fun w' => Bx w0 w' L') ⟨boxes_sub k.bx.drew p.out, below_drew1 k.bl⟩ fun _ => h ⟨k.bx.drew, below_drew1 k.bl⟩
/-- with what a row of the call's own asks -/
theorem bxo {W : World} [k : Bx w0 W L] (N : Tmp) (cs : Array Value) (t : TypeId) (hd : o.dst = some N) (hgd : o.guard = none)
    (hrun : (execOp a.eval o).run P W = .ok (.value (.pointer (some ⟨W.heap.size, 0, none⟩))) (W.alloc (.cells cs t (0, 0))))
    (h : ∀ g w1, Aside0 (w0.heap.size ≤ g) → g = W.heap.size → Below W.heap.size W w1 → Bx w0 w1 ((g, t, cs) :: L) → wpList P ops Q rest (a.put o.dst (.pointer (some ⟨g, 0, none⟩))) w1) : wpList P ops Q (o :: rest) a W :=
  box_event hgd hd hrun fun g hg w1 hbox hb => h g w1 ⟨by rw [hg]; exact below_size k.bl⟩ hg hb ⟨Boxes.new k.bx hg hbox hb (below_size k.bl), below_step k.bl hb⟩
theorem bxo1 {W : World} [k : Bx w0 W L] (N : Tmp) (cs : Array Value) (t : TypeId) (hd : o.dst = some N) (hw : Region.wanted o (yielded ops a.tmps) = true)
    (hrun : (execOp a.eval o).run P W = .ok (.value (.pointer (some ⟨W.heap.size, 0, none⟩))) (W.alloc (.cells cs t (0, 0))))
    (h : ∀ g w1, Aside0 (w0.heap.size ≤ g) → g = W.heap.size → Below W.heap.size W w1 → Bx w0 w1 ((g, t, cs) :: L) → Kc (a.put o.dst (.pointer (some ⟨g, 0, none⟩))) w1) : if Region.wanted o (yielded ops a.tmps) = true then Oper.wp P o a W Kc Q else Kc (a.put o.dst undef) W :=
  box_step hw hd hrun fun g hg w1 hbox hb => h g w1 ⟨by rw [hg]; exact below_size k.bl⟩ hg hb ⟨Boxes.new k.bx hg hbox hb (below_size k.bl), below_step k.bl hb⟩
end
theorem beq_nil (l : List UInt8) : (l == []) = l.isEmpty := by cases l <;> rfl
/-- of two texts the greater one -/
theorem less_flip (a b : List UInt8) : (!(Op.bytesLess a b || a == b)) = Op.bytesLess b a := by
  induction a generalizing b with
  | nil => cases b <;> simp [Op.bytesLess]
  | cons x a ih =>
    cases b with
    | nil => simp [Op.bytesLess]
    | cons y b =>
      have h := ih b
      simp only [Op.bytesLess, List.cons_beq_cons]
      rw [← h]
      rcases Nat.lt_trichotomy x.toNat y.toNat with l | l | l
      · have h1 : decide (x < y) = true := decide_eq_true (UInt8.lt_iff_toNat_lt.2 l)
        have h2 : decide (y < x) = false := decide_eq_false fun c => by have := UInt8.lt_iff_toNat_lt.1 c; omega
        have h3 : (y == x) = false := by simp only [beq_eq_false_iff_ne]; rintro rfl; omega
        simp [h1, h2, h3]
      · obtain rfl := UInt8.toNat_inj.1 l
        have h1 : decide (x < x) = false := decide_eq_false fun c => by have := UInt8.lt_iff_toNat_lt.1 c; omega
        simp
      · have h1 : decide (y < x) = true := decide_eq_true (UInt8.lt_iff_toNat_lt.2 l)
        have h2 : decide (x < y) = false := decide_eq_false fun c => by have := UInt8.lt_iff_toNat_lt.1 c; omega
        have h3 : (x == y) = false := by simp only [beq_eq_false_iff_ne]; rintro rfl; omega
        simp [h1, h2, h3]
theorem str_gtr (t : TypeId) (a b : ByteArray) : binOp .gtr t (.string a) (.string b) = pure (.bool (Op.bytesLess b.toList a.toList)) := by
  rw [← less_flip]; simp [binOp, Op.stringOp]
end Go.Proofs.YtmakkdlkgfgaoaaDoor.F
namespace Go.Proofs.YtmakkdlkgfgaoaaDoor.F
open Go.RowKit Go.Proofs.YtmakkdlkgfgaoaaDoorW.PrintWords Go.Proofs.YtmakkdlkgfgaoaaDoorW.PrintLast Go.Proofs.YtmakkdlkgfgaoaaDoorW.PrintMore
section
variable {P : Program} {ops : Array Oper} {a : Act} {Q : Exit → Act → World → Prop} {S : World → Prop} {ds : List Nat} {md : Region.Mode} {n : Nat} {l : Array Bool} {w0 w : World} {L : List BoxE}
theorem name_any [k : Bx w0 w L] (h : ∀ w', Bx w0 w' L → wpAnyLast P md ops Q S ds n l a w') : wpAnyLast P md ops Q S ds n l a w := h w k
end
end Go.Proofs.YtmakkdlkgfgaoaaDoor.F
