/-
Boxes: what a walk has made, all in one fact: each lies behind the old blocks, each is what the list says, no two are one.
-/
import Derived.Test.YtlcjfabbnclalaaDoorF0
namespace Go.Proofs.YtlcjfabbnclalaaDoor.F
open Go.RowKit Go.Proofs.YtlcjfabbnclalaaDoorW.PrintWords Go.Proofs.YtlcjfabbnclalaaDoorW.PrintLast Go.Proofs.YtlcjfabbnclalaaDoorW.PrintMore

abbrev BoxE := Nat × TypeId × Array Value
def nthB : List BoxE → Nat → Option BoxE
  | [], _ => none
  | a :: _, 0 => some a
  | _ :: l, n + 1 => nthB l n
def putB : List BoxE → Nat → BoxE → List BoxE
  | [], _, _ => []
  | _ :: l, 0, x => x :: l
  | a :: l, n + 1, x => a :: putB l n x
def farB (g : Nat) : List BoxE → Prop
  | [] => True
  | p :: l => g ≠ p.1 ∧ farB g l
def Boxes (b : Nat) (w : World) : List BoxE → Prop
  | [] => True
  | p :: l => b ≤ p.1 ∧ w.heap[p.1]? = some (.cells p.2.2 p.2.1 (0, 0)) ∧ farB p.1 l ∧ Boxes b w l

theorem Boxes.ge {b : Nat} {w : World} {L : List BoxE} (h : Boxes b w L) (i : Nat) {g : Nat} {t : TypeId} {cs : Array Value} (e : nthB L i = some (g, t, cs)) : b ≤ g := by
  induction L generalizing i with
  | nil => cases e
  | cons p l ih =>
    cases i with
    | zero => injection e with e; subst e; exact h.1
    | succ i => exact ih h.2.2.2 i e
theorem Boxes.get {b : Nat} {w : World} {L : List BoxE} (h : Boxes b w L) (i : Nat) {g : Nat} {t : TypeId} {cs : Array Value} (e : nthB L i = some (g, t, cs)) : w.heap[g]? = some (.cells cs t (0, 0)) := by
  induction L generalizing i with
  | nil => cases e
  | cons p l ih =>
    cases i with
    | zero => injection e with e; subst e; exact h.2.1
    | succ i => exact ih h.2.2.2 i e
theorem farB.ne {g : Nat} {L : List BoxE} (h : farB g L) (i : Nat) {g' : Nat} {t : TypeId} {cs : Array Value} (e : nthB L i = some (g', t, cs)) : g ≠ g' := by
  induction L generalizing i with
  | nil => cases e
  | cons p l ih =>
    cases i with
    | zero => injection e with e; subst e; exact h.1
    | succ i => exact ih h.2 i e
theorem Boxes.ne {b : Nat} {w : World} {L : List BoxE} (h : Boxes b w L) (i j : Nat) {g g' : Nat} {t t' : TypeId} {cs cs' : Array Value} (e : nthB L i = some (g, t, cs)) (e' : nthB L j = some (g', t', cs')) (d : i ≠ j) : g ≠ g' := by
  induction L generalizing i j with
  | nil => cases e
  | cons p l ih =>
    cases i with
    | zero =>
      cases j with
      | zero => exact absurd rfl d
      | succ j => injection e with e; subst e; exact h.2.2.1.ne j e'
    | succ i =>
      cases j with
      | zero => injection e' with e'; subst e'; exact (h.2.2.1.ne i e).symm
      | succ j => exact ih h.2.2.2 i j e e' (fun h => d (by rw [h]))
def apartB (g : Nat) : List BoxE → Prop
  | [] => True
  | p :: l => (g ≠ p.1 ∧ p.1 ≠ g) ∧ apartB g l
def lessB : List BoxE → Nat → List BoxE
  | [], _ => []
  | _ :: l, 0 => l
  | a :: l, n + 1 => a :: lessB l n
theorem farB.apart {g : Nat} {L : List BoxE} (h : farB g L) : apartB g L := by
  induction L with
  | nil => exact trivial
  | cons p l ih => exact ⟨⟨h.1, h.1.symm⟩, ih h.2⟩
/-- one is none of the others -/
theorem Boxes.apart {b : Nat} {w : World} {L : List BoxE} (h : Boxes b w L) (i : Nat) {g : Nat} {t : TypeId} {cs : Array Value} (e : nthB L i = some (g, t, cs)) : apartB g (lessB L i) := by
  induction L generalizing i with
  | nil => cases e
  | cons p l ih =>
    cases i with
    | zero => injection e with e; subst e; exact h.2.2.1.apart
    | succ i => exact ⟨⟨(h.2.2.1.ne i e).symm, h.2.2.1.ne i e⟩, ih h.2.2.2 i e⟩
/-- the same list at another world -/
theorem Boxes.at_ {b : Nat} {w w' : World} {L : List BoxE} (h : Boxes b w L) (k : ∀ (g : Nat) (o : Obj), w.heap[g]? = some o → w'.heap[g]? = some o) : Boxes b w' L := by
  induction L with
  | nil => exact trivial
  | cons p l ih => exact ⟨h.1, k _ _ h.2.1, h.2.2.1, ih h.2.2.2⟩
theorem Boxes.drew {b : Nat} {w : World} {L : List BoxE} (h : Boxes b w L) : Boxes b w.drew L := h.at_ fun _ _ e => e
theorem Boxes.drewN {b : Nat} {w : World} {L : List BoxE} (h : Boxes b w L) (n : Nat) : Boxes b (w.drewN n) L := h.at_ fun _ _ e => e
theorem Boxes.alloc {b : Nat} {w : World} {L : List BoxE} (h : Boxes b w L) (o : Obj) : Boxes b (w.alloc o) L := h.at_ fun _ _ e => blk_alloc e o
theorem Boxes.below {b : Nat} {w w1 : World} {L : List BoxE} (h : Boxes b w L) (hb : Below w.heap.size w w1) : Boxes b w1 L := h.at_ fun _ _ e => blk_below e hb
theorem farB.lt {b : Nat} {w : World} {L : List BoxE} (h : Boxes b w L) : farB w.heap.size L := by
  induction L with
  | nil => exact trivial
  | cons p l ih => exact ⟨Nat.ne_of_gt (blk_lt h.2.1), ih h.2.2.2⟩
/-- a new one -/
theorem Boxes.new {b : Nat} {w w1 : World} {L : List BoxE} (h : Boxes b w L) {g : Nat} (hg : g = w.heap.size) {cs : Array Value} {t : TypeId} (hbox : w1.heap[g]? = some (.cells cs t (0, 0))) (hb : Below w.heap.size w w1) (hs : b ≤ w.heap.size) : Boxes b w1 ((g, t, cs) :: L) := by
  subst hg
  exact ⟨hs, hbox, farB.lt h, h.below hb⟩
theorem farB.put {g : Nat} {L : List BoxE} (h : farB g L) (i : Nat) {x : BoxE} {y : BoxE} (e : nthB L i = some y) (hx : x.1 = y.1) : farB g (putB L i x) := by
  induction L generalizing i with
  | nil => cases e
  | cons p l ih =>
    cases i with
    | zero => injection e with e; subst e; exact ⟨by rw [hx]; exact h.1, h.2⟩
    | succ i => exact ⟨h.1, ih h.2 i e⟩
theorem Boxes.far {b : Nat} {w : World} {L : List BoxE} (h : Boxes b w L) {p : Addr} (hp : farB p.block L) (u : Value) : Boxes b (w.setCell p u) L := by
  induction L with
  | nil => exact trivial
  | cons q l ih => exact ⟨h.1, blk_far h.2.1 (fun e => hp.1 e.symm) u, h.2.2.1, ih h.2.2.2 hp.2⟩
/-- a store -/
theorem Boxes.put {b : Nat} {w : World} {L : List BoxE} (h : Boxes b w L) (i : Nat) {g : Nat} {t : TypeId} {cs : Array Value} (e : nthB L i = some (g, t, cs)) (j : Nat) (u : Value) : Boxes b (w.setCell ⟨g, j, none⟩ u) (putB L i (g, t, cs.setIfInBounds j u)) := by
  induction L generalizing i with
  | nil => cases e
  | cons p l ih =>
    cases i with
    | zero =>
      injection e with e; subst e
      exact ⟨h.1, blk_put h.2.1 j u rfl, h.2.2.1, h.2.2.2.far (p := ⟨g, j, none⟩) h.2.2.1 u⟩
    | succ i => exact ⟨h.1, blk_far h.2.1 (p := ⟨g, j, none⟩) (h.2.2.1.ne i e) u, h.2.2.1.put i e rfl, ih h.2.2.2 i e⟩
theorem boxes_put {b : Nat} {w : World} {L L' : List BoxE} (i : Nat) {g j : Nat} {t : TypeId} {cs : Array Value} {u : Value} (h : Boxes b w L) (e : nthB L i = some (g, t, cs)) (e' : putB L i (g, t, cs.setIfInBounds j u) = L') : Boxes b (w.setCell ⟨g, j, none⟩ u) L' := e' ▸ h.put i e j u
theorem boxes_drew {b : Nat} {w : World} {L : List BoxE} (h : Boxes b w L) : Boxes b w.drew L := h.drew
theorem boxes_drewN {b : Nat} {w : World} {L : List BoxE} (h : Boxes b w L) (n : Nat) : Boxes b (w.drewN n) L := h.drewN n
theorem boxes_alloc {b : Nat} {w : World} {L : List BoxE} (h : Boxes b w L) (o : Obj) : Boxes b (w.alloc o) L := h.alloc o
/-- some of them -/
inductive SubB : List BoxE → List BoxE → Prop
  | nil : SubB [] []
  | same (a : BoxE) {l l' : List BoxE} : SubB l l' → SubB (a :: l) (a :: l')
  | skip (a : BoxE) {l l' : List BoxE} : SubB l l' → SubB l (a :: l')
theorem SubB.farB {l l' : List BoxE} (s : SubB l l') {g : Nat} (h : farB g l') : F.farB g l := by
  induction s with
  | nil => exact h
  | same a _ ih => exact ⟨h.1, ih h.2⟩
  | skip a _ ih => exact ih h.2
theorem boxes_sub {b : Nat} {w : World} {l l' : List BoxE} (h : Boxes b w l') (s : SubB l l') : Boxes b w l := by
  induction s with
  | nil => exact h
  | same a s ih => exact ⟨h.1, h.2.1, s.farB h.2.2.1, ih h.2.2.2⟩
  | skip a _ ih => exact ih h.2.2.2
end Go.Proofs.YtlcjfabbnclalaaDoor.F
