/-
A way of a statement that ends in false is none where it answers true.
-/
import Derived.Test.YtmakkdlkgfgaoaaDoorG0
namespace Go.Proofs.YtmakkdlkgfgaoaaDoor.F
theorem no_meet {g : Nat → Option Bool} {k : Nat} {r : Bool} (hr : r = true) (h : g k = some r) (h0 : g 0 = none) (hs : ∀ k, g (k + 1) = some false) : False := by
  cases k with
  | zero => rw [h0] at h; cases h
  | succ k => rw [hs k] at h; rw [hr] at h; cases h
end Go.Proofs.YtmakkdlkgfgaoaaDoor.F
