/-
A number (a struct of two ints) that came in by value, opened and shut.
-/
import Derived.Test.YtlcjfabbnclalaaDoorR0
import Derived.Test.YtlcjfabbnclalaaDoorM2
namespace Go.Proofs.YtlcjfabbnclalaaDoor.R
open Go.ChangeShapes Go.WideShapes Go.ChangeAt Go.RowKit
theorem i64_of {a : Int} (h : (Lit.int .i64 a).wf = true) : F.I64 a := by
  simp [Lit.wf, IntKind.min, IntKind.max, IntKind.signed, IntKind.bits] at h
  unfold F.I64
  omega
theorem cells23 : Tryd.prog.cellsOf 23 = 2 := by kernel_rfl
theorem num_open {H : Type} {enc : TypeId × Value → H} {W : World} {base : Nat} {v : Value} {d : DataW H} {p : List MemPlace} (hv : Value.okWide Tryd.prog W .any base 23 v) (h : DataW.Trod enc Tryd.prog W 0 (fun _ => true) true 23 v d p) :
    ∃ n m : Int, v = .agg #[.int .i64 n, .int .i64 m] ∧ d = .agg [.lit (.int .i64 n), .lit (.int .i64 m)] ∧ p = [] ∧ (Lit.int .i64 n).wf = true ∧ (Lit.int .i64 m).wf = true := by
  obtain ⟨c0, c1, y0, y1, m, rfl, rfl, rfl, hy0, hy1⟩ := Joins.open_agg2 Tryd.underlying23 (by kernel_rfl) cells23 hv h
  obtain ⟨a, e0, rfl, wa⟩ := DataW.trod_int Tryd.underlying3 hy0
  obtain ⟨b, e1, rfl, wb⟩ := DataW.trod_int Tryd.underlying3 hy1
  simp at e0 e1
  subst e0 e1
  exact ⟨a, b, rfl, rfl, rfl, wa, wb⟩
theorem num_shut {H : Type} {enc : TypeId × Value → H} (W : World) (sp : Nat → Bool) {n m : Int} (wn : (Lit.int .i64 n).wf = true) (wm : (Lit.int .i64 m).wf = true) :
    DataW.Trod enc Tryd.prog W 0 sp true 23 (.agg #[.int .i64 n, .int .i64 m]) (.agg [.lit (.int .i64 n), .lit (.int .i64 m)]) [] :=
  Joins.shut_agg2 (y0 := (.lit (.int .i64 n), [])) (y1 := (.lit (.int .i64 m), [])) Tryd.underlying23 (by kernel_rfl) cells23 ⟨1, by simp [DataW.trod, Tryd.underlying3, wn]⟩ ⟨1, by simp [DataW.trod, Tryd.underlying3, wm]⟩
end Go.Proofs.YtlcjfabbnclalaaDoor.R
