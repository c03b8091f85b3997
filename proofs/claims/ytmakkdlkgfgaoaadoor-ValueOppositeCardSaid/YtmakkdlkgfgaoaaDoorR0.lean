/-
What the statements of this seat share: the listed tables are laid in the witness's world; the tables of powers of ten and of names read off the condition; numbers and values that came in, opened and shut.
-/
import Derived.Test.YtmakkdlkgfgaoaaDoorRows
import Derived.Test.YtmakkdlkgfgaoaaDoorV1
import Derived.WalkKit
import Derived.ProofKit
import Derived.OpenShut
import Derived.ShutString
import Derived.ChangeOld
import Derived.Below
import Derived.SizedLaws
import Derived.Lib.SmallJoins
import Derived.Lib.LaidTab
import Derived.Lay
import Derived.LaidMore
import Derived.Stop.Joined
import Derived.Stop.LaidErr
namespace Go.Proofs.YtmakkdlkgfgaoaaDoor.R
open Go.ChangeShapes Go.WideShapes Go.ChangeAt Go.RowKit
open Go.ChangeMaps (open_string shut_string)
set_option linter.unusedSimpArgs false
set_option linter.constructorNameAsVariable false

theorem own : ownKnob Tryd.prog.godebug = none := by kernel_rfl
def laid : List (String × DataW Unit) := [("math/bits.deBruijn32tab", Rows.laid_math_bits_deBruijn32tab), ("math/bits.deBruijn64tab", Rows.laid_math_bits_deBruijn64tab), ("internal/strconv.uint64pow10", Rows.laid_internal_strconv_uint64pow10), ("unicode/utf8.acceptRanges", Rows.laid_unicode_utf8_acceptRanges), ("whittle/value.names", Rows.laid_whittle_value_names), ("unicode/utf8.first", Rows.laid_unicode_utf8_first)]
set_option maxRecDepth 100000 in
theorem plain_ : (laid.all fun x => x.2.handleName?.isNone) = true := by kernel_rfl
theorem pow_eq : Rows.laid_internal_strconv_uint64pow10 (H := Unit) = Lib.tabData .u64 Lib.pow10Tab := by kernel_rfl
/-- An array of texts that reads as the table holds the table's texts, cell for cell. -/
theorem cells_of_strs {H : Type} {enc : TypeId × Value → H} {P : Program} {w : World} {base : Nat} {sp : Nat → Bool} {held : Bool} {fuel : Nat} {t e : TypeId} {n : Nat} {cs : List Value} {ss : List (List UInt8)} {p : List MemPlace}
    (ht : P.underlying t = some (.array n e)) (he : P.underlying e = some .string) (hce : P.cellsOf e = 1) (hct : P.cellsOf t = n)
    (h : DataW.trod enc P w base sp held fuel t cs = some (.agg (ss.map fun s => .lit (.string s)), p)) (i : Nat) (s : List UInt8) (hs : ss[i]? = some s) : cs[i]? = some (.string ⟨s.toArray⟩) := by
  cases fuel with
  | zero => simp [DataW.trod] at h
  | succ fuel =>
    simp only [DataW.trod, ht, hce, hct, Nat.mul_one] at h
    split at h
    · rename_i hl
      obtain ⟨xs, hm, hx⟩ := Option.map_eq_some_iff.1 h
      have hxs : xs.map (·.1) = ss.map fun s => (DataW.lit (.string s) : DataW H) := by
        have := congrArg Prod.fst hx
        simpa using this
      have hxl : xs.length = n := by simpa using Lib.mapM_length hm
      have hzl : ss.length = n := by
        have := congrArg List.length hxs
        simp at this
        omega
      have hi : i < n := by
        have := (List.getElem?_eq_some_iff.1 hs).1
        omega
      obtain ⟨b, hb, hf⟩ := Lib.mapM_at hm i i (by simp [hi])
      obtain ⟨z, hc, rfl, _⟩ := DataW.trod_string he hf
      have h1 : cs[i]? = some (.string z) := by
        have := congrArg (·[0]?) hc
        simpa [List.getElem?_take, List.getElem?_drop] using this
      have h2 : (xs.map (·.1))[i]? = some (DataW.lit (.string z.data.toList) : DataW H) := by simp [hb]
      rw [hxs, List.getElem?_map, hs] at h2
      simp at h2
      subst h2
      simpa using h1
    · cases h
def nameL : List (List UInt8) := [[35, 68, 73, 86, 47, 48, 33], [35, 86, 65, 76, 85, 69, 33], [35, 82, 69, 70, 33], [35, 78, 85, 77, 33], [35, 78, 47, 65], [35, 67, 73, 82, 67, 76, 69, 33], [35, 76, 79, 78, 71, 33], [35, 65, 82, 71, 33]]
theorem names_eq : Rows.laid_whittle_value_names (H := Unit) = .agg (nameL.map fun s => .lit (.string s)) := by kernel_rfl
theorem names_of {W : World} {rest : List (String × DataW Unit)} (h : laidMet Tryd.prog (("whittle/value.names", .agg (nameL.map fun s => .lit (.string s))) :: rest) W) (i : Nat) (s : ByteArray) (hs : F.nmL[i]? = some s) : W.cell? ⟨0, i, none⟩ = some (.string s) := by
  obtain ⟨ps, ⟨g', t', cs, fuel, p, q, hg', ht', hvar, hd, _, _⟩, _⟩ := h
  have hg : Tryd.prog.globalNamed "whittle/value.names" = some 0 := by kernel_rfl
  have hty : (Tryd.prog.globals[0]?).map (·.type) = some 63 := by kernel_rfl
  obtain rfl := Option.some.inj (hg.symm.trans hg')
  obtain rfl := Option.some.inj (hty.symm.trans ht')
  have hb : nameL[i]? = some s.data.toList := by
    have : nameL = F.nmL.map fun b => b.data.toList := rfl
    rw [this, List.getElem?_map, hs]; rfl
  have hc := cells_of_strs Tryd.underlying63 Tryd.underlying9 (by kernel_rfl) (by kernel_rfl) hd i _ hb
  have hv := World.var?_cell hg hvar i
  rw [hv]
  simpa using hc
theorem tab_of {W : World} (h : laidMetH Tryd.prog laid W) : F.TabAt W := by
  rw [MakeChecks.laidMetH_plain _ _ _ plain_] at h
  have h' := h.tail.tail
  rw [pow_eq] at h'
  have h'' := h.tail.tail.tail.tail
  rw [names_eq] at h''
  exact F.TabAt.of (Lib.tabIs_of_head (g := 2) (t := 114) (e := 79) (n := 20) (by kernel_rfl) (by kernel_rfl) Tryd.underlying114 Tryd.underlying79 (by kernel_rfl) (by kernel_rfl) h') (names_of h'')
theorem laid_met (os : Os) (args : Array Value) : laidMetH Tryd.prog laid ((World.laidAll Tryd.prog os laid).forCall (fun _ _ => 0) ⟨#[], args, []⟩).memory := by
  rw [MakeChecks.laidMetH_plain _ _ _ plain_]
  exact laidMet_laidAll _ (by kernel_rfl) (by kernel_rfl)
theorem shaped (os : Os) : (World.laidAll Tryd.prog os laid).Shaped Tryd.prog := World.shaped_of_ZipB (by kernel_rfl) (by kernel_rfl)

theorem i64_of {a : Int} (h : (Lit.int .i64 a).wf = true) : F.I64 a := by
  simp [Lit.wf, IntKind.min, IntKind.max, IntKind.signed, IntKind.bits] at h
  unfold F.I64
  omega
theorem cells23 : Tryd.prog.cellsOf 23 = 2 := by kernel_rfl
theorem cells25 : Tryd.prog.cellsOf 25 = 6 := by kernel_rfl
theorem cells3 : Tryd.prog.cellsOf 3 = 1 := by kernel_rfl
theorem cells4 : Tryd.prog.cellsOf 4 = 1 := by kernel_rfl
theorem cells9 : Tryd.prog.cellsOf 9 = 1 := by kernel_rfl
set_option maxRecDepth 100000 in
theorem num_open {H : Type} {enc : TypeId × Value → H} {W : World} {base : Nat} {v : Value} {d : DataW H} {p : List MemPlace} (hv : Value.okWide Tryd.prog W .any base 23 v) (h : DataW.Trod enc Tryd.prog W 0 (fun _ => true) true 23 v d p) :
    ∃ n m : Int, v = .agg #[.int .i64 n, .int .i64 m] ∧ d = .agg [.lit (.int .i64 n), .lit (.int .i64 m)] ∧ p = [] ∧ (Lit.int .i64 n).wf = true ∧ (Lit.int .i64 m).wf = true := by
  obtain ⟨c0, c1, y0, y1, m, rfl, rfl, rfl, hy0, hy1⟩ := Joins.open_agg2 Tryd.underlying23 (by kernel_rfl) cells23 hv h
  obtain ⟨a, e0, rfl, wa⟩ := DataW.trod_int Tryd.underlying3 hy0
  obtain ⟨b, e1, rfl, wb⟩ := DataW.trod_int Tryd.underlying3 hy1
  simp at e0 e1
  subst e0 e1
  exact ⟨a, b, rfl, rfl, rfl, wa, wb⟩
theorem num_shut {H : Type} {enc : TypeId × Value → H} (W : World) (sp : Nat → Bool) {n m : Int} (wn : (Lit.int .i64 n).wf = true) (wm : (Lit.int .i64 m).wf = true) :
    DataW.Trod enc Tryd.prog W 0 sp true 23 (.agg #[.int .i64 n, .int .i64 m]) (.agg [.lit (.int .i64 n), .lit (.int .i64 m)]) [] :=
  Joins.shut_agg2 (y0 := (.lit (.int .i64 n), [])) (y1 := (.lit (.int .i64 m), [])) Tryd.underlying23 (by kernel_rfl) cells23 ⟨1, by simp [DataW.trod, Tryd.underlying3, wn]⟩ ⟨1, by simp [DataW.trod, Tryd.underlying3, wm]⟩
/-- what of a value that came in is known -/
def ValD {H : Type} (a b c : Int) (s : ByteArray) (t : Bool) (f : Int) (d : DataW H) : Prop :=
  d = .agg [.lit (.int .i64 a), .agg [.lit (.int .i64 b), .lit (.int .i64 c)], .lit (.string s.data.toList), .lit (.bool t), .lit (.int .i64 f)] ∧ (Lit.int .i64 a).wf = true ∧ (Lit.int .i64 b).wf = true ∧ (Lit.int .i64 c).wf = true ∧ s.size ≤ maxLen ∧ (Lit.int .i64 f).wf = true
set_option maxRecDepth 100000 in
theorem ValD.bv {H : Type} {a b c f : Int} {s : ByteArray} {t : Bool} {d : DataW H} (h : ValD a b c s t f d) : F.BV (a, b, c, s, t, f) := by
  obtain ⟨_, ha, hb, hc, hs, hf⟩ := h
  exact ⟨i64_of ha, i64_of hb, i64_of hc, by unfold maxLen at hs; show s.size ≤ _; omega, i64_of hf⟩
set_option maxRecDepth 100000 in
theorem val_open {H : Type} {enc : TypeId × Value → H} {W : World} {base : Nat} {v : Value} {d : DataW H} {p : List MemPlace} (hv : Value.okWide Tryd.prog W .any base 25 v) (h : DataW.Trod enc Tryd.prog W 0 (fun _ => true) true 25 v d p) :
    ∃ (a b c : Int) (s : ByteArray) (t : Bool) (f : Int), v = .agg #[.int .i64 a, .int .i64 b, .int .i64 c, .string s, .bool t, .int .i64 f] ∧ p = [] ∧ ValD a b c s t f d := by
  obtain ⟨cs, rfl, hsz⟩ := okWide_struct Tryd.underlying25 hv
  obtain ⟨l⟩ := cs
  match l, hsz.trans cells25 with
  | [c0, c1, c2, c3, c4, c5], _ =>
    obtain ⟨fuel, hf⟩ := h
    obtain ⟨xs, n, _, hx, _, hlen, hg⟩ := DataW.trod_struct Tryd.underlying25 hf
    match xs, hlen with
    | [y0, y1, y2, y3, y4], _ =>
      have g0 := hg 0 _ rfl
      have g1 := hg 1 _ rfl
      have g2 := hg 2 _ rfl
      have g3 := hg 3 _ rfl
      have g4 := hg 4 _ rfl
      simp [Value.cells, cells3, cells4, cells9, cells23] at g0 g1 g2 g3 g4
      obtain ⟨a, e0, rfl, wa⟩ := DataW.trod_int Tryd.underlying3 g0
      obtain ⟨zs, m, _, hz, _, hzl, hk⟩ := DataW.trod_struct Tryd.underlying23 g1
      obtain ⟨s, e2, rfl, ws⟩ := DataW.trod_string Tryd.underlying9 g2
      obtain ⟨t, e3, rfl⟩ := DataW.trod_bool Tryd.underlying4 g3
      obtain ⟨f, e4, rfl, wf⟩ := DataW.trod_int Tryd.underlying3 g4
      match zs, hzl with
      | [z0, z1], _ =>
        have k0 := hk 0 _ rfl
        have k1 := hk 1 _ rfl
        simp [cells3] at k0 k1
        obtain ⟨b, b0, rfl, wb⟩ := DataW.trod_int Tryd.underlying3 k0
        obtain ⟨c, b1, rfl, wc⟩ := DataW.trod_int Tryd.underlying3 k1
        simp at e0 e2 e3 e4 b0 b1
        subst e0 e2 e3 e4 b0 b1
        subst hz
        simp at hx
        exact ⟨a, b, c, s, t, f, rfl, hx.2, hx.1, wa, wb, wc, ws, wf⟩
set_option maxRecDepth 100000 in
theorem val_shut {H : Type} {enc : TypeId × Value → H} (W : World) (sp : Nat → Bool) {a b c f : Int} {s : ByteArray} {t : Bool} {d : DataW H} (h : ValD a b c s t f d) :
    DataW.Trod enc Tryd.prog W 0 sp true 25 (.agg #[.int .i64 a, .int .i64 b, .int .i64 c, .string s, .bool t, .int .i64 f]) d [] := by
  obtain ⟨rfl, wa, wb, wc, ws, wf⟩ := h
  have t1 := trod_struct2_mk (enc := enc) (w := W) (base := 0) (spare := sp) (held := true) (n := 1) (cs := [.int .i64 b, .int .i64 c]) (y0 := (.lit (.int .i64 b), [])) (y1 := (.lit (.int .i64 c), [])) Tryd.underlying23 (by simp [cells23])
    (by simp [cells3, DataW.trod, Tryd.underlying3, wb]) (by simp [cells3, DataW.trod, Tryd.underlying3, wc])
  have t2 := trod_struct_mk (enc := enc) (w := W) (base := 0) (spare := sp) (held := true) (n := 2) (cs := [.int .i64 a, .int .i64 b, .int .i64 c, .string s, .bool t, .int .i64 f])
    (xs := [(.lit (.int .i64 a), []), (.agg [.lit (.int .i64 b), .lit (.int .i64 c)], []), (.lit (.string s.data.toList), []), (.lit (.bool t), []), (.lit (.int .i64 f), [])]) Tryd.underlying25 (by simp [cells25])
    (by
      have t1' : DataW.trod enc Tryd.prog W 0 sp true 2 23 [.int .i64 b, .int .i64 c] = some (.agg [.lit (.int .i64 b), .lit (.int .i64 c)], []) := by simpa using t1
      simp [cells3, cells4, cells9, cells23, t1', DataW.trod, Tryd.underlying3, Tryd.underlying4, Tryd.underlying9, wa, wb, wc, wf, ws])
  exact ⟨_, by simpa [Value.cells] using t2⟩
end Go.Proofs.YtmakkdlkgfgaoaaDoor.R
