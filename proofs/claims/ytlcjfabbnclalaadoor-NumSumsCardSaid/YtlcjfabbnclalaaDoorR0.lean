/-
What the statements of this seat share: the listed tables are laid in the witness's world; the table of powers of ten read off the condition.
-/
import Derived.Test.YtlcjfabbnclalaaDoorRows
import Derived.Test.YtlcjfabbnclalaaDoorG0
import Derived.WalkKit
import Derived.ProofKit
import Derived.OpenShut
import Derived.ShutString
import Derived.ChangeOld
import Derived.Below
import Derived.SizedLaws
import Derived.Lib.SmallJoins
import Derived.Lib.LaidTab
import Derived.Lay
import Derived.LaidMore
import Derived.Stop.Joined
import Derived.Stop.LaidErr
namespace Go.Proofs.YtlcjfabbnclalaaDoor.R
open Go.ChangeShapes Go.WideShapes Go.ChangeAt Go.RowKit
open Go.ChangeMaps (open_string shut_string)

theorem own : ownKnob Tryd.prog.godebug = none := by kernel_rfl
def laid : List (String × DataW Unit) := [("math/bits.deBruijn32tab", Rows.laid_math_bits_deBruijn32tab), ("math/bits.deBruijn64tab", Rows.laid_math_bits_deBruijn64tab), ("internal/strconv.uint64pow10", Rows.laid_internal_strconv_uint64pow10), ("unicode/utf8.acceptRanges", Rows.laid_unicode_utf8_acceptRanges), ("unicode/utf8.first", Rows.laid_unicode_utf8_first)]
set_option maxRecDepth 100000 in
theorem plain_ : (laid.all fun x => x.2.handleName?.isNone) = true := by kernel_rfl
theorem pow_eq : Rows.laid_internal_strconv_uint64pow10 (H := Unit) = Lib.tabData .u64 Lib.pow10Tab := by kernel_rfl
theorem tab_of {W : World} (h : laidMetH Tryd.prog laid W) : F.TabAt W := by
  rw [MakeChecks.laidMetH_plain _ _ _ plain_] at h
  have h' := h.tail.tail
  rw [pow_eq] at h'
  exact F.TabAt.of (Lib.tabIs_of_head (g := 0) (t := 86) (e := 49) (n := 20) (by kernel_rfl) (by kernel_rfl) Tryd.underlying86 Tryd.underlying49 (by kernel_rfl) (by kernel_rfl) h')
theorem laid_met (os : Os) (args : Array Value) : laidMetH Tryd.prog laid ((World.laidAll Tryd.prog os laid).forCall (fun _ _ => 0) ⟨#[], args, []⟩).memory := by
  rw [MakeChecks.laidMetH_plain _ _ _ plain_]
  exact laidMet_laidAll _ (by kernel_rfl) (by kernel_rfl)
theorem shaped (os : Os) : (World.laidAll Tryd.prog os laid).Shaped Tryd.prog := World.shaped_of_ZipB (by kernel_rfl) (by kernel_rfl)
end Go.Proofs.YtlcjfabbnclalaaDoor.R
