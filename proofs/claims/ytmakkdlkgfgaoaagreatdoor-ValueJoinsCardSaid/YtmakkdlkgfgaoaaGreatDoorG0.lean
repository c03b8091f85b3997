/-
The contracts of strconv.Itoa, strings.TrimRight and strings.Compare at this program, laid in plain words by the kit's shelf tools; and what a call asks that writes numbers or names of faults: the library's table of powers of ten and the program's table of names read as their texts lay them, whatever is made behind the old blocks.
-/
import Derived.Shelf.Strings.Trim
import Derived.Shelf.Small.Strs
import Derived.Shelf.LaysM
import Derived.Shelf.Strconv.Itoa3
import Derived.Test.YtmakkdlkgfgaoaaGreatDoorProg
import Derived.Lib.AppendIntMem
import Derived.Test.YtmakkdlkgfgaoaaGreatDoorS0
namespace Go.Proofs
open Go.Shelf
def Tryz.lays162_ren : Go.Shelf.Ren := ⟨fun | 162 => 74 | 232 => 91 | 227 => 92 | 234 => 93 | 236 => 94 | 228 => 96 | 271 => 97 | 151 => 98 | 120 => 103 | 197 => 104 | 152 => 105 | 260 => 111 | 137 => 112 | 119 => 113 | 224 => 114 | 225 => 115 | 217 => 118 | 266 => 119 | n => n, fun | 9 => 9 | 4 => 4 | 3 => 3 | 5 => 5 | 117 => 87 | 116 => 86 | 0 => 0 | 124 => 90 | 21 => 21 | 105 => 94 | 46 => 108 | 119 => 113 | 139 => 116 | 138 => 115 | n => n, fun | 3 => 3 | 4 => 4 | n => n⟩
theorem Tryz.lays162 : Go.Proofs.Lays.n162 Tryz.prog Tryz.lays162_ren := {
  mixed := by kernel_rfl
  f119 := Tryz.func113.trans (congrArg some (by kernel_rfl))
  f120 := Tryz.func103.trans (congrArg some (by kernel_rfl))
  f137 := Tryz.func112.trans (congrArg some (by kernel_rfl))
  f151 := Tryz.func98.trans (congrArg some (by kernel_rfl))
  f152 := Tryz.func105.trans (congrArg some (by kernel_rfl))
  f162 := Tryz.func74.trans (congrArg some (by kernel_rfl))
  f197 := Tryz.func104.trans (congrArg some (by kernel_rfl))
  f217 := Tryz.func118.trans (congrArg some (by kernel_rfl))
  f224 := Tryz.func114.trans (congrArg some (by kernel_rfl))
  f225 := Tryz.func115.trans (congrArg some (by kernel_rfl))
  f227 := Tryz.func92.trans (congrArg some (by kernel_rfl))
  f228 := Tryz.func96.trans (congrArg some (by kernel_rfl))
  f232 := Tryz.func91.trans (congrArg some (by kernel_rfl))
  f234 := Tryz.func93.trans (congrArg some (by kernel_rfl))
  f236 := Tryz.func94.trans (congrArg some (by kernel_rfl))
  f260 := Tryz.func111.trans (congrArg some (by kernel_rfl))
  f266 := Tryz.func119.trans (congrArg some (by kernel_rfl))
  f271 := Tryz.func97.trans (congrArg some (by kernel_rfl))
  t0 := Tryz.underlying0
  a0 := Tryz.isAgg0
  z0 := Tryz.sizeOf0
  v0 := Tryz.zeroValue0
  t3 := Tryz.underlying3
  a3 := Tryz.isAgg3
  z3 := Tryz.sizeOf3
  v3 := Tryz.zeroValue3
  t4 := Tryz.underlying4
  a4 := Tryz.isAgg4
  z4 := Tryz.sizeOf4
  v4 := Tryz.zeroValue4
  t5 := Tryz.underlying5
  a5 := Tryz.isAgg5
  z5 := Tryz.sizeOf5
  v5 := Tryz.zeroValue5
  t9 := Tryz.underlying9
  a9 := Tryz.isAgg9
  z9 := Tryz.sizeOf9
  v9 := Tryz.zeroValue9
  t21 := Tryz.underlying21
  a21 := Tryz.isAgg21
  z21 := Tryz.sizeOf21
  v21 := Tryz.zeroValue21
  t46 := Tryz.underlying108
  a46 := Tryz.isAgg108
  z46 := Tryz.sizeOf108
  v46 := Tryz.zeroValue108
  t105 := Tryz.underlying94
  a105 := Tryz.isAgg94
  z105 := Tryz.sizeOf94
  v105 := Tryz.zeroValue94
  t116 := Tryz.underlying86
  a116 := Tryz.isAgg86
  z116 := Tryz.sizeOf86
  t117 := Tryz.underlying87
  a117 := Tryz.isAgg87
  z117 := Tryz.sizeOf87
  v117 := Tryz.zeroValue87
  t119 := Tryz.underlying113
  a119 := Tryz.isAgg113
  z119 := Tryz.sizeOf113
  t124 := Tryz.underlying90
  a124 := Tryz.isAgg90
  z124 := Tryz.sizeOf90
  v124 := Tryz.zeroValue90
  t138 := Tryz.underlying115
  a138 := Tryz.isAgg115
  z138 := Tryz.sizeOf115
  v138 := Tryz.zeroValue115
  t139 := Tryz.underlying116
  a139 := Tryz.isAgg116
  z139 := Tryz.sizeOf116
  v139 := Tryz.zeroValue116
  g3 := by kernel_rfl
  g4 := by kernel_rfl }
open Go.RowKit in
/-- strings.TrimRight: "TrimRight returns a slice of the string s, with all trailing Unicode code points contained in cutset removed.": AT A cutset OF ONE ASCII BYTE. The world is as it was. (LAID: no walk: one application.) -/
theorem Tryz.strings_TrimRight_one (s : ByteArray) (c : UInt8) (hc : c.toNat < 128) (w : World) (hs : s.size ≤ 9223372036854775807) :
    Calls Tryz.prog 74 #[.string s, .string ⟨#[c]⟩] w fun e w' => e = .returned (.string ⟨(Lib.trimRightB s.data.toList c).toArray⟩) ∧ w' = w := Any.strings_TrimRight_one Tryz.lays162 s c hc w hs
def Tryz.lays106_ren : Go.Shelf.Ren := ⟨fun | 106 => 39 | 213 => 72 | 265 => 89 | n => n, fun | 9 => 9 | 3 => 3 | n => n, fun | n => n⟩
theorem Tryz.lays106 : Go.Proofs.Lays.n106 Tryz.prog Tryz.lays106_ren := {
  mixed := by kernel_rfl
  f106 := Tryz.func39.trans (congrArg some (by kernel_rfl))
  f213 := Tryz.func72.trans (congrArg some (by kernel_rfl))
  f265 := Tryz.func89.trans (congrArg some (by kernel_rfl))
  t3 := Tryz.underlying3
  a3 := Tryz.isAgg3
  z3 := Tryz.sizeOf3
  v3 := Tryz.zeroValue3
  t9 := Tryz.underlying9
  a9 := Tryz.isAgg9
  z9 := Tryz.sizeOf9
  v9 := Tryz.zeroValue9 }
open Go.RowKit in
/-- strings.Compare: "Compare returns an integer comparing two strings lexicographically. The result will be 0 if a == b, -1 if a < b, and +1 if a > b.": IT RETURNS 'Lib.compareBytes a b'; the world is as it was. (LAID: no walk: one application.) -/
theorem Tryz.strings_Compare (a b : ByteArray) (w : World) :
    Calls Tryz.prog 39 #[.string a, .string b] w fun e w' => e = .returned (.int .i64 (Lib.compareBytes a.data.toList b.data.toList)) ∧ w' = w := Any.strings_Compare Tryz.lays106 a b w
def Tryz.laysM171_ren : Go.Shelf.Ren := ⟨fun | 171 => 73 | 243 => 90 | 246 => 95 | 283 => 99 | 284 => 100 | 285 => 101 | 286 => 102 | 129 => 107 | 317 => 106 | 318 => 108 | 319 => 109 | 320 => 110 | 337 => 116 | 338 => 117 | n => n, fun | 3 => 3 | 9 => 9 | 2 => 2 | 4 => 4 | 171 => 97 | 0 => 0 | 53 => 69 | 37 => 91 | 5 => 5 | 173 => 100 | 212 => 104 | 51 => 105 | 20 => 20 | 213 => 106 | 46 => 108 | 232 => 117 | 233 => 118 | n => n, fun | 17 => 2 | 18 => 5 | 19 => 6 | n => n⟩
theorem Tryz.laysM171 : Go.Proofs.LaysM.n171 Tryz.prog Tryz.laysM171_ren := {
  mixed := by kernel_rfl
  f129 := Tryz.func107.trans (congrArg some (by kernel_rfl))
  f171 := Tryz.func73.trans (congrArg some (by kernel_rfl))
  f243 := Tryz.func90.trans (congrArg some (by kernel_rfl))
  f246 := Tryz.func95.trans (congrArg some (by kernel_rfl))
  f283 := Tryz.func99.trans (congrArg some (by kernel_rfl))
  f284 := Tryz.func100.trans (congrArg some (by kernel_rfl))
  f285 := Tryz.func101.trans (congrArg some (by kernel_rfl))
  f286 := Tryz.func102.trans (congrArg some (by kernel_rfl))
  f317 := Tryz.func106.trans (congrArg some (by kernel_rfl))
  f318 := Tryz.func108.trans (congrArg some (by kernel_rfl))
  f319 := Tryz.func109.trans (congrArg some (by kernel_rfl))
  f320 := Tryz.func110.trans (congrArg some (by kernel_rfl))
  f337 := Tryz.func116.trans (congrArg some (by kernel_rfl))
  f338 := Tryz.func117.trans (congrArg some (by kernel_rfl))
  t0 := Tryz.underlying0
  a0 := Tryz.isAgg0
  z0 := Tryz.sizeOf0
  v0 := Tryz.zeroValue0
  t2 := Tryz.underlying2
  a2 := Tryz.isAgg2
  z2 := Tryz.sizeOf2
  v2 := Tryz.zeroValue2
  t3 := Tryz.underlying3
  a3 := Tryz.isAgg3
  z3 := Tryz.sizeOf3
  v3 := Tryz.zeroValue3
  t4 := Tryz.underlying4
  a4 := Tryz.isAgg4
  z4 := Tryz.sizeOf4
  v4 := Tryz.zeroValue4
  t5 := Tryz.underlying5
  a5 := Tryz.isAgg5
  z5 := Tryz.sizeOf5
  v5 := Tryz.zeroValue5
  t9 := Tryz.underlying9
  a9 := Tryz.isAgg9
  z9 := Tryz.sizeOf9
  v9 := Tryz.zeroValue9
  t20 := Tryz.underlying20
  a20 := Tryz.isAgg20
  z20 := Tryz.sizeOf20
  v20 := Tryz.zeroValue20
  t37 := Tryz.underlying91
  a37 := Tryz.isAgg91
  z37 := Tryz.sizeOf91
  v37 := Tryz.zeroValue91
  t46 := Tryz.underlying108
  a46 := Tryz.isAgg108
  z46 := Tryz.sizeOf108
  v46 := Tryz.zeroValue108
  t51 := Tryz.underlying105
  a51 := Tryz.isAgg105
  z51 := Tryz.sizeOf105
  v51 := Tryz.zeroValue105
  t53 := Tryz.underlying69
  a53 := Tryz.isAgg69
  z53 := Tryz.sizeOf69
  v53 := Tryz.zeroValue69
  t171 := Tryz.underlying97
  a171 := Tryz.isAgg97
  z171 := Tryz.sizeOf97
  v171 := Tryz.zeroValue97
  t173 := Tryz.underlying100
  a173 := Tryz.isAgg100
  z173 := Tryz.sizeOf100
  v173 := Tryz.zeroValue100
  t212 := Tryz.underlying104
  a212 := Tryz.isAgg104
  z212 := Tryz.sizeOf104
  v212 := Tryz.zeroValue104
  t213 := Tryz.underlying106
  a213 := Tryz.isAgg106
  z213 := Tryz.sizeOf106
  t232 := Tryz.underlying117
  a232 := Tryz.isAgg117
  z232 := Tryz.sizeOf117
  v232 := Tryz.zeroValue117
  t233 := Tryz.underlying118
  a233 := Tryz.isAgg118
  z233 := Tryz.sizeOf118
  v233 := Tryz.zeroValue118
  g17 := by kernel_rfl
  g18 := by kernel_rfl
  g19 := by kernel_rfl
  i0 := by kernel_rfl
  i2 := by kernel_rfl
  i3 := by kernel_rfl
  i4 := by kernel_rfl
  i5 := by kernel_rfl
  i9 := by kernel_rfl
  i20 := by kernel_rfl
  i37 := by kernel_rfl
  i46 := by kernel_rfl
  i51 := by kernel_rfl
  i53 := by kernel_rfl
  i171 := by kernel_rfl
  i173 := by kernel_rfl
  i212 := by kernel_rfl
  i232 := by kernel_rfl
  i233 := by kernel_rfl
  m17 := by kernel_rfl
  m18 := by kernel_rfl
  m19 := by kernel_rfl }
open Go.RowKit Go.Sort Go.Lib in
/-- strconv.Itoa: "Itoa is equivalent to FormatInt(int64(i), 10).": i's DECIMAL NUMERAL ('Lib.itoa': a '-' where i is negative, then the digits), FOR EVERY int. The world behind the call: the world before it, new blocks behind the heap (the library's 'var a [24]byte'), draws. (LAID: no walk: one application.) -/
theorem Tryz.strconv_Itoa (n : Int) (h0 : -9223372036854775808 ≤ n) (h1 : n ≤ 9223372036854775807) (w : World) (htab : Lib.TabIs Tryz.prog w "internal/strconv.uint64pow10" .u64 Lib.pow10Tab) :
    Calls Tryz.prog 73 #[.int .i64 n] w fun e w' => e = .returned (.string ⟨(Lib.itoa n).toArray⟩) ∧ ∃ k os, w' = grow (w.drewN k) os := Any.strconv_Itoa Tryz.laysM171 n h0 h1 w htab

end Go.Proofs

namespace Go.Proofs.YtmakkdlkgfgaoaaGreatDoor.F
open Go.RowKit Go.Proofs.YtmakkdlkgfgaoaaGreatDoorW.PrintWords

/-- The names of the faults. -/
def nmL : List ByteArray := [⟨#[35, 68, 73, 86, 47, 48, 33]⟩, ⟨#[35, 86, 65, 76, 85, 69, 33]⟩, ⟨#[35, 82, 69, 70, 33]⟩, ⟨#[35, 78, 85, 77, 33]⟩, ⟨#[35, 78, 47, 65]⟩, ⟨#[35, 67, 73, 82, 67, 76, 69, 33]⟩, ⟨#[35, 76, 79, 78, 71, 33]⟩, ⟨#[35, 65, 82, 71, 33]⟩]
/-- The table of names is as the program's text lays it, and stays so whatever is made behind the old blocks. -/
def NamesAt (w : World) : Prop := ∀ w', Below w.heap.size w w' → ∀ (i : Nat) (s : ByteArray), nmL[i]? = some s → w'.cell? ⟨0, i, none⟩ = some (.string s)
/-- The table of powers of ten, likewise. -/
def PowAt (w : World) : Prop := ∀ w', Below w.heap.size w w' → Lib.TabIs Tryz.prog w' "internal/strconv.uint64pow10" .u64 Lib.pow10Tab
def TabAt (w : World) : Prop := PowAt w ∧ NamesAt w

theorem TabAt.on {w w1 : World} (h : TabAt w) (hb : Below w.heap.size w w1) : TabAt w1 := ⟨fun w' hb' => h.1 w' (below_then hb hb.size hb'), fun w' hb' => h.2 w' (below_then hb hb.size hb')⟩

theorem NamesAt.of {w : World} (h : ∀ (i : Nat) (s : ByteArray), nmL[i]? = some s → w.cell? ⟨0, i, none⟩ = some (.string s)) : NamesAt w := fun w' hb i s e => by
  have hc := h i s e
  exact (hb.cell (p := ⟨0, i, none⟩) (World.block_lt_of_cell? w _ hc)).trans hc

theorem TabAt.of {w : World} (h : Lib.TabIs Tryz.prog w "internal/strconv.uint64pow10" .u64 Lib.pow10Tab) (hn : ∀ (i : Nat) (s : ByteArray), nmL[i]? = some s → w.cell? ⟨0, i, none⟩ = some (.string s)) : TabAt w := ⟨Lib.tabBelow_of_tabIs h, NamesAt.of hn⟩

theorem bne_nil (l : List UInt8) : (l != []) = !l.isEmpty := by cases l <;> rfl

def strconv_Itoa.f (a0 : Int) : Option ByteArray := if -9223372036854775808 ≤ a0 ∧ a0 ≤ 9223372036854775807 then some ⟨(Lib.itoa a0).toArray⟩ else none

theorem strconv_Itoa.calls (a0 : Int) (r : ByteArray) (w : World) (HT0 : TabAt w) (h : strconv_Itoa.f a0 = some r) :
    Calls Tryz.prog 73 #[.int .i64 a0] w fun e w' => e = .returned (.string r) ∧ Below w.heap.size w w' := by
  unfold strconv_Itoa.f at h
  split at h
  · rename_i hb
    obtain rfl := Option.some.inj h
    refine (Tryz.strconv_Itoa a0 hb.1 hb.2 w (HT0.1 w (Below.refl _ _))).mono ?_
    rintro e w' ⟨rfl, k, os, rfl⟩
    exact ⟨rfl, Lib.below_grow _ w (Nat.le_refl _) k os⟩
  · cases h

/-- At a cutset of one byte of ASCII. -/
def strings_TrimRight.f (a0 a1 : ByteArray) : Option ByteArray := if a0.size ≤ 9223372036854775807 then (match a1.data.toList with | [c] => if c.toNat < 128 then some ⟨(Lib.trimRightB a0.data.toList c).toArray⟩ else none | _ => none) else none

theorem strings_TrimRight.calls (a0 a1 : ByteArray) (r : ByteArray) (w : World) (h : strings_TrimRight.f a0 a1 = some r) :
    Calls Tryz.prog 74 #[.string a0, .string a1] w fun e w' => e = .returned (.string r) ∧ Drawn0 w w' := by
  unfold strings_TrimRight.f at h
  split at h
  · rename_i hs
    obtain ⟨⟨l⟩⟩ := a1
    match l, h with
    | [c], h =>
      simp only at h
      split at h
      · rename_i hc
        obtain rfl := Option.some.inj h
        refine (Tryz.strings_TrimRight_one a0 c hc w hs).mono ?_
        rintro e w' ⟨rfl, rfl⟩
        exact ⟨rfl, Drawn0.refl _⟩
      · cases h
  · cases h

def strings_Compare.f (a0 a1 : ByteArray) : Option Int := some (Lib.compareBytes a0.data.toList a1.data.toList)

theorem strings_Compare.calls (a0 a1 : ByteArray) (r : Int) (w : World) (h : strings_Compare.f a0 a1 = some r) :
    Calls Tryz.prog 39 #[.string a0, .string a1] w fun e w' => e = .returned (.int .i64 r) ∧ Drawn0 w w' := by
  obtain rfl := Option.some.inj h
  refine (Tryz.strings_Compare a0 a1 w).mono ?_
  rintro e w' ⟨rfl, rfl⟩
  exact ⟨rfl, Drawn0.refl _⟩
end Go.Proofs.YtmakkdlkgfgaoaaGreatDoor.F
