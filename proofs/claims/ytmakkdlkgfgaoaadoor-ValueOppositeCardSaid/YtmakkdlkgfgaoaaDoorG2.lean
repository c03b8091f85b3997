/-
value.Read and value.Show, walked by hand: they read the program's table of names of faults.
-/
import Derived.Test.YtmakkdlkgfgaoaaDoorF102
import Derived.Test.YtmakkdlkgfgaoaaDoorF103
import Derived.Test.YtmakkdlkgfgaoaaDoorF104
import Derived.Test.YtmakkdlkgfgaoaaDoorC0
namespace Go.Proofs.YtmakkdlkgfgaoaaDoor.F
open Go.RowKit Go.Proofs.YtmakkdlkgfgaoaaDoorW.PrintWords Go.Proofs.YtmakkdlkgfgaoaaDoorW.PrintLast Go.Proofs.YtmakkdlkgfgaoaaDoorW.PrintMore
attribute [local go_sem high] bx_cell bx_frozen
set_option linter.unusedVariables false
set_option linter.unusedSimpArgs false

/-- a name, by its place -/
def nmA (i : Int) : ByteArray := nmL.getD i.toNat ByteArray.empty

def value_Read.l0 : Nat → ByteArray → Int → Option (Int × Int × Int × ByteArray × Bool × Int)
 | 0, _, _ => none
 | k + 1, a0, x39 => if x39 < 8 then (if 0 ≤ x39 then (if a0.toList = (nmA x39).toList then (value_Fault.f (x39 + 1)) else (value_Read.l0 k a0 (x39 + 1))) else none) else (value_Text.f k a0)
def value_Read.f (k : Nat) (a0 : ByteArray) : Option (Int × Int × Int × ByteArray × Bool × Int) := (strings_CutPrefix.f a0 (⟨#[39]⟩ : ByteArray)).bind fun bt1 => (if bt1.2 = true then (value_Text.f k bt1.1) else ((num_Read.f k a0).bind fun bt2 => (if bt2.2.2 = true then (value_Number.f k bt2.1 bt2.2.1) else (if a0.toList = ([] : List UInt8) then (value_Blank.f) else (if a0.toList = ([84, 82, 85, 69] : List UInt8) then (value_Truth.f true) else (if a0.toList = ([70, 65, 76, 83, 69] : List UInt8) then (value_Truth.f false) else (value_Read.l0 k a0 0)))))))
theorem value_Read.mono_l : ∀ k, (∀ y0 y1, LeO (value_Read.l0 k y0 y1) (value_Read.l0 (k + 1) y0 y1))
 | 0 => fun _ _ r h => by simp [value_Read.l0] at h
 | k + 1 => by
  have ih0 := value_Read.mono_l k
  intro y0 y1
  unfold value_Read.l0
  repeat' first
   | (with_reducible exact ih0 ..)
   | (with_reducible exact value_Text.mono ..)
   | (with_reducible exact LeO.refl _)
   | (with_reducible exact LeO.none _)
   | (with_reducible refine LeO.ite ?_ ?_)
   | (with_reducible refine LeO.bind ?_ (fun _ => ?_))
theorem value_Read.mono : ∀ a0 k, LeO (value_Read.f k a0) (value_Read.f (k + 1) a0) := by
 intro a0 k
 have ih0 := value_Read.mono_l k
 unfold value_Read.f
 repeat' first
   | (with_reducible exact ih0 ..)
   | (with_reducible exact value_Text.mono ..)
   | (with_reducible exact num_Read.mono ..)
   | (with_reducible exact value_Number.mono ..)
   | (with_reducible exact LeO.refl _)
   | (with_reducible exact LeO.none _)
   | (with_reducible refine LeO.ite ?_ ?_)
   | (with_reducible refine LeO.bind ?_ (fun _ => ?_))

/-- the table's cells, as the world behind what was made has them -/
class NmAt (w : World) : Prop where
  out : NamesAt w
section
variable {w0 w : World} {L : List BoxE}
theorem bx_nm0 [h : Bx w0 w L] [k : NmAt w0] : w.cell? ⟨0, 0, none⟩ = some (.string ⟨#[35, 68, 73, 86, 47, 48, 33]⟩) := k.out w h.bl 0 _ rfl
theorem bx_nm1 [h : Bx w0 w L] [k : NmAt w0] : w.cell? ⟨0, 1, none⟩ = some (.string ⟨#[35, 86, 65, 76, 85, 69, 33]⟩) := k.out w h.bl 1 _ rfl
theorem bx_nm2 [h : Bx w0 w L] [k : NmAt w0] : w.cell? ⟨0, 2, none⟩ = some (.string ⟨#[35, 82, 69, 70, 33]⟩) := k.out w h.bl 2 _ rfl
theorem bx_nm3 [h : Bx w0 w L] [k : NmAt w0] : w.cell? ⟨0, 3, none⟩ = some (.string ⟨#[35, 78, 85, 77, 33]⟩) := k.out w h.bl 3 _ rfl
theorem bx_nm4 [h : Bx w0 w L] [k : NmAt w0] : w.cell? ⟨0, 4, none⟩ = some (.string ⟨#[35, 78, 47, 65]⟩) := k.out w h.bl 4 _ rfl
theorem bx_nm5 [h : Bx w0 w L] [k : NmAt w0] : w.cell? ⟨0, 5, none⟩ = some (.string ⟨#[35, 67, 73, 82, 67, 76, 69, 33]⟩) := k.out w h.bl 5 _ rfl
theorem bx_nm6 [h : Bx w0 w L] [k : NmAt w0] : w.cell? ⟨0, 6, none⟩ = some (.string ⟨#[35, 76, 79, 78, 71, 33]⟩) := k.out w h.bl 6 _ rfl
theorem bx_nm7 [h : Bx w0 w L] [k : NmAt w0] : w.cell? ⟨0, 7, none⟩ = some (.string ⟨#[35, 65, 82, 71, 33]⟩) := k.out w h.bl 7 _ rfl
end
attribute [local go_sem high] bx_nm0 bx_nm1 bx_nm2 bx_nm3 bx_nm4 bx_nm5 bx_nm6 bx_nm7

theorem nm_index (w : World) (v0 v1 v2 v3 v4 v5 v6 v7 : Value) (i : Int) (h0 : 0 ≤ i) (h1 : i < 8) : (Instr.index 63 (.agg #[v0, v1, v2, v3, v4, v5, v6, v7]) (.int .i64 i)).run Tryd.prog w = (part 9 #[v0, v1, v2, v3, v4, v5, v6, v7] i.toNat).run Tryd.prog w := by
  have hn : (0 ≤ i ∧ i < ((8 : Nat) : Int)) := ⟨h0, by omega⟩
  simp [Instr.index, run_underlying Tryd.underlying63, asIntOf, hn, h0, h1, go_sem, Tryd.sizeOf9]
theorem nm_index0 (w : World) (v0 v1 v2 v3 v4 v5 v6 v7 : Value) : (Instr.index 63 (.agg #[v0, v1, v2, v3, v4, v5, v6, v7]) (.int .i64 0)).run Tryd.prog w = .ok v0 w := by
  rw [nm_index _ _ _ _ _ _ _ _ _ _ (by decide) (by decide)]
  simp [part, go_sem, Tryd.sizeOf9, Tryd.isAgg9]
theorem nm_index1 (w : World) (v0 v1 v2 v3 v4 v5 v6 v7 : Value) : (Instr.index 63 (.agg #[v0, v1, v2, v3, v4, v5, v6, v7]) (.int .i64 1)).run Tryd.prog w = .ok v1 w := by
  rw [nm_index _ _ _ _ _ _ _ _ _ _ (by decide) (by decide)]
  simp [part, go_sem, Tryd.sizeOf9, Tryd.isAgg9]
theorem nm_index2 (w : World) (v0 v1 v2 v3 v4 v5 v6 v7 : Value) : (Instr.index 63 (.agg #[v0, v1, v2, v3, v4, v5, v6, v7]) (.int .i64 2)).run Tryd.prog w = .ok v2 w := by
  rw [nm_index _ _ _ _ _ _ _ _ _ _ (by decide) (by decide)]
  simp [part, go_sem, Tryd.sizeOf9, Tryd.isAgg9]
theorem nm_index3 (w : World) (v0 v1 v2 v3 v4 v5 v6 v7 : Value) : (Instr.index 63 (.agg #[v0, v1, v2, v3, v4, v5, v6, v7]) (.int .i64 3)).run Tryd.prog w = .ok v3 w := by
  rw [nm_index _ _ _ _ _ _ _ _ _ _ (by decide) (by decide)]
  simp [part, go_sem, Tryd.sizeOf9, Tryd.isAgg9]
theorem nm_index4 (w : World) (v0 v1 v2 v3 v4 v5 v6 v7 : Value) : (Instr.index 63 (.agg #[v0, v1, v2, v3, v4, v5, v6, v7]) (.int .i64 4)).run Tryd.prog w = .ok v4 w := by
  rw [nm_index _ _ _ _ _ _ _ _ _ _ (by decide) (by decide)]
  simp [part, go_sem, Tryd.sizeOf9, Tryd.isAgg9]
theorem nm_index5 (w : World) (v0 v1 v2 v3 v4 v5 v6 v7 : Value) : (Instr.index 63 (.agg #[v0, v1, v2, v3, v4, v5, v6, v7]) (.int .i64 5)).run Tryd.prog w = .ok v5 w := by
  rw [nm_index _ _ _ _ _ _ _ _ _ _ (by decide) (by decide)]
  simp [part, go_sem, Tryd.sizeOf9, Tryd.isAgg9]
theorem nm_index6 (w : World) (v0 v1 v2 v3 v4 v5 v6 v7 : Value) : (Instr.index 63 (.agg #[v0, v1, v2, v3, v4, v5, v6, v7]) (.int .i64 6)).run Tryd.prog w = .ok v6 w := by
  rw [nm_index _ _ _ _ _ _ _ _ _ _ (by decide) (by decide)]
  simp [part, go_sem, Tryd.sizeOf9, Tryd.isAgg9]
theorem nm_index7 (w : World) (v0 v1 v2 v3 v4 v5 v6 v7 : Value) : (Instr.index 63 (.agg #[v0, v1, v2, v3, v4, v5, v6, v7]) (.int .i64 7)).run Tryd.prog w = .ok v7 w := by
  rw [nm_index _ _ _ _ _ _ _ _ _ _ (by decide) (by decide)]
  simp [part, go_sem, Tryd.sizeOf9, Tryd.isAgg9]
attribute [local go_sem high] nm_index0 nm_index1 nm_index2 nm_index3 nm_index4 nm_index5 nm_index6 nm_index7

set_option maxHeartbeats 8000000 in
set_option maxRecDepth 100000 in
theorem value_Read.calls (k : Nat) (a0 : ByteArray) (r1 : Int) (r2 : Int) (r3 : Int) (r4 : ByteArray) (r5 : Bool) (r6 : Int) (w : World) (HT0 : TabAt w) (h : value_Read.f k a0 = some (r1, r2, r3, r4, r5, r6)) :
  Calls Tryd.prog 27 #[.string a0] w fun e w' => e = .returned (.agg #[.int .i64 r1, .int .i64 r2, .int .i64 r3, .string r4, .bool r5, .int .i64 r6]) ∧ Below w.heap.size w w' := by
 have HT := Aside0.mk HT0
 clear HT0
 have hu25 := Tryd.underlying25
 have hu23 := Tryd.underlying23
 have BX := Bx.start w
 have NA : NmAt w := ⟨HT.out.2⟩
 replace h := Option.bind_eq_some_iff.mp h
 obtain ⟨⟨t1, t2⟩, A10, h⟩ := h
 have A1 := Aside0.mk A10
 clear A10
 dsimp only at h
 by_cases c1 : t2 = true
 ·subst c1
  rw [if_pos rfl] at h
  have A2 := Aside0.mk h
  clear h
  go_enter Tryd.func27, Tryd.ntmps27
  go_wp2_with (first | ((with_reducible refine gate_dst (N := 2) rfl ?_); refine bxe 2 #[.int .i64 0, .int .i64 0, .int .i64 0, .string (⟨#[]⟩ : ByteArray), .bool false, .int .i64 0] 25 rfl rfl gr ?_; clear BX; intro gb1 w3 GE1 BX) | ((with_reducible refine gate_callee (f := 54) rfl ?_); refine goesL_ (some 11) rfl rfl Tryd.func54 kr rfl #[.string a0, .string (⟨#[39]⟩ : ByteArray)] rfl ga ?_; (with_reducible refine (strings_CutPrefix.calls a0 (⟨#[39]⟩ : ByteArray) t1 true _ A1.out).mono ?_); rintro e w' ⟨rfl, ⟨nd, rfl⟩⟩; refine ⟨_, rfl, ?_⟩) | ((with_reducible refine gate_callee (f := 21) rfl ?_); refine goesL_ (some 16) rfl rfl Tryd.func21 kr rfl #[.string t1] rfl ga ?_; (with_reducible refine (value_Text.calls k t1 r1 r2 r3 r4 r5 r6 _ A2.out).mono ?_); rintro e w11 ⟨rfl, hb⟩; refine ⟨_, rfl, ?_⟩; replace BX := bx_call hb; clear hb))
  refine bodyPost_ret (results_cell_row rfl _ _ gb1 25 #[.int .i64 r1, .int .i64 r2, .int .i64 r3, .string r4, .bool r5, .int .i64 r6] (0, 0) _ rfl bx_get Tryd.underlying25 rfl kr) rfl ?_
  exact ⟨er2, bx_bl⟩
 ·replace c1 := Bool.eq_false_iff.mpr c1
  subst c1
  rw [if_neg (show ¬ (false = true) by decide)] at h
  replace h := Option.bind_eq_some_iff.mp h
  obtain ⟨⟨t3, t4, t5⟩, A30, h⟩ := h
  have A3 := Aside0.mk A30
  clear A30
  dsimp only at h
  by_cases c2 : t5 = true
  ·subst c2
   rw [if_pos rfl] at h
   have A4 := Aside0.mk h
   clear h
   go_enter Tryd.func27, Tryd.ntmps27
   go_wp2_with (first | ((with_reducible refine gate_dst (N := 2) rfl ?_); refine bxe 2 #[.int .i64 0, .int .i64 0, .int .i64 0, .string (⟨#[]⟩ : ByteArray), .bool false, .int .i64 0] 25 rfl rfl gr ?_; clear BX; intro gb1 w3 GE1 BX) | ((with_reducible refine gate_callee (f := 54) rfl ?_); refine goesL_ (some 11) rfl rfl Tryd.func54 kr rfl #[.string a0, .string (⟨#[39]⟩ : ByteArray)] rfl ga ?_; (with_reducible refine (strings_CutPrefix.calls a0 (⟨#[39]⟩ : ByteArray) t1 false _ A1.out).mono ?_); rintro e w' ⟨rfl, ⟨nd, rfl⟩⟩; refine ⟨_, rfl, ?_⟩) | ((with_reducible refine gate_callee (f := 55) rfl ?_); refine goesL_ (some 19) rfl rfl Tryd.func55 kr rfl #[.string a0] rfl ga ?_; (with_reducible refine (num_Read.calls k a0 t3 t4 true _ A3.out).mono ?_); rintro e w5 ⟨rfl, hb⟩; refine ⟨_, rfl, ?_⟩; replace BX := bx_call hb; clear hb) | ((with_reducible refine gate_dst (N := 5) rfl ?_); refine bxe 5 #[.int .i64 0, .int .i64 0] 23 rfl rfl gr ?_; clear BX; intro gb2 w6 GE2 BX) | ((with_reducible refine gate_callee (f := 19) rfl ?_); refine goesL_ (some 24) rfl rfl Tryd.func19 kr rfl #[.agg #[.int .i64 t3, .int .i64 t4]] rfl ga ?_; (with_reducible refine (value_Number.calls k t3 t4 r1 r2 r3 r4 r5 r6 _ A4.out).mono ?_); rintro e w11 ⟨rfl, hb⟩; refine ⟨_, rfl, ?_⟩; replace BX := bx_call hb; clear hb))
   refine bodyPost_ret (results_cell_row rfl _ _ gb1 25 #[.int .i64 r1, .int .i64 r2, .int .i64 r3, .string r4, .bool r5, .int .i64 r6] (0, 0) _ rfl bx_get Tryd.underlying25 rfl kr) rfl ?_
   exact ⟨er2, bx_bl⟩
  ·replace c2 := Bool.eq_false_iff.mpr c2
   subst c2
   rw [if_neg (show ¬ (false = true) by decide)] at h
   have WT : value_word.f true = some (⟨#[84, 82, 85, 69]⟩ : ByteArray) := rfl
   have WF : value_word.f false = some (⟨#[70, 65, 76, 83, 69]⟩ : ByteArray) := rfl
   have AT := Aside0.mk WT
   have AF := Aside0.mk WF
   clear WT WF
   by_cases c3 : a0.toList = ([] : List UInt8)
   ·rw [if_pos c3] at h
    have c3b0 : (a0.toList == ([] : List UInt8)) = true := beq_iff_eq.mpr c3
    have c3b1 : (a0.toList != ([] : List UInt8)) = false := bne_eq_false_iff_eq.mpr c3
    clear c3
    have A4 := Aside0.mk h
    clear h
    go_enter Tryd.func27, Tryd.ntmps27
    go_wp2_with (first | ((with_reducible refine gate_dst (N := 2) rfl ?_); refine bxe 2 #[.int .i64 0, .int .i64 0, .int .i64 0, .string (⟨#[]⟩ : ByteArray), .bool false, .int .i64 0] 25 rfl rfl gr ?_; clear BX; intro gb1 w3 GE1 BX) | ((with_reducible refine gate_callee (f := 54) rfl ?_); refine goesL_ (some 11) rfl rfl Tryd.func54 kr rfl #[.string a0, .string (⟨#[39]⟩ : ByteArray)] rfl ga ?_; (with_reducible refine (strings_CutPrefix.calls a0 (⟨#[39]⟩ : ByteArray) t1 false _ A1.out).mono ?_); rintro e w' ⟨rfl, ⟨nd, rfl⟩⟩; refine ⟨_, rfl, ?_⟩) | ((with_reducible refine gate_callee (f := 55) rfl ?_); refine goesL_ (some 19) rfl rfl Tryd.func55 kr rfl #[.string a0] rfl ga ?_; (with_reducible refine (num_Read.calls k a0 t3 t4 false _ A3.out).mono ?_); rintro e w5 ⟨rfl, hb⟩; refine ⟨_, rfl, ?_⟩; replace BX := bx_call hb; clear hb) | ((with_reducible refine gate_dst (N := 5) rfl ?_); refine bxe 5 #[.int .i64 0, .int .i64 0] 23 rfl rfl gr ?_; clear BX; intro gb2 w6 GE2 BX) | ((with_reducible refine gate_callee (f := 18) rfl ?_); refine goesL_ (some 28) rfl rfl Tryd.func18 kr rfl #[] rfl ga ?_; (with_reducible refine (value_Blank.calls r1 r2 r3 r4 r5 r6 _ A4.out).mono ?_); rintro e w11 ⟨rfl, hb⟩; refine ⟨_, rfl, ?_⟩; replace BX := bx_call hb; clear hb))
    refine bodyPost_ret (results_cell_row rfl _ _ gb1 25 #[.int .i64 r1, .int .i64 r2, .int .i64 r3, .string r4, .bool r5, .int .i64 r6] (0, 0) _ rfl bx_get Tryd.underlying25 rfl kr) rfl ?_
    exact ⟨er2, bx_bl⟩
   ·rw [if_neg c3] at h
    have c3b0 : (a0.toList == ([] : List UInt8)) = false := beq_eq_false_iff_ne.mpr c3
    have c3b1 : (a0.toList != ([] : List UInt8)) = true := bne_iff_ne.mpr c3
    clear c3
    by_cases c4 : a0.toList = ([84, 82, 85, 69] : List UInt8)
    ·rw [if_pos c4] at h
     have c4b0 : (a0.toList == ([84, 82, 85, 69] : List UInt8)) = true := beq_iff_eq.mpr c4
     clear c4
     have A4 := Aside0.mk h
     clear h
     go_enter Tryd.func27, Tryd.ntmps27
     go_wp2_with (first | ((with_reducible refine gate_dst (N := 2) rfl ?_); refine bxe 2 #[.int .i64 0, .int .i64 0, .int .i64 0, .string (⟨#[]⟩ : ByteArray), .bool false, .int .i64 0] 25 rfl rfl gr ?_; clear BX; intro gb1 w3 GE1 BX) | ((with_reducible refine gate_callee (f := 54) rfl ?_); refine goesL_ (some 11) rfl rfl Tryd.func54 kr rfl #[.string a0, .string (⟨#[39]⟩ : ByteArray)] rfl ga ?_; (with_reducible refine (strings_CutPrefix.calls a0 (⟨#[39]⟩ : ByteArray) t1 false _ A1.out).mono ?_); rintro e w' ⟨rfl, ⟨nd, rfl⟩⟩; refine ⟨_, rfl, ?_⟩) | ((with_reducible refine gate_callee (f := 55) rfl ?_); refine goesL_ (some 19) rfl rfl Tryd.func55 kr rfl #[.string a0] rfl ga ?_; (with_reducible refine (num_Read.calls k a0 t3 t4 false _ A3.out).mono ?_); rintro e w5 ⟨rfl, hb⟩; refine ⟨_, rfl, ?_⟩; replace BX := bx_call hb; clear hb) | ((with_reducible refine gate_dst (N := 5) rfl ?_); refine bxe 5 #[.int .i64 0, .int .i64 0] 23 rfl rfl gr ?_; clear BX; intro gb2 w6 GE2 BX) | ((with_reducible refine gate_dst (N := 30) rfl ?_); refine goesL_ (some 30) rfl rfl Tryd.func56 kr rfl #[.bool true] rfl ga ?_; (with_reducible refine (value_word.calls true _ _ AT.out).mono ?_); rintro e w' ⟨rfl, ⟨nd, rfl⟩⟩; refine ⟨_, rfl, ?_⟩) | ((with_reducible refine gate_dst (N := 35) rfl ?_); refine goesL_ (some 35) rfl rfl Tryd.func56 kr rfl #[.bool true] rfl ga ?_; (with_reducible refine (value_word.calls true _ _ AT.out).mono ?_); rintro e w' ⟨rfl, ⟨nd, rfl⟩⟩; refine ⟨_, rfl, ?_⟩) | ((with_reducible refine gate_callee (f := 23) rfl ?_); refine goesL_ (some 37) rfl rfl Tryd.func23 kr rfl #[.bool true] rfl ga ?_; (with_reducible refine (value_Truth.calls true r1 r2 r3 r4 r5 r6 _ A4.out).mono ?_); rintro e w11 ⟨rfl, hb⟩; refine ⟨_, rfl, ?_⟩; replace BX := bx_call hb; clear hb))
     refine bodyPost_ret (results_cell_row rfl _ _ gb1 25 #[.int .i64 r1, .int .i64 r2, .int .i64 r3, .string r4, .bool r5, .int .i64 r6] (0, 0) _ rfl bx_get Tryd.underlying25 rfl kr) rfl ?_
     exact ⟨er2, bx_bl⟩
    ·rw [if_neg c4] at h
     have c4b0 : (a0.toList == ([84, 82, 85, 69] : List UInt8)) = false := beq_eq_false_iff_ne.mpr c4
     clear c4
     by_cases c5 : a0.toList = ([70, 65, 76, 83, 69] : List UInt8)
     ·rw [if_pos c5] at h
      have c5b0 : (a0.toList == ([70, 65, 76, 83, 69] : List UInt8)) = true := beq_iff_eq.mpr c5
      clear c5
      have A4 := Aside0.mk h
      clear h
      go_enter Tryd.func27, Tryd.ntmps27
      go_wp2_with (first | ((with_reducible refine gate_dst (N := 2) rfl ?_); refine bxe 2 #[.int .i64 0, .int .i64 0, .int .i64 0, .string (⟨#[]⟩ : ByteArray), .bool false, .int .i64 0] 25 rfl rfl gr ?_; clear BX; intro gb1 w3 GE1 BX) | ((with_reducible refine gate_callee (f := 54) rfl ?_); refine goesL_ (some 11) rfl rfl Tryd.func54 kr rfl #[.string a0, .string (⟨#[39]⟩ : ByteArray)] rfl ga ?_; (with_reducible refine (strings_CutPrefix.calls a0 (⟨#[39]⟩ : ByteArray) t1 false _ A1.out).mono ?_); rintro e w' ⟨rfl, ⟨nd, rfl⟩⟩; refine ⟨_, rfl, ?_⟩) | ((with_reducible refine gate_callee (f := 55) rfl ?_); refine goesL_ (some 19) rfl rfl Tryd.func55 kr rfl #[.string a0] rfl ga ?_; (with_reducible refine (num_Read.calls k a0 t3 t4 false _ A3.out).mono ?_); rintro e w5 ⟨rfl, hb⟩; refine ⟨_, rfl, ?_⟩; replace BX := bx_call hb; clear hb) | ((with_reducible refine gate_dst (N := 5) rfl ?_); refine bxe 5 #[.int .i64 0, .int .i64 0] 23 rfl rfl gr ?_; clear BX; intro gb2 w6 GE2 BX) | ((with_reducible refine gate_dst (N := 30) rfl ?_); refine goesL_ (some 30) rfl rfl Tryd.func56 kr rfl #[.bool true] rfl ga ?_; (with_reducible refine (value_word.calls true _ _ AT.out).mono ?_); rintro e w' ⟨rfl, ⟨nd, rfl⟩⟩; refine ⟨_, rfl, ?_⟩) | ((with_reducible refine gate_dst (N := 32) rfl ?_); refine goesL_ (some 32) rfl rfl Tryd.func56 kr rfl #[.bool false] rfl ga ?_; (with_reducible refine (value_word.calls false _ _ AF.out).mono ?_); rintro e w' ⟨rfl, ⟨nd, rfl⟩⟩; refine ⟨_, rfl, ?_⟩) | ((with_reducible refine gate_dst (N := 35) rfl ?_); refine goesL_ (some 35) rfl rfl Tryd.func56 kr rfl #[.bool true] rfl ga ?_; (with_reducible refine (value_word.calls true _ _ AT.out).mono ?_); rintro e w' ⟨rfl, ⟨nd, rfl⟩⟩; refine ⟨_, rfl, ?_⟩) | ((with_reducible refine gate_callee (f := 23) rfl ?_); refine goesL_ (some 37) rfl rfl Tryd.func23 kr rfl #[.bool false] rfl ga ?_; (with_reducible refine (value_Truth.calls false r1 r2 r3 r4 r5 r6 _ A4.out).mono ?_); rintro e w11 ⟨rfl, hb⟩; refine ⟨_, rfl, ?_⟩; replace BX := bx_call hb; clear hb))
      refine bodyPost_ret (results_cell_row rfl _ _ gb1 25 #[.int .i64 r1, .int .i64 r2, .int .i64 r3, .string r4, .bool r5, .int .i64 r6] (0, 0) _ rfl bx_get Tryd.underlying25 rfl kr) rfl ?_
      exact ⟨er2, bx_bl⟩
     ·rw [if_neg c5] at h
      have c5b0 : (a0.toList == ([70, 65, 76, 83, 69] : List UInt8)) = false := beq_eq_false_iff_ne.mpr c5
      clear c5
      have H' := Aside0.mk h
      clear h
      go_enter Tryd.func27, Tryd.ntmps27
      go_wp2_with (first | ((with_reducible refine gate_dst (N := 2) rfl ?_); refine bxe 2 #[.int .i64 0, .int .i64 0, .int .i64 0, .string (⟨#[]⟩ : ByteArray), .bool false, .int .i64 0] 25 rfl rfl gr ?_; clear BX; intro gb1 w3 GE1 BX) | ((with_reducible refine gate_callee (f := 54) rfl ?_); refine goesL_ (some 11) rfl rfl Tryd.func54 kr rfl #[.string a0, .string (⟨#[39]⟩ : ByteArray)] rfl ga ?_; (with_reducible refine (strings_CutPrefix.calls a0 (⟨#[39]⟩ : ByteArray) t1 false _ A1.out).mono ?_); rintro e w' ⟨rfl, ⟨nd, rfl⟩⟩; refine ⟨_, rfl, ?_⟩) | ((with_reducible refine gate_callee (f := 55) rfl ?_); refine goesL_ (some 19) rfl rfl Tryd.func55 kr rfl #[.string a0] rfl ga ?_; (with_reducible refine (num_Read.calls k a0 t3 t4 false _ A3.out).mono ?_); rintro e w5 ⟨rfl, hb⟩; refine ⟨_, rfl, ?_⟩; replace BX := bx_call hb; clear hb) | ((with_reducible refine gate_dst (N := 5) rfl ?_); refine bxe 5 #[.int .i64 0, .int .i64 0] 23 rfl rfl gr ?_; clear BX; intro gb2 w6 GE2 BX) | ((with_reducible refine gate_dst (N := 30) rfl ?_); refine goesL_ (some 30) rfl rfl Tryd.func56 kr rfl #[.bool true] rfl ga ?_; (with_reducible refine (value_word.calls true _ _ AT.out).mono ?_); rintro e w' ⟨rfl, ⟨nd, rfl⟩⟩; refine ⟨_, rfl, ?_⟩) | ((with_reducible refine gate_dst (N := 32) rfl ?_); refine goesL_ (some 32) rfl rfl Tryd.func56 kr rfl #[.bool false] rfl ga ?_; (with_reducible refine (value_word.calls false _ _ AF.out).mono ?_); rintro e w' ⟨rfl, ⟨nd, rfl⟩⟩; refine ⟨_, rfl, ?_⟩))
      go_loopg [39] k (fun kq v39 w' => ∃ (x39 : Int), v39 = .int .i64 x39 ∧ Aside0 (0 ≤ x39) ∧ Aside0 (value_Read.l0 kq a0 x39 = some (r1, r2, r3, r4, r5, r6)) ∧ Aside0 (kq ≤ k) ∧ Bx w w' [(gb2, 23, #[.int .i64 t3, .int .i64 t4]), (gb1, 25, #[.int .i64 0, .int .i64 0, .int .i64 0, .string (⟨#[]⟩ : ByteArray), .bool false, .int .i64 0])])
      case atStart => exact ⟨0, er, ⟨by omega⟩, H', ⟨Nat.le_refl _⟩, bxs⟩
      case round =>
       clear H'
       obtain ⟨x39, rfl, HP, HA, HK, BX⟩ := hrel
       cases gk with
       | zero => exact absurd HA.out (by simp [value_Read.l0])
       | succ k1 =>
        have h := HA.out
        clear HA
        simp only [value_Read.l0] at h
        by_cases c6 : x39 < 8
        ·rw [if_pos c6, if_pos HP.out] at h
         have hx : x39 = 0 ∨ x39 = 1 ∨ x39 = 2 ∨ x39 = 3 ∨ x39 = 4 ∨ x39 = 5 ∨ x39 = 6 ∨ x39 = 7 := by have := HP.out; omega
         clear c6 HP
         rcases hx with rfl | rfl | rfl | rfl | rfl | rfl | rfl | rfl
         ·replace h : (if a0.toList = (nmA 0).toList then value_Fault.f 1 else value_Read.l0 k1 a0 1) = some (r1, r2, r3, r4, r5, r6) := h
          rw [show (nmA 0).toList = ([35, 68, 73, 86, 47, 48, 33] : List UInt8) from by simp [nmA, nmL]] at h
          by_cases c7 : a0.toList = ([35, 68, 73, 86, 47, 48, 33] : List UInt8)
          ·rw [if_pos c7] at h
           have c7b0 : (a0.toList == ([35, 68, 73, 86, 47, 48, 33] : List UInt8)) = true := beq_iff_eq.mpr c7
           clear c7
           have A5 := Aside0.mk h
           clear h
           go_wp2_with (first | ((with_reducible refine gate_callee (f := 25) rfl ?_); refine goesL_ (some 48) rfl rfl Tryd.func25 kr rfl #[.int .i64 1] rfl ga ?_; (with_reducible refine (value_Fault.calls 1 r1 r2 r3 r4 r5 r6 _ A5.out).mono ?_); rintro e w11 ⟨rfl, hb⟩; refine ⟨_, rfl, ?_⟩; replace BX := bx_call hb; clear hb))
           refine bodyPost_ret (results_cell_row rfl _ _ gb1 25 #[.int .i64 r1, .int .i64 r2, .int .i64 r3, .string r4, .bool r5, .int .i64 r6] (0, 0) _ rfl bx_get Tryd.underlying25 rfl kr) rfl ?_
           exact ⟨er2, bx_bl⟩
          ·rw [if_neg c7] at h
           have c7b0 : (a0.toList == ([35, 68, 73, 86, 47, 48, 33] : List UInt8)) = false := beq_eq_false_iff_ne.mpr c7
           clear c7
           have H' := Aside0.mk h
           clear h
           go_wp2
           go_roundg k1
           case measure => have := HK.out; omega
           case rel => exact ⟨1, er, ⟨by omega⟩, H', ⟨by have := HK.out; omega⟩, bxs⟩
         ·replace h : (if a0.toList = (nmA 1).toList then value_Fault.f 2 else value_Read.l0 k1 a0 2) = some (r1, r2, r3, r4, r5, r6) := h
          rw [show (nmA 1).toList = ([35, 86, 65, 76, 85, 69, 33] : List UInt8) from by simp [nmA, nmL]] at h
          by_cases c7 : a0.toList = ([35, 86, 65, 76, 85, 69, 33] : List UInt8)
          ·rw [if_pos c7] at h
           have c7b0 : (a0.toList == ([35, 86, 65, 76, 85, 69, 33] : List UInt8)) = true := beq_iff_eq.mpr c7
           clear c7
           have A5 := Aside0.mk h
           clear h
           go_wp2_with (first | ((with_reducible refine gate_callee (f := 25) rfl ?_); refine goesL_ (some 48) rfl rfl Tryd.func25 kr rfl #[.int .i64 2] rfl ga ?_; (with_reducible refine (value_Fault.calls 2 r1 r2 r3 r4 r5 r6 _ A5.out).mono ?_); rintro e w11 ⟨rfl, hb⟩; refine ⟨_, rfl, ?_⟩; replace BX := bx_call hb; clear hb))
           refine bodyPost_ret (results_cell_row rfl _ _ gb1 25 #[.int .i64 r1, .int .i64 r2, .int .i64 r3, .string r4, .bool r5, .int .i64 r6] (0, 0) _ rfl bx_get Tryd.underlying25 rfl kr) rfl ?_
           exact ⟨er2, bx_bl⟩
          ·rw [if_neg c7] at h
           have c7b0 : (a0.toList == ([35, 86, 65, 76, 85, 69, 33] : List UInt8)) = false := beq_eq_false_iff_ne.mpr c7
           clear c7
           have H' := Aside0.mk h
           clear h
           go_wp2
           go_roundg k1
           case measure => have := HK.out; omega
           case rel => exact ⟨2, er, ⟨by omega⟩, H', ⟨by have := HK.out; omega⟩, bxs⟩
         ·replace h : (if a0.toList = (nmA 2).toList then value_Fault.f 3 else value_Read.l0 k1 a0 3) = some (r1, r2, r3, r4, r5, r6) := h
          rw [show (nmA 2).toList = ([35, 82, 69, 70, 33] : List UInt8) from by simp [nmA, nmL]] at h
          by_cases c7 : a0.toList = ([35, 82, 69, 70, 33] : List UInt8)
          ·rw [if_pos c7] at h
           have c7b0 : (a0.toList == ([35, 82, 69, 70, 33] : List UInt8)) = true := beq_iff_eq.mpr c7
           clear c7
           have A5 := Aside0.mk h
           clear h
           go_wp2_with (first | ((with_reducible refine gate_callee (f := 25) rfl ?_); refine goesL_ (some 48) rfl rfl Tryd.func25 kr rfl #[.int .i64 3] rfl ga ?_; (with_reducible refine (value_Fault.calls 3 r1 r2 r3 r4 r5 r6 _ A5.out).mono ?_); rintro e w11 ⟨rfl, hb⟩; refine ⟨_, rfl, ?_⟩; replace BX := bx_call hb; clear hb))
           refine bodyPost_ret (results_cell_row rfl _ _ gb1 25 #[.int .i64 r1, .int .i64 r2, .int .i64 r3, .string r4, .bool r5, .int .i64 r6] (0, 0) _ rfl bx_get Tryd.underlying25 rfl kr) rfl ?_
           exact ⟨er2, bx_bl⟩
          ·rw [if_neg c7] at h
           have c7b0 : (a0.toList == ([35, 82, 69, 70, 33] : List UInt8)) = false := beq_eq_false_iff_ne.mpr c7
           clear c7
           have H' := Aside0.mk h
           clear h
           go_wp2
           go_roundg k1
           case measure => have := HK.out; omega
           case rel => exact ⟨3, er, ⟨by omega⟩, H', ⟨by have := HK.out; omega⟩, bxs⟩
         ·replace h : (if a0.toList = (nmA 3).toList then value_Fault.f 4 else value_Read.l0 k1 a0 4) = some (r1, r2, r3, r4, r5, r6) := h
          rw [show (nmA 3).toList = ([35, 78, 85, 77, 33] : List UInt8) from by simp [nmA, nmL]] at h
          by_cases c7 : a0.toList = ([35, 78, 85, 77, 33] : List UInt8)
          ·rw [if_pos c7] at h
           have c7b0 : (a0.toList == ([35, 78, 85, 77, 33] : List UInt8)) = true := beq_iff_eq.mpr c7
           clear c7
           have A5 := Aside0.mk h
           clear h
           go_wp2_with (first | ((with_reducible refine gate_callee (f := 25) rfl ?_); refine goesL_ (some 48) rfl rfl Tryd.func25 kr rfl #[.int .i64 4] rfl ga ?_; (with_reducible refine (value_Fault.calls 4 r1 r2 r3 r4 r5 r6 _ A5.out).mono ?_); rintro e w11 ⟨rfl, hb⟩; refine ⟨_, rfl, ?_⟩; replace BX := bx_call hb; clear hb))
           refine bodyPost_ret (results_cell_row rfl _ _ gb1 25 #[.int .i64 r1, .int .i64 r2, .int .i64 r3, .string r4, .bool r5, .int .i64 r6] (0, 0) _ rfl bx_get Tryd.underlying25 rfl kr) rfl ?_
           exact ⟨er2, bx_bl⟩
          ·rw [if_neg c7] at h
           have c7b0 : (a0.toList == ([35, 78, 85, 77, 33] : List UInt8)) = false := beq_eq_false_iff_ne.mpr c7
           clear c7
           have H' := Aside0.mk h
           clear h
           go_wp2
           go_roundg k1
           case measure => have := HK.out; omega
           case rel => exact ⟨4, er, ⟨by omega⟩, H', ⟨by have := HK.out; omega⟩, bxs⟩
         ·replace h : (if a0.toList = (nmA 4).toList then value_Fault.f 5 else value_Read.l0 k1 a0 5) = some (r1, r2, r3, r4, r5, r6) := h
          rw [show (nmA 4).toList = ([35, 78, 47, 65] : List UInt8) from by simp [nmA, nmL]] at h
          by_cases c7 : a0.toList = ([35, 78, 47, 65] : List UInt8)
          ·rw [if_pos c7] at h
           have c7b0 : (a0.toList == ([35, 78, 47, 65] : List UInt8)) = true := beq_iff_eq.mpr c7
           clear c7
           have A5 := Aside0.mk h
           clear h
           go_wp2_with (first | ((with_reducible refine gate_callee (f := 25) rfl ?_); refine goesL_ (some 48) rfl rfl Tryd.func25 kr rfl #[.int .i64 5] rfl ga ?_; (with_reducible refine (value_Fault.calls 5 r1 r2 r3 r4 r5 r6 _ A5.out).mono ?_); rintro e w11 ⟨rfl, hb⟩; refine ⟨_, rfl, ?_⟩; replace BX := bx_call hb; clear hb))
           refine bodyPost_ret (results_cell_row rfl _ _ gb1 25 #[.int .i64 r1, .int .i64 r2, .int .i64 r3, .string r4, .bool r5, .int .i64 r6] (0, 0) _ rfl bx_get Tryd.underlying25 rfl kr) rfl ?_
           exact ⟨er2, bx_bl⟩
          ·rw [if_neg c7] at h
           have c7b0 : (a0.toList == ([35, 78, 47, 65] : List UInt8)) = false := beq_eq_false_iff_ne.mpr c7
           clear c7
           have H' := Aside0.mk h
           clear h
           go_wp2
           go_roundg k1
           case measure => have := HK.out; omega
           case rel => exact ⟨5, er, ⟨by omega⟩, H', ⟨by have := HK.out; omega⟩, bxs⟩
         ·replace h : (if a0.toList = (nmA 5).toList then value_Fault.f 6 else value_Read.l0 k1 a0 6) = some (r1, r2, r3, r4, r5, r6) := h
          rw [show (nmA 5).toList = ([35, 67, 73, 82, 67, 76, 69, 33] : List UInt8) from by simp [nmA, nmL]] at h
          by_cases c7 : a0.toList = ([35, 67, 73, 82, 67, 76, 69, 33] : List UInt8)
          ·rw [if_pos c7] at h
           have c7b0 : (a0.toList == ([35, 67, 73, 82, 67, 76, 69, 33] : List UInt8)) = true := beq_iff_eq.mpr c7
           clear c7
           have A5 := Aside0.mk h
           clear h
           go_wp2_with (first | ((with_reducible refine gate_callee (f := 25) rfl ?_); refine goesL_ (some 48) rfl rfl Tryd.func25 kr rfl #[.int .i64 6] rfl ga ?_; (with_reducible refine (value_Fault.calls 6 r1 r2 r3 r4 r5 r6 _ A5.out).mono ?_); rintro e w11 ⟨rfl, hb⟩; refine ⟨_, rfl, ?_⟩; replace BX := bx_call hb; clear hb))
           refine bodyPost_ret (results_cell_row rfl _ _ gb1 25 #[.int .i64 r1, .int .i64 r2, .int .i64 r3, .string r4, .bool r5, .int .i64 r6] (0, 0) _ rfl bx_get Tryd.underlying25 rfl kr) rfl ?_
           exact ⟨er2, bx_bl⟩
          ·rw [if_neg c7] at h
           have c7b0 : (a0.toList == ([35, 67, 73, 82, 67, 76, 69, 33] : List UInt8)) = false := beq_eq_false_iff_ne.mpr c7
           clear c7
           have H' := Aside0.mk h
           clear h
           go_wp2
           go_roundg k1
           case measure => have := HK.out; omega
           case rel => exact ⟨6, er, ⟨by omega⟩, H', ⟨by have := HK.out; omega⟩, bxs⟩
         ·replace h : (if a0.toList = (nmA 6).toList then value_Fault.f 7 else value_Read.l0 k1 a0 7) = some (r1, r2, r3, r4, r5, r6) := h
          rw [show (nmA 6).toList = ([35, 76, 79, 78, 71, 33] : List UInt8) from by simp [nmA, nmL]] at h
          by_cases c7 : a0.toList = ([35, 76, 79, 78, 71, 33] : List UInt8)
          ·rw [if_pos c7] at h
           have c7b0 : (a0.toList == ([35, 76, 79, 78, 71, 33] : List UInt8)) = true := beq_iff_eq.mpr c7
           clear c7
           have A5 := Aside0.mk h
           clear h
           go_wp2_with (first | ((with_reducible refine gate_callee (f := 25) rfl ?_); refine goesL_ (some 48) rfl rfl Tryd.func25 kr rfl #[.int .i64 7] rfl ga ?_; (with_reducible refine (value_Fault.calls 7 r1 r2 r3 r4 r5 r6 _ A5.out).mono ?_); rintro e w11 ⟨rfl, hb⟩; refine ⟨_, rfl, ?_⟩; replace BX := bx_call hb; clear hb))
           refine bodyPost_ret (results_cell_row rfl _ _ gb1 25 #[.int .i64 r1, .int .i64 r2, .int .i64 r3, .string r4, .bool r5, .int .i64 r6] (0, 0) _ rfl bx_get Tryd.underlying25 rfl kr) rfl ?_
           exact ⟨er2, bx_bl⟩
          ·rw [if_neg c7] at h
           have c7b0 : (a0.toList == ([35, 76, 79, 78, 71, 33] : List UInt8)) = false := beq_eq_false_iff_ne.mpr c7
           clear c7
           have H' := Aside0.mk h
           clear h
           go_wp2
           go_roundg k1
           case measure => have := HK.out; omega
           case rel => exact ⟨7, er, ⟨by omega⟩, H', ⟨by have := HK.out; omega⟩, bxs⟩
         ·replace h : (if a0.toList = (nmA 7).toList then value_Fault.f 8 else value_Read.l0 k1 a0 8) = some (r1, r2, r3, r4, r5, r6) := h
          rw [show (nmA 7).toList = ([35, 65, 82, 71, 33] : List UInt8) from by simp [nmA, nmL]] at h
          by_cases c7 : a0.toList = ([35, 65, 82, 71, 33] : List UInt8)
          ·rw [if_pos c7] at h
           have c7b0 : (a0.toList == ([35, 65, 82, 71, 33] : List UInt8)) = true := beq_iff_eq.mpr c7
           clear c7
           have A5 := Aside0.mk h
           clear h
           go_wp2_with (first | ((with_reducible refine gate_callee (f := 25) rfl ?_); refine goesL_ (some 48) rfl rfl Tryd.func25 kr rfl #[.int .i64 8] rfl ga ?_; (with_reducible refine (value_Fault.calls 8 r1 r2 r3 r4 r5 r6 _ A5.out).mono ?_); rintro e w11 ⟨rfl, hb⟩; refine ⟨_, rfl, ?_⟩; replace BX := bx_call hb; clear hb))
           refine bodyPost_ret (results_cell_row rfl _ _ gb1 25 #[.int .i64 r1, .int .i64 r2, .int .i64 r3, .string r4, .bool r5, .int .i64 r6] (0, 0) _ rfl bx_get Tryd.underlying25 rfl kr) rfl ?_
           exact ⟨er2, bx_bl⟩
          ·rw [if_neg c7] at h
           have c7b0 : (a0.toList == ([35, 65, 82, 71, 33] : List UInt8)) = false := beq_eq_false_iff_ne.mpr c7
           clear c7
           have H' := Aside0.mk h
           clear h
           go_wp2
           go_roundg k1
           case measure => have := HK.out; omega
           case rel => exact ⟨8, er, ⟨by omega⟩, H', ⟨by have := HK.out; omega⟩, bxs⟩
        ·rw [if_neg c6] at h
         have c6b0 : decide (x39 < 8) = false := decide_eq_false c6
         clear c6
         have A5 := Aside0.mk h
         clear h
         go_wp2_with (first | ((with_reducible refine gate_callee (f := 21) rfl ?_); refine goesL_ (some 51) rfl rfl Tryd.func21 kr rfl #[.string a0] rfl ga ?_; (with_reducible refine (value_Text.calls k1 a0 r1 r2 r3 r4 r5 r6 _ A5.out).mono ?_); rintro e w11 ⟨rfl, hb⟩; refine ⟨_, rfl, ?_⟩; replace BX := bx_call hb; clear hb))
         refine bodyPost_ret (results_cell_row rfl _ _ gb1 25 #[.int .i64 r1, .int .i64 r2, .int .i64 r3, .string r4, .bool r5, .int .i64 r6] (0, 0) _ rfl bx_get Tryd.underlying25 rfl kr) rfl ?_
         exact ⟨er2, bx_bl⟩
end Go.Proofs.YtmakkdlkgfgaoaaDoor.F
