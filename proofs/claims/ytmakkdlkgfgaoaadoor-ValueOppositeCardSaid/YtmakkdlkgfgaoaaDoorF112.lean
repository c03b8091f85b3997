-- Laid by program (wip/tools/genv.sh, pack.py, merge.py of this repo) out of the translation; Lean checks it.
import Derived.Test.YtmakkdlkgfgaoaaDoorF0
import Derived.Test.YtmakkdlkgfgaoaaDoorC0
import Derived.Test.YtmakkdlkgfgaoaaDoorF100
import Derived.Test.YtmakkdlkgfgaoaaDoorF103
import Derived.Test.YtmakkdlkgfgaoaaDoorF105
import Derived.Test.YtmakkdlkgfgaoaaDoorG3
namespace Go.Proofs.YtmakkdlkgfgaoaaDoor.F
open Go.RowKit Go.Proofs.YtmakkdlkgfgaoaaDoorW.PrintWords Go.Proofs.YtmakkdlkgfgaoaaDoorW.PrintLast Go.Proofs.YtmakkdlkgfgaoaaDoorW.PrintMore
attribute [local go_sem] max2_int min2_int max_two min_two max_three min_three max_four min_four
attribute [local go_sem high] bx_cell bx_frozen
set_option linter.unusedVariables false
set_option linter.unusedSimpArgs false

section
attribute [local go_sem high] eqA25
/-! ### whittlelaw2_able: function 15 -/
def whittlelaw2_able.f (k : Nat)  : Option (Bool) := (value_Number.f k 1 1).bind fun bt549 => ((value_Text.f k (⟨#[50]⟩ : ByteArray)).bind fun bt555 => ((value_Bin.f k 11 bt549.1 bt549.2.1 bt549.2.2.1 bt549.2.2.2.1 bt549.2.2.2.2.1 bt549.2.2.2.2.2 bt555.1 bt555.2.1 bt555.2.2.1 bt555.2.2.2.1 bt555.2.2.2.2.1 bt555.2.2.2.2.2).bind fun bt561 => (if (bt561.1 == 1 && ((bt561.2.1 == 3 && (bt561.2.2.1 == 1)) && (bt561.2.2.2.1.toList == ([] : List UInt8) && (!bt561.2.2.2.2.1 && (bt561.2.2.2.2.2 == 0))))) = true then ((value_Show.f k bt561.1 bt561.2.1 bt561.2.2.1 bt561.2.2.2.1 bt561.2.2.2.2.1 bt561.2.2.2.2.2).bind fun t568 => (if t568.toList = ([51] : List UInt8) then ((value_Read.f k (⟨#[51]⟩ : ByteArray)).bind fun bt569 => (if (bt569.1 == bt561.1 && ((bt569.2.1 == bt561.2.1 && (bt569.2.2.1 == bt561.2.2.1)) && (bt569.2.2.2.1.toList == bt561.2.2.2.1.toList && (bt569.2.2.2.2.1 == bt561.2.2.2.2.1 && (bt569.2.2.2.2.2 == bt561.2.2.2.2.2))))) = true then ((value_Right.f k bt561.1 bt561.2.1 bt561.2.2.1 bt561.2.2.2.1 bt561.2.2.2.2.1 bt561.2.2.2.2.2).bind fun t575 => (some t575)) else (some false))) else (some false))) else (some false))))
theorem whittlelaw2_able.mono : ∀ k, LeO (whittlelaw2_able.f k ) (whittlelaw2_able.f (k + 1) ) := by
 intro  k
 unfold whittlelaw2_able.f
 repeat' first
   | (with_reducible exact value_Bin.mono _ _ _ _ _ _ _ _ _ _ _ _ _ _)
   | (with_reducible exact value_Number.mono _ _ _)
   | (with_reducible exact value_Read.mono _ _)
   | (with_reducible exact value_Right.mono _ _ _ _ _ _ _)
   | (with_reducible exact value_Show.mono _ _ _ _ _ _ _)
   | (with_reducible exact value_Text.mono _ _)
   | (with_reducible exact LeO.refl _)
   | (with_reducible exact LeO.none _)
   | (with_reducible refine LeO.ite ?_ ?_)
   | (with_reducible refine LeO.bind ?_ (fun _ => ?_))
   | exact value_Bin.mono _ _ _ _ _ _ _ _ _ _ _ _ _ _
   | exact value_Number.mono _ _ _
   | exact value_Read.mono _ _
   | exact value_Right.mono _ _ _ _ _ _ _
   | exact value_Show.mono _ _ _ _ _ _ _
   | exact value_Text.mono _ _
   | exact LeO.none _
   | refine LeO.ite ?_ ?_
   | refine LeO.bind ?_ (fun _ => ?_)
def whittlelaw2_able.T2 : Bool × List (List Nat × List Nat) := (true, [([], []), ([], []), ([1], [1]), ([0, 2], [0, 2]), ([3], [3]), ([4], [4]), ([5, 4, 4], [4, 5]), ([6, 4], [4, 6]), ([4, 7], [4, 7]), ([8, 6], [8]), ([9, 9], [9]), ([9], [9]), ([10, 11, 9], [9, 10, 11]), ([9, 12], [9, 12]), ([13, 10], [13]), ([14], [14]), ([15, 14, 14], [14, 15]), ([14, 16], [14, 16]), ([17, 16, 0, 1, 2, 3, 4, 5, 6, 7, 8, 9, 10, 11, 12, 13, 14, 15, 16, 17], [17])])
def whittlelaw2_able.B2 : List Nat := [0, 0, 2, 7, 15, 31, 63, 127, 255, 511, 1023, 1023, 4095, 8191, 16383, 32767, 65535, 131071, 262143]
theorem whittlelaw2_able.tab2 : rtab .any (opsOf Tryd.f15 2) = whittlelaw2_able.T2 := by kernel_rfl
theorem whittlelaw2_able.bits2 : waitsOk whittlelaw2_able.T2.2 whittlelaw2_able.B2 = true := by kernel_rfl
set_option maxHeartbeats 8000000 in
set_option maxRecDepth 100000 in
theorem whittlelaw2_able.calls (k : Nat)  (r : Bool) (w : World) (HT0 : TabAt w) (h : whittlelaw2_able.f k  = some r) :
  Calls Tryd.prog 15 #[] w fun e w' => e = .returned (.bool r) ∧ Below w.heap.size w w' := by
 have hu23 := Tryd.underlying23
 have hu25 := Tryd.underlying25
 have HT := Aside0.mk HT0
 clear HT0
 have BX := Bx.start w
 have H : ((value_Number.f k 1 1).bind fun bt549 => ((value_Text.f k (⟨#[50]⟩ : ByteArray)).bind fun bt555 => ((value_Bin.f k 11 bt549.1 bt549.2.1 bt549.2.2.1 bt549.2.2.2.1 bt549.2.2.2.2.1 bt549.2.2.2.2.2 bt555.1 bt555.2.1 bt555.2.2.1 bt555.2.2.2.1 bt555.2.2.2.2.1 bt555.2.2.2.2.2).bind fun bt561 => (if (bt561.1 == 1 && ((bt561.2.1 == 3 && (bt561.2.2.1 == 1)) && (bt561.2.2.2.1.toList == ([] : List UInt8) && (!bt561.2.2.2.2.1 && (bt561.2.2.2.2.2 == 0))))) = true then ((value_Show.f k bt561.1 bt561.2.1 bt561.2.2.1 bt561.2.2.2.1 bt561.2.2.2.2.1 bt561.2.2.2.2.2).bind fun t568 => (if t568.toList = ([51] : List UInt8) then ((value_Read.f k (⟨#[51]⟩ : ByteArray)).bind fun bt569 => (if (bt569.1 == bt561.1 && ((bt569.2.1 == bt561.2.1 && (bt569.2.2.1 == bt561.2.2.1)) && (bt569.2.2.2.1.toList == bt561.2.2.2.1.toList && (bt569.2.2.2.2.1 == bt561.2.2.2.2.1 && (bt569.2.2.2.2.2 == bt561.2.2.2.2.2))))) = true then ((value_Right.f k bt561.1 bt561.2.1 bt561.2.2.1 bt561.2.2.2.1 bt561.2.2.2.2.1 bt561.2.2.2.2.2).bind fun t575 => (some t575)) else (some false))) else (some false))) else (some false))))) = some r := h
 clear h
 replace H := Option.bind_eq_some_iff.mp H
 obtain ⟨⟨t549, t550, t551, t552, t553, t554⟩, A10, H⟩ := H
 have A1 := Aside0.mk A10
 clear A10
 replace H := Option.bind_eq_some_iff.mp H
 obtain ⟨⟨t555, t556, t557, t558, t559, t560⟩, A20, H⟩ := H
 have A2 := Aside0.mk A20
 clear A20
 replace H := Option.bind_eq_some_iff.mp H
 obtain ⟨⟨t561, t562, t563, t564, t565, t566⟩, A30, H⟩ := H
 replace H : (if (t561 == 1 && ((t562 == 3 && (t563 == 1)) && (t564.toList == ([] : List UInt8) && (!t565 && (t566 == 0))))) = true then ((value_Show.f k t561 t562 t563 t564 t565 t566).bind fun t568 => (if t568.toList = ([51] : List UInt8) then ((value_Read.f k (⟨#[51]⟩ : ByteArray)).bind fun bt569 => (if (bt569.1 == t561 && ((bt569.2.1 == t562 && (bt569.2.2.1 == t563)) && (bt569.2.2.2.1.toList == t564.toList && (bt569.2.2.2.2.1 == t565 && (bt569.2.2.2.2.2 == t566))))) = true then ((value_Right.f k t561 t562 t563 t564 t565 t566).bind fun t575 => (some t575)) else (some false))) else (some false))) else (some false)) = some r := H
 have A3 := Aside0.mk A30
 clear A30
 by_cases c4 : (t561 == 1 && ((t562 == 3 && (t563 == 1)) && (t564.toList == ([] : List UInt8) && (!t565 && (t566 == 0))))) = true
 ·rw [if_pos c4] at H
  have c4b0 : (t561 == 1 && ((t562 == 3 && (t563 == 1)) && (t564.toList == ([] : List UInt8) && (!t565 && (t566 == 0))))) = true := c4
  have c4be : (t561 == 1 && ((t562 == 3 && (t563 == 1)) && (t564.toList.isEmpty && (!t565 && (t566 == 0))))) = true := by have h_ := c4b0; simp only [beq_nil] at h_; exact h_
  (try (have c4b1 : decide (t561 = 1 && ((t562 == 3 && (t563 == 1)) && (t564.toList == ([] : List UInt8) && (!t565 && (t566 == 0))))) = true := by simpa using c4))
  (try (have c4b2 : (t561 == 1 && ((t562 == 3 && (t563 == 1)) && (t564.toList == ([] : List UInt8) && (!t565 && (t566 == 0))))) = true := by simpa using c4))
  clear c4
  replace H := Option.bind_eq_some_iff.mp H
  obtain ⟨t568, A50, H⟩ := H
  replace H : (if t568.toList = ([51] : List UInt8) then ((value_Read.f k (⟨#[51]⟩ : ByteArray)).bind fun bt569 => (if (bt569.1 == t561 && ((bt569.2.1 == t562 && (bt569.2.2.1 == t563)) && (bt569.2.2.2.1.toList == t564.toList && (bt569.2.2.2.2.1 == t565 && (bt569.2.2.2.2.2 == t566))))) = true then ((value_Right.f k t561 t562 t563 t564 t565 t566).bind fun t575 => (some t575)) else (some false))) else (some false)) = some r := H
  have A5 := Aside0.mk A50
  clear A50
  by_cases c6 : t568.toList = ([51] : List UInt8)
  ·rw [if_pos c6] at H
   have c6b0 : (t568.toList == ([51] : List UInt8)) = true := beq_iff_eq.mpr c6
   have c6b1 : (t568.toList != ([51] : List UInt8)) = false := bne_eq_false_iff_eq.mpr c6
   clear c6
   replace H := Option.bind_eq_some_iff.mp H
   obtain ⟨⟨t569, t570, t571, t572, t573, t574⟩, A70, H⟩ := H
   replace H : (if (t569 == t561 && ((t570 == t562 && (t571 == t563)) && (t572.toList == t564.toList && (t573 == t565 && (t574 == t566))))) = true then ((value_Right.f k t561 t562 t563 t564 t565 t566).bind fun t575 => (some t575)) else (some false)) = some r := H
   have A7 := Aside0.mk A70
   clear A70
   by_cases c8 : (t569 == t561 && ((t570 == t562 && (t571 == t563)) && (t572.toList == t564.toList && (t573 == t565 && (t574 == t566))))) = true
   ·rw [if_pos c8] at H
    have c8b0 : (t569 == t561 && ((t570 == t562 && (t571 == t563)) && (t572.toList == t564.toList && (t573 == t565 && (t574 == t566))))) = true := c8
    (try (have c8b1 : decide (t569 = t561 && ((t570 == t562 && (t571 == t563)) && (t572.toList == t564.toList && (t573 == t565 && (t574 == t566))))) = true := by simpa using c8))
    (try (have c8b2 : (t569 == t561 && ((t570 == t562 && (t571 == t563)) && (t572.toList == t564.toList && (t573 == t565 && (t574 == t566))))) = true := by simpa using c8))
    clear c8
    replace H := Option.bind_eq_some_iff.mp H
    obtain ⟨t575, A90, H⟩ := H
    replace H : (some t575) = some r := H
    have A9 := Aside0.mk A90
    clear A90
    obtain rfl := Option.some.inj H
    go_enter Tryd.func15, Tryd.ntmps15
    try go_wp2_with (first | ((with_reducible refine gate_callee (f := 19) rfl ?_); refine goesL_ (some 3) rfl rfl Tryd.func19 kr rfl #[.agg #[.int .i64 1, .int .i64 1]] rfl ga ?_; (with_reducible refine (value_Number.calls k 1 1 t549 t550 t551 t552 t553 t554 _ A1.out).mono ?_); rintro e w10 ⟨rfl, hb⟩; refine ⟨_, rfl, ?_⟩; replace BX := bx_call hb; clear hb) | ((with_reducible refine gate_callee (f := 21) rfl ?_); refine goesL_ (some 4) rfl rfl Tryd.func21 kr rfl #[.string (⟨#[50]⟩ : ByteArray)] rfl ga ?_; (with_reducible refine (value_Text.calls k (⟨#[50]⟩ : ByteArray) t555 t556 t557 t558 t559 t560 _ A2.out).mono ?_); rintro e w11 ⟨rfl, hb⟩; refine ⟨_, rfl, ?_⟩; replace BX := bx_call hb; clear hb) | ((with_reducible refine gate_callee (f := 31) rfl ?_); refine goesL_ (some 5) rfl rfl Tryd.func31 kr rfl #[.int .i64 11, .agg #[.int .i64 t549, .int .i64 t550, .int .i64 t551, .string t552, .bool t553, .int .i64 t554], .agg #[.int .i64 t555, .int .i64 t556, .int .i64 t557, .string t558, .bool t559, .int .i64 t560]] rfl ga ?_; (with_reducible refine (value_Bin.calls k 11 t549 t550 t551 t552 t553 t554 t555 t556 t557 t558 t559 t560 t561 t562 t563 t564 t565 t566 _ ?side1 A3.out).mono ?_); (case side1 => exact HT.out.on bx_bl); rintro e w12 ⟨rfl, hb⟩; refine ⟨_, rfl, ?_⟩; replace BX := bx_call hb; clear hb) | ((with_reducible refine gate_dst (N := 1) rfl ?_); refine bxe 1 #[.int .i64 0, .int .i64 0, .int .i64 0, .string (⟨#[]⟩ : ByteArray), .bool false, .int .i64 0] 25 rfl rfl gr ?_; clear BX; intro gb567 w13 GE567 BX))
    replace BX : Bx w ((((((w13.setCell ⟨gb567, 0, none⟩ (.int .i64 t561)).setCell ⟨gb567, 1, none⟩ (.int .i64 t562)).setCell ⟨gb567, 2, none⟩ (.int .i64 t563)).setCell ⟨gb567, 3, none⟩ (.string t564)).setCell ⟨gb567, 4, none⟩ (.bool t565)).setCell ⟨gb567, 5, none⟩ (.int .i64 t566)) _ := bxi
    generalize ((((((w13.setCell ⟨gb567, 0, none⟩ (.int .i64 t561)).setCell ⟨gb567, 1, none⟩ (.int .i64 t562)).setCell ⟨gb567, 2, none⟩ (.int .i64 t563)).setCell ⟨gb567, 3, none⟩ (.string t564)).setCell ⟨gb567, 4, none⟩ (.bool t565)).setCell ⟨gb567, 5, none⟩ (.int .i64 t566)) = w15 at BX ⊢
    refine startm [true] (n := 19) (ds := []) #[false, false, false, false, false, false, false, false, false, false, false, false, false, false, false, false, false, false, false] kr rfl rfl (fun BX1 => ?_); refine with_tabW whittlelaw2_able.tab2 whittlelaw2_able.bits2 (fun HT_ HW_ => ?_)
    clear BX
    have BX := BX1
    clear BX1
    generalize w15.drew = w16 at BX ⊢
    refine pure_ (i := 1) (N := some 7) (v := ?_) (a' := ?_) #[false, true, false, false, false, false, false, false, false, false, false, false, false, false, false, false, false, false, false] rfl rfl (any_of HT_.out kr) (fun _ _ _ h => h) (Or.inl ⟨by rfl, ?_⟩) ?_ ?_
    rotate_left
    ·intro w'
     go_simp
     with_reducible rfl
    rotate_left
    ·simp only [Act.put, List.setIfInBounds_toArray, List.set_cons_zero, List.set_cons_succ, i64_w, i32_w]
     rfl
    refine pure_ (i := 2) (N := some 8) (v := ?_) (a' := ?_) #[false, true, true, false, false, false, false, false, false, false, false, false, false, false, false, false, false, false, false] rfl rfl (any_of HT_.out kr) (fun _ _ _ h => h) (Or.inl ⟨by rfl, ?_⟩) ?_ ?_
    rotate_left
    ·intro w'
     go_simp
     with_reducible rfl
    rotate_left
    ·simp only [Act.put, List.setIfInBounds_toArray, List.set_cons_zero, List.set_cons_succ, i64_w, i32_w]
     rfl
    refine take_ (i := 0) (N := some 6) (v := ?_) (a' := ?_) #[true, true, true, false, false, false, false, false, false, false, false, false, false, false, false, false, false, false, false] rfl rfl (take_ofW HT_.out HW_.out kr) (fun _ _ _ h => h) (Or.inl ⟨by rfl, ?_⟩) bxs ?_ ?_
    rotate_left
    ·intro w' hS
     go_simp
     with_reducible rfl
    rotate_left
    ·simp only [Act.put, List.setIfInBounds_toArray, List.set_cons_zero, List.set_cons_succ, i64_w, i32_w]
     rfl
    refine pure_ (i := 3) (N := some 9) (v := ?_) (a' := ?_) #[true, true, true, true, false, false, false, false, false, false, false, false, false, false, false, false, false, false, false] rfl rfl (any_of HT_.out kr) (fun _ _ _ h => h) (Or.inl ⟨by rfl, ?_⟩) ?_ ?_
    rotate_left
    ·intro w'
     go_simp
     with_reducible rfl
    rotate_left
    ·simp only [Act.put, List.setIfInBounds_toArray, List.set_cons_zero, List.set_cons_succ, i64_w, i32_w]
     rfl
    refine pure_ (i := 4) (N := some 10) (v := ?_) (a' := ?_) #[true, true, true, true, true, false, false, false, false, false, false, false, false, false, false, false, false, false, false] rfl rfl (any_of HT_.out kr) (fun _ _ _ h => h) (Or.inl ⟨by rfl, ?_⟩) ?_ ?_
    rotate_left
    ·intro w'
     go_simp
     with_reducible rfl
    rotate_left
    ·simp only [Act.put, List.setIfInBounds_toArray, List.set_cons_zero, List.set_cons_succ, i64_w, i32_w]
     rfl
    refine take_ (i := 5) (N := some 11) (v := ?_) (a' := ?_) #[true, true, true, true, true, true, false, false, false, false, false, false, false, false, false, false, false, false, false] rfl rfl (take_ofW HT_.out HW_.out kr) (fun _ _ _ h => h) (Or.inl ⟨by rfl, ?_⟩) bxs ?_ ?_
    rotate_left
    ·intro w' hS
     go_simp
     with_reducible rfl
    rotate_left
    ·simp only [Act.put, List.setIfInBounds_toArray, List.set_cons_zero, List.set_cons_succ, i64_w, i32_w]
     rfl
    refine one_ (i := 6) (N := some 12) #[true, true, true, true, true, true, true, false, false, false, false, false, false, false, false, false, false, false, false] rfl rfl (one_of HT_.out kr) (by decide) (fun K hK => ?_)
    refine goes_ Tryd.func29 kr rfl #[.agg #[.int .i64 t561, .int .i64 t562, .int .i64 t563, .string t564, .bool t565, .int .i64 t566]] (by rfl) rfl rfl ga ?_
    with_reducible refine (value_Show.calls k t561 t562 t563 t564 t565 t566 t568 _ ?side1 A5.out).mono ?_
    (case side1 => exact HT.out.on bx_bl)
    rintro e w17 ⟨rfl, hb⟩
    refine ⟨_, rfl, ?_⟩
    replace BX := bx_call hb
    clear hb
    refine hK.out _ _ bxs (fun hHeld => ?_)
    clear hK K hHeld
    refine norm_ (a' := ?_) ?_ ?_
    rotate_left
    ·show Act.put _ (some 12) _ = _
     simp only [Act.put, List.setIfInBounds_toArray, List.set_cons_zero, List.set_cons_succ, i64_w, i32_w]
     rfl
    refine pure_ (i := 7) (N := some 13) (v := ?_) (a' := ?_) #[true, true, true, true, true, true, true, true, false, false, false, false, false, false, false, false, false, false, false] rfl rfl (any_of HT_.out kr) (fun _ _ _ h => h) (Or.inl ⟨by rfl, ?_⟩) ?_ ?_
    rotate_left
    ·intro w'
     go_simp
     with_reducible rfl
    rotate_left
    ·simp only [Act.put, List.setIfInBounds_toArray, List.set_cons_zero, List.set_cons_succ, i64_w, i32_w]
     rfl
    refine pure_ (i := 8) (N := some 14) (v := ?_) (a' := ?_) #[true, true, true, true, true, true, true, true, true, false, false, false, false, false, false, false, false, false, false] rfl rfl (any_of HT_.out kr) (fun _ _ _ h => h) (Or.inl ⟨by rfl, ?_⟩) ?_ ?_
    rotate_left
    ·intro w'
     go_simp
     with_reducible rfl
    rotate_left
    ·simp only [Act.put, List.setIfInBounds_toArray, List.set_cons_zero, List.set_cons_succ, i64_w, i32_w]
     rfl
    refine pure_ (i := 9) (N := some 15) (v := ?_) (a' := ?_) #[true, true, true, true, true, true, true, true, true, true, false, false, false, false, false, false, false, false, false] rfl rfl (any_of HT_.out kr) (fun _ _ _ h => h) (Or.inl ⟨by rfl, ?_⟩) ?_ ?_
    rotate_left
    ·intro w'
     go_simp
     with_reducible rfl
    rotate_left
    ·simp only [Act.put, List.setIfInBounds_toArray, List.set_cons_zero, List.set_cons_succ, i64_w, i32_w]
     rfl
    refine take_ (i := 11) (N := some 17) (v := ?_) (a' := ?_) #[true, true, true, true, true, true, true, true, true, true, false, true, false, false, false, false, false, false, false] rfl rfl (take_ofW HT_.out HW_.out kr) (fun _ _ _ h => h) (Or.inl ⟨by rfl, ?_⟩) bxs ?_ ?_
    rotate_left
    ·intro w' hS
     go_simp
     with_reducible rfl
    rotate_left
    ·simp only [Act.put, List.setIfInBounds_toArray, List.set_cons_zero, List.set_cons_succ, i64_w, i32_w]
     rfl
    refine one_ (i := 10) (N := some 16) #[true, true, true, true, true, true, true, true, true, true, true, true, false, false, false, false, false, false, false] rfl rfl (one_of HT_.out kr) (by decide) (fun K hK => ?_)
    refine goes_ Tryd.func27 kr rfl #[.string (⟨#[51]⟩ : ByteArray)] (by rfl) rfl rfl ga ?_
    with_reducible refine (value_Read.calls k (⟨#[51]⟩ : ByteArray) t569 t570 t571 t572 t573 t574 _ ?side1 A7.out).mono ?_
    (case side1 => exact HT.out.on bx_bl)
    rintro e w18 ⟨rfl, hb⟩
    refine ⟨_, rfl, ?_⟩
    replace BX := bx_call hb
    clear hb
    refine hK.out _ _ bxs (fun hHeld => ?_)
    clear hK K hHeld
    refine norm_ (a' := ?_) ?_ ?_
    rotate_left
    ·show Act.put _ (some 16) _ = _
     simp only [Act.put, List.setIfInBounds_toArray, List.set_cons_zero, List.set_cons_succ, i64_w, i32_w]
     rfl
    refine pure_ (i := 12) (N := some 18) (v := ?_) (a' := ?_) #[true, true, true, true, true, true, true, true, true, true, true, true, true, false, false, false, false, false, false] rfl rfl (any_of HT_.out kr) (fun _ _ _ h => h) (Or.inl ⟨by rfl, ?_⟩) ?_ ?_
    rotate_left
    ·intro w'
     go_simp
     with_reducible rfl
    rotate_left
    ·simp only [Act.put, List.setIfInBounds_toArray, List.set_cons_zero, List.set_cons_succ, i64_w, i32_w]
     rfl
    refine pure_ (i := 13) (N := some 19) (v := ?_) (a' := ?_) #[true, true, true, true, true, true, true, true, true, true, true, true, true, true, false, false, false, false, false] rfl rfl (any_of HT_.out kr) (fun _ _ _ h => h) (Or.inl ⟨by rfl, ?_⟩) ?_ ?_
    rotate_left
    ·intro w'
     go_simp
     with_reducible rfl
    rotate_left
    ·simp only [Act.put, List.setIfInBounds_toArray, List.set_cons_zero, List.set_cons_succ, i64_w, i32_w]
     rfl
    refine pure_ (i := 14) (N := some 20) (v := ?_) (a' := ?_) #[true, true, true, true, true, true, true, true, true, true, true, true, true, true, true, false, false, false, false] rfl rfl (any_of HT_.out kr) (fun _ _ _ h => h) (Or.inl ⟨by rfl, ?_⟩) ?_ ?_
    rotate_left
    ·intro w'
     go_simp
     with_reducible rfl
    rotate_left
    ·simp only [Act.put, List.setIfInBounds_toArray, List.set_cons_zero, List.set_cons_succ, i64_w, i32_w]
     rfl
    refine take_ (i := 15) (N := some 21) (v := ?_) (a' := ?_) #[true, true, true, true, true, true, true, true, true, true, true, true, true, true, true, true, false, false, false] rfl rfl (take_ofW HT_.out HW_.out kr) (fun _ _ _ h => h) (Or.inl ⟨by rfl, ?_⟩) bxs ?_ ?_
    rotate_left
    ·intro w' hS
     go_simp
     with_reducible rfl
    rotate_left
    ·simp only [Act.put, List.setIfInBounds_toArray, List.set_cons_zero, List.set_cons_succ, i64_w, i32_w]
     rfl
    refine one_ (i := 16) (N := some 22) #[true, true, true, true, true, true, true, true, true, true, true, true, true, true, true, true, true, false, false] rfl rfl (one_of HT_.out kr) (by decide) (fun K hK => ?_)
    refine goes_ Tryd.func16 kr rfl #[.agg #[.int .i64 t561, .int .i64 t562, .int .i64 t563, .string t564, .bool t565, .int .i64 t566]] (by rfl) rfl rfl ga ?_
    with_reducible refine (value_Right.calls k t561 t562 t563 t564 t565 t566 t575 _ A9.out).mono ?_
    rintro e w19 ⟨rfl, hb⟩
    refine ⟨_, rfl, ?_⟩
    replace BX := bx_call hb
    clear hb
    refine hK.out _ _ bxs (fun hHeld => ?_)
    clear hK K hHeld
    refine norm_ (a' := ?_) ?_ ?_
    rotate_left
    ·show Act.put _ (some 22) _ = _
     simp only [Act.put, List.setIfInBounds_toArray, List.set_cons_zero, List.set_cons_succ, i64_w, i32_w]
     rfl
    refine pure_ (i := 17) (N := some 23) (v := ?_) (a' := ?_) #[true, true, true, true, true, true, true, true, true, true, true, true, true, true, true, true, true, true, false] rfl rfl (any_of HT_.out kr) (fun _ _ _ h => h) (Or.inl ⟨by rfl, ?_⟩) ?_ ?_
    rotate_left
    ·intro w'
     go_simp
     with_reducible rfl
    rotate_left
    ·simp only [Act.put, List.setIfInBounds_toArray, List.set_cons_zero, List.set_cons_succ, i64_w, i32_w]
     rfl
    refine pure_ (i := 18) (N := some 0) (v := ?_) (a' := ?_) #[true, true, true, true, true, true, true, true, true, true, true, true, true, true, true, true, true, true, true] rfl rfl (any_of HT_.out kr) (fun _ _ _ h => h) (Or.inl ⟨by rfl, ?_⟩) ?_ ?_
    rotate_left
    ·intro w'
     go_simp
     with_reducible rfl
    rotate_left
    ·simp only [Act.put, List.setIfInBounds_toArray, List.set_cons_zero, List.set_cons_succ, i64_w, i32_w]
     rfl
    refine done_ (done_of HT_.out kr) ?_
    try go_wp2
    go_ret
    exact ⟨er2, bx_bl⟩
   ·rw [if_neg c8] at H
    have c8b0 : (t569 == t561 && ((t570 == t562 && (t571 == t563)) && (t572.toList == t564.toList && (t573 == t565 && (t574 == t566))))) = false := by simpa using c8
    (try (have c8b1 : decide (t569 = t561 && ((t570 == t562 && (t571 == t563)) && (t572.toList == t564.toList && (t573 == t565 && (t574 == t566))))) = false := by simpa using c8))
    (try (have c8b2 : (t569 == t561 && ((t570 == t562 && (t571 == t563)) && (t572.toList == t564.toList && (t573 == t565 && (t574 == t566))))) = false := by simpa using c8))
    (try (have c8b3 : ¬ (t569 = t561 && ((t570 == t562 && (t571 == t563)) && (t572.toList == t564.toList && (t573 == t565 && (t574 == t566))))) := by simpa using c8))
    clear c8
    obtain rfl := Option.some.inj H
    go_enter Tryd.func15, Tryd.ntmps15
    try go_wp2_with (first | ((with_reducible refine gate_callee (f := 19) rfl ?_); refine goesL_ (some 3) rfl rfl Tryd.func19 kr rfl #[.agg #[.int .i64 1, .int .i64 1]] rfl ga ?_; (with_reducible refine (value_Number.calls k 1 1 t549 t550 t551 t552 t553 t554 _ A1.out).mono ?_); rintro e w20 ⟨rfl, hb⟩; refine ⟨_, rfl, ?_⟩; replace BX := bx_call hb; clear hb) | ((with_reducible refine gate_callee (f := 21) rfl ?_); refine goesL_ (some 4) rfl rfl Tryd.func21 kr rfl #[.string (⟨#[50]⟩ : ByteArray)] rfl ga ?_; (with_reducible refine (value_Text.calls k (⟨#[50]⟩ : ByteArray) t555 t556 t557 t558 t559 t560 _ A2.out).mono ?_); rintro e w21 ⟨rfl, hb⟩; refine ⟨_, rfl, ?_⟩; replace BX := bx_call hb; clear hb) | ((with_reducible refine gate_callee (f := 31) rfl ?_); refine goesL_ (some 5) rfl rfl Tryd.func31 kr rfl #[.int .i64 11, .agg #[.int .i64 t549, .int .i64 t550, .int .i64 t551, .string t552, .bool t553, .int .i64 t554], .agg #[.int .i64 t555, .int .i64 t556, .int .i64 t557, .string t558, .bool t559, .int .i64 t560]] rfl ga ?_; (with_reducible refine (value_Bin.calls k 11 t549 t550 t551 t552 t553 t554 t555 t556 t557 t558 t559 t560 t561 t562 t563 t564 t565 t566 _ ?side1 A3.out).mono ?_); (case side1 => exact HT.out.on bx_bl); rintro e w22 ⟨rfl, hb⟩; refine ⟨_, rfl, ?_⟩; replace BX := bx_call hb; clear hb) | ((with_reducible refine gate_dst (N := 1) rfl ?_); refine bxe 1 #[.int .i64 0, .int .i64 0, .int .i64 0, .string (⟨#[]⟩ : ByteArray), .bool false, .int .i64 0] 25 rfl rfl gr ?_; clear BX; intro gb567 w23 GE567 BX))
    replace BX : Bx w ((((((w23.setCell ⟨gb567, 0, none⟩ (.int .i64 t561)).setCell ⟨gb567, 1, none⟩ (.int .i64 t562)).setCell ⟨gb567, 2, none⟩ (.int .i64 t563)).setCell ⟨gb567, 3, none⟩ (.string t564)).setCell ⟨gb567, 4, none⟩ (.bool t565)).setCell ⟨gb567, 5, none⟩ (.int .i64 t566)) _ := bxi
    generalize ((((((w23.setCell ⟨gb567, 0, none⟩ (.int .i64 t561)).setCell ⟨gb567, 1, none⟩ (.int .i64 t562)).setCell ⟨gb567, 2, none⟩ (.int .i64 t563)).setCell ⟨gb567, 3, none⟩ (.string t564)).setCell ⟨gb567, 4, none⟩ (.bool t565)).setCell ⟨gb567, 5, none⟩ (.int .i64 t566)) = w25 at BX ⊢
    refine startm [true] (n := 19) (ds := []) #[false, false, false, false, false, false, false, false, false, false, false, false, false, false, false, false, false, false, false] kr rfl rfl (fun BX1 => ?_); refine with_tabW whittlelaw2_able.tab2 whittlelaw2_able.bits2 (fun HT_ HW_ => ?_)
    clear BX
    have BX := BX1
    clear BX1
    generalize w25.drew = w26 at BX ⊢
    refine pure_ (i := 1) (N := some 7) (v := ?_) (a' := ?_) #[false, true, false, false, false, false, false, false, false, false, false, false, false, false, false, false, false, false, false] rfl rfl (any_of HT_.out kr) (fun _ _ _ h => h) (Or.inl ⟨by rfl, ?_⟩) ?_ ?_
    rotate_left
    ·intro w'
     go_simp
     with_reducible rfl
    rotate_left
    ·simp only [Act.put, List.setIfInBounds_toArray, List.set_cons_zero, List.set_cons_succ, i64_w, i32_w]
     rfl
    refine pure_ (i := 2) (N := some 8) (v := ?_) (a' := ?_) #[false, true, true, false, false, false, false, false, false, false, false, false, false, false, false, false, false, false, false] rfl rfl (any_of HT_.out kr) (fun _ _ _ h => h) (Or.inl ⟨by rfl, ?_⟩) ?_ ?_
    rotate_left
    ·intro w'
     go_simp
     with_reducible rfl
    rotate_left
    ·simp only [Act.put, List.setIfInBounds_toArray, List.set_cons_zero, List.set_cons_succ, i64_w, i32_w]
     rfl
    refine take_ (i := 0) (N := some 6) (v := ?_) (a' := ?_) #[true, true, true, false, false, false, false, false, false, false, false, false, false, false, false, false, false, false, false] rfl rfl (take_ofW HT_.out HW_.out kr) (fun _ _ _ h => h) (Or.inl ⟨by rfl, ?_⟩) bxs ?_ ?_
    rotate_left
    ·intro w' hS
     go_simp
     with_reducible rfl
    rotate_left
    ·simp only [Act.put, List.setIfInBounds_toArray, List.set_cons_zero, List.set_cons_succ, i64_w, i32_w]
     rfl
    refine pure_ (i := 3) (N := some 9) (v := ?_) (a' := ?_) #[true, true, true, true, false, false, false, false, false, false, false, false, false, false, false, false, false, false, false] rfl rfl (any_of HT_.out kr) (fun _ _ _ h => h) (Or.inl ⟨by rfl, ?_⟩) ?_ ?_
    rotate_left
    ·intro w'
     go_simp
     with_reducible rfl
    rotate_left
    ·simp only [Act.put, List.setIfInBounds_toArray, List.set_cons_zero, List.set_cons_succ, i64_w, i32_w]
     rfl
    refine pure_ (i := 4) (N := some 10) (v := ?_) (a' := ?_) #[true, true, true, true, true, false, false, false, false, false, false, false, false, false, false, false, false, false, false] rfl rfl (any_of HT_.out kr) (fun _ _ _ h => h) (Or.inl ⟨by rfl, ?_⟩) ?_ ?_
    rotate_left
    ·intro w'
     go_simp
     with_reducible rfl
    rotate_left
    ·simp only [Act.put, List.setIfInBounds_toArray, List.set_cons_zero, List.set_cons_succ, i64_w, i32_w]
     rfl
    refine take_ (i := 5) (N := some 11) (v := ?_) (a' := ?_) #[true, true, true, true, true, true, false, false, false, false, false, false, false, false, false, false, false, false, false] rfl rfl (take_ofW HT_.out HW_.out kr) (fun _ _ _ h => h) (Or.inl ⟨by rfl, ?_⟩) bxs ?_ ?_
    rotate_left
    ·intro w' hS
     go_simp
     with_reducible rfl
    rotate_left
    ·simp only [Act.put, List.setIfInBounds_toArray, List.set_cons_zero, List.set_cons_succ, i64_w, i32_w]
     rfl
    refine one_ (i := 6) (N := some 12) #[true, true, true, true, true, true, true, false, false, false, false, false, false, false, false, false, false, false, false] rfl rfl (one_of HT_.out kr) (by decide) (fun K hK => ?_)
    refine goes_ Tryd.func29 kr rfl #[.agg #[.int .i64 t561, .int .i64 t562, .int .i64 t563, .string t564, .bool t565, .int .i64 t566]] (by rfl) rfl rfl ga ?_
    with_reducible refine (value_Show.calls k t561 t562 t563 t564 t565 t566 t568 _ ?side1 A5.out).mono ?_
    (case side1 => exact HT.out.on bx_bl)
    rintro e w27 ⟨rfl, hb⟩
    refine ⟨_, rfl, ?_⟩
    replace BX := bx_call hb
    clear hb
    refine hK.out _ _ bxs (fun hHeld => ?_)
    clear hK K hHeld
    refine norm_ (a' := ?_) ?_ ?_
    rotate_left
    ·show Act.put _ (some 12) _ = _
     simp only [Act.put, List.setIfInBounds_toArray, List.set_cons_zero, List.set_cons_succ, i64_w, i32_w]
     rfl
    refine pure_ (i := 7) (N := some 13) (v := ?_) (a' := ?_) #[true, true, true, true, true, true, true, true, false, false, false, false, false, false, false, false, false, false, false] rfl rfl (any_of HT_.out kr) (fun _ _ _ h => h) (Or.inl ⟨by rfl, ?_⟩) ?_ ?_
    rotate_left
    ·intro w'
     go_simp
     with_reducible rfl
    rotate_left
    ·simp only [Act.put, List.setIfInBounds_toArray, List.set_cons_zero, List.set_cons_succ, i64_w, i32_w]
     rfl
    refine pure_ (i := 8) (N := some 14) (v := ?_) (a' := ?_) #[true, true, true, true, true, true, true, true, true, false, false, false, false, false, false, false, false, false, false] rfl rfl (any_of HT_.out kr) (fun _ _ _ h => h) (Or.inl ⟨by rfl, ?_⟩) ?_ ?_
    rotate_left
    ·intro w'
     go_simp
     with_reducible rfl
    rotate_left
    ·simp only [Act.put, List.setIfInBounds_toArray, List.set_cons_zero, List.set_cons_succ, i64_w, i32_w]
     rfl
    refine pure_ (i := 9) (N := some 15) (v := ?_) (a' := ?_) #[true, true, true, true, true, true, true, true, true, true, false, false, false, false, false, false, false, false, false] rfl rfl (any_of HT_.out kr) (fun _ _ _ h => h) (Or.inl ⟨by rfl, ?_⟩) ?_ ?_
    rotate_left
    ·intro w'
     go_simp
     with_reducible rfl
    rotate_left
    ·simp only [Act.put, List.setIfInBounds_toArray, List.set_cons_zero, List.set_cons_succ, i64_w, i32_w]
     rfl
    refine take_ (i := 11) (N := some 17) (v := ?_) (a' := ?_) #[true, true, true, true, true, true, true, true, true, true, false, true, false, false, false, false, false, false, false] rfl rfl (take_ofW HT_.out HW_.out kr) (fun _ _ _ h => h) (Or.inl ⟨by rfl, ?_⟩) bxs ?_ ?_
    rotate_left
    ·intro w' hS
     go_simp
     with_reducible rfl
    rotate_left
    ·simp only [Act.put, List.setIfInBounds_toArray, List.set_cons_zero, List.set_cons_succ, i64_w, i32_w]
     rfl
    refine one_ (i := 10) (N := some 16) #[true, true, true, true, true, true, true, true, true, true, true, true, false, false, false, false, false, false, false] rfl rfl (one_of HT_.out kr) (by decide) (fun K hK => ?_)
    refine goes_ Tryd.func27 kr rfl #[.string (⟨#[51]⟩ : ByteArray)] (by rfl) rfl rfl ga ?_
    with_reducible refine (value_Read.calls k (⟨#[51]⟩ : ByteArray) t569 t570 t571 t572 t573 t574 _ ?side1 A7.out).mono ?_
    (case side1 => exact HT.out.on bx_bl)
    rintro e w28 ⟨rfl, hb⟩
    refine ⟨_, rfl, ?_⟩
    replace BX := bx_call hb
    clear hb
    refine hK.out _ _ bxs (fun hHeld => ?_)
    clear hK K hHeld
    refine norm_ (a' := ?_) ?_ ?_
    rotate_left
    ·show Act.put _ (some 16) _ = _
     simp only [Act.put, List.setIfInBounds_toArray, List.set_cons_zero, List.set_cons_succ, i64_w, i32_w]
     rfl
    refine pure_ (i := 12) (N := some 18) (v := ?_) (a' := ?_) #[true, true, true, true, true, true, true, true, true, true, true, true, true, false, false, false, false, false, false] rfl rfl (any_of HT_.out kr) (fun _ _ _ h => h) (Or.inl ⟨by rfl, ?_⟩) ?_ ?_
    rotate_left
    ·intro w'
     go_simp
     with_reducible rfl
    rotate_left
    ·simp only [Act.put, List.setIfInBounds_toArray, List.set_cons_zero, List.set_cons_succ, i64_w, i32_w]
     rfl
    refine pure_ (i := 13) (N := some 19) (v := ?_) (a' := ?_) #[true, true, true, true, true, true, true, true, true, true, true, true, true, true, false, false, false, false, false] rfl rfl (any_of HT_.out kr) (fun _ _ _ h => h) (Or.inl ⟨by rfl, ?_⟩) ?_ ?_
    rotate_left
    ·intro w'
     go_simp
     with_reducible rfl
    rotate_left
    ·simp only [Act.put, List.setIfInBounds_toArray, List.set_cons_zero, List.set_cons_succ, i64_w, i32_w]
     rfl
    refine pure_ (i := 14) (N := some 20) (v := ?_) (a' := ?_) #[true, true, true, true, true, true, true, true, true, true, true, true, true, true, true, false, false, false, false] rfl rfl (any_of HT_.out kr) (fun _ _ _ h => h) (Or.inl ⟨by rfl, ?_⟩) ?_ ?_
    rotate_left
    ·intro w'
     go_simp
     with_reducible rfl
    rotate_left
    ·simp only [Act.put, List.setIfInBounds_toArray, List.set_cons_zero, List.set_cons_succ, i64_w, i32_w]
     rfl
    refine pure_ (i := 15) (N := some 21) (v := undef) (a' := ?_) #[true, true, true, true, true, true, true, true, true, true, true, true, true, true, true, true, false, false, false] rfl rfl (any_of HT_.out kr) (fun _ _ _ h => h) (Or.inr ⟨by rfl, rfl⟩) ?_ ?_
    rotate_left
    ·simp only [Act.put, List.setIfInBounds_toArray, List.set_cons_zero, List.set_cons_succ, i64_w, i32_w]
     rfl
    refine pure_ (i := 16) (N := some 22) (v := undef) (a' := ?_) #[true, true, true, true, true, true, true, true, true, true, true, true, true, true, true, true, true, false, false] rfl rfl (any_of HT_.out kr) (fun _ _ _ h => h) (Or.inr ⟨by rfl, rfl⟩) ?_ ?_
    rotate_left
    ·simp only [Act.put, List.setIfInBounds_toArray, List.set_cons_zero, List.set_cons_succ, i64_w, i32_w]
     rfl
    refine pure_ (i := 17) (N := some 23) (v := ?_) (a' := ?_) #[true, true, true, true, true, true, true, true, true, true, true, true, true, true, true, true, true, true, false] rfl rfl (any_of HT_.out kr) (fun _ _ _ h => h) (Or.inl ⟨by rfl, ?_⟩) ?_ ?_
    rotate_left
    ·intro w'
     go_simp
     with_reducible rfl
    rotate_left
    ·simp only [Act.put, List.setIfInBounds_toArray, List.set_cons_zero, List.set_cons_succ, i64_w, i32_w]
     rfl
    refine pure_ (i := 18) (N := some 0) (v := ?_) (a' := ?_) #[true, true, true, true, true, true, true, true, true, true, true, true, true, true, true, true, true, true, true] rfl rfl (any_of HT_.out kr) (fun _ _ _ h => h) (Or.inl ⟨by rfl, ?_⟩) ?_ ?_
    rotate_left
    ·intro w'
     go_simp
     with_reducible rfl
    rotate_left
    ·simp only [Act.put, List.setIfInBounds_toArray, List.set_cons_zero, List.set_cons_succ, i64_w, i32_w]
     rfl
    refine done_ (done_of HT_.out kr) ?_
    try go_wp2
    go_ret
    exact ⟨er2, bx_bl⟩
  ·rw [if_neg c6] at H
   have c6b0 : (t568.toList == ([51] : List UInt8)) = false := beq_eq_false_iff_ne.mpr c6
   have c6b1 : (t568.toList != ([51] : List UInt8)) = true := bne_iff_ne.mpr c6
   obtain rfl := Option.some.inj H
   go_enter Tryd.func15, Tryd.ntmps15
   try go_wp2_with (first | ((with_reducible refine gate_callee (f := 19) rfl ?_); refine goesL_ (some 3) rfl rfl Tryd.func19 kr rfl #[.agg #[.int .i64 1, .int .i64 1]] rfl ga ?_; (with_reducible refine (value_Number.calls k 1 1 t549 t550 t551 t552 t553 t554 _ A1.out).mono ?_); rintro e w29 ⟨rfl, hb⟩; refine ⟨_, rfl, ?_⟩; replace BX := bx_call hb; clear hb) | ((with_reducible refine gate_callee (f := 21) rfl ?_); refine goesL_ (some 4) rfl rfl Tryd.func21 kr rfl #[.string (⟨#[50]⟩ : ByteArray)] rfl ga ?_; (with_reducible refine (value_Text.calls k (⟨#[50]⟩ : ByteArray) t555 t556 t557 t558 t559 t560 _ A2.out).mono ?_); rintro e w30 ⟨rfl, hb⟩; refine ⟨_, rfl, ?_⟩; replace BX := bx_call hb; clear hb) | ((with_reducible refine gate_callee (f := 31) rfl ?_); refine goesL_ (some 5) rfl rfl Tryd.func31 kr rfl #[.int .i64 11, .agg #[.int .i64 t549, .int .i64 t550, .int .i64 t551, .string t552, .bool t553, .int .i64 t554], .agg #[.int .i64 t555, .int .i64 t556, .int .i64 t557, .string t558, .bool t559, .int .i64 t560]] rfl ga ?_; (with_reducible refine (value_Bin.calls k 11 t549 t550 t551 t552 t553 t554 t555 t556 t557 t558 t559 t560 t561 t562 t563 t564 t565 t566 _ ?side1 A3.out).mono ?_); (case side1 => exact HT.out.on bx_bl); rintro e w31 ⟨rfl, hb⟩; refine ⟨_, rfl, ?_⟩; replace BX := bx_call hb; clear hb) | ((with_reducible refine gate_dst (N := 1) rfl ?_); refine bxe 1 #[.int .i64 0, .int .i64 0, .int .i64 0, .string (⟨#[]⟩ : ByteArray), .bool false, .int .i64 0] 25 rfl rfl gr ?_; clear BX; intro gb567 w32 GE567 BX))
   replace BX : Bx w ((((((w32.setCell ⟨gb567, 0, none⟩ (.int .i64 t561)).setCell ⟨gb567, 1, none⟩ (.int .i64 t562)).setCell ⟨gb567, 2, none⟩ (.int .i64 t563)).setCell ⟨gb567, 3, none⟩ (.string t564)).setCell ⟨gb567, 4, none⟩ (.bool t565)).setCell ⟨gb567, 5, none⟩ (.int .i64 t566)) _ := bxi
   generalize ((((((w32.setCell ⟨gb567, 0, none⟩ (.int .i64 t561)).setCell ⟨gb567, 1, none⟩ (.int .i64 t562)).setCell ⟨gb567, 2, none⟩ (.int .i64 t563)).setCell ⟨gb567, 3, none⟩ (.string t564)).setCell ⟨gb567, 4, none⟩ (.bool t565)).setCell ⟨gb567, 5, none⟩ (.int .i64 t566)) = w34 at BX ⊢
   refine startm [true] (n := 19) (ds := []) #[false, false, false, false, false, false, false, false, false, false, false, false, false, false, false, false, false, false, false] kr rfl rfl (fun BX1 => ?_); refine with_tabW whittlelaw2_able.tab2 whittlelaw2_able.bits2 (fun HT_ HW_ => ?_)
   clear BX
   have BX := BX1
   clear BX1
   generalize w34.drew = w35 at BX ⊢
   refine pure_ (i := 1) (N := some 7) (v := ?_) (a' := ?_) #[false, true, false, false, false, false, false, false, false, false, false, false, false, false, false, false, false, false, false] rfl rfl (any_of HT_.out kr) (fun _ _ _ h => h) (Or.inl ⟨by rfl, ?_⟩) ?_ ?_
   rotate_left
   ·intro w'
    go_simp
    with_reducible rfl
   rotate_left
   ·simp only [Act.put, List.setIfInBounds_toArray, List.set_cons_zero, List.set_cons_succ, i64_w, i32_w]
    rfl
   refine pure_ (i := 2) (N := some 8) (v := ?_) (a' := ?_) #[false, true, true, false, false, false, false, false, false, false, false, false, false, false, false, false, false, false, false] rfl rfl (any_of HT_.out kr) (fun _ _ _ h => h) (Or.inl ⟨by rfl, ?_⟩) ?_ ?_
   rotate_left
   ·intro w'
    go_simp
    with_reducible rfl
   rotate_left
   ·simp only [Act.put, List.setIfInBounds_toArray, List.set_cons_zero, List.set_cons_succ, i64_w, i32_w]
    rfl
   refine take_ (i := 0) (N := some 6) (v := ?_) (a' := ?_) #[true, true, true, false, false, false, false, false, false, false, false, false, false, false, false, false, false, false, false] rfl rfl (take_ofW HT_.out HW_.out kr) (fun _ _ _ h => h) (Or.inl ⟨by rfl, ?_⟩) bxs ?_ ?_
   rotate_left
   ·intro w' hS
    go_simp
    with_reducible rfl
   rotate_left
   ·simp only [Act.put, List.setIfInBounds_toArray, List.set_cons_zero, List.set_cons_succ, i64_w, i32_w]
    rfl
   refine pure_ (i := 3) (N := some 9) (v := ?_) (a' := ?_) #[true, true, true, true, false, false, false, false, false, false, false, false, false, false, false, false, false, false, false] rfl rfl (any_of HT_.out kr) (fun _ _ _ h => h) (Or.inl ⟨by rfl, ?_⟩) ?_ ?_
   rotate_left
   ·intro w'
    go_simp
    with_reducible rfl
   rotate_left
   ·simp only [Act.put, List.setIfInBounds_toArray, List.set_cons_zero, List.set_cons_succ, i64_w, i32_w]
    rfl
   refine pure_ (i := 4) (N := some 10) (v := ?_) (a' := ?_) #[true, true, true, true, true, false, false, false, false, false, false, false, false, false, false, false, false, false, false] rfl rfl (any_of HT_.out kr) (fun _ _ _ h => h) (Or.inl ⟨by rfl, ?_⟩) ?_ ?_
   rotate_left
   ·intro w'
    go_simp
    with_reducible rfl
   rotate_left
   ·simp only [Act.put, List.setIfInBounds_toArray, List.set_cons_zero, List.set_cons_succ, i64_w, i32_w]
    rfl
   refine take_ (i := 5) (N := some 11) (v := ?_) (a' := ?_) #[true, true, true, true, true, true, false, false, false, false, false, false, false, false, false, false, false, false, false] rfl rfl (take_ofW HT_.out HW_.out kr) (fun _ _ _ h => h) (Or.inl ⟨by rfl, ?_⟩) bxs ?_ ?_
   rotate_left
   ·intro w' hS
    go_simp
    with_reducible rfl
   rotate_left
   ·simp only [Act.put, List.setIfInBounds_toArray, List.set_cons_zero, List.set_cons_succ, i64_w, i32_w]
    rfl
   refine one_ (i := 6) (N := some 12) #[true, true, true, true, true, true, true, false, false, false, false, false, false, false, false, false, false, false, false] rfl rfl (one_of HT_.out kr) (by decide) (fun K hK => ?_)
   refine goes_ Tryd.func29 kr rfl #[.agg #[.int .i64 t561, .int .i64 t562, .int .i64 t563, .string t564, .bool t565, .int .i64 t566]] (by rfl) rfl rfl ga ?_
   with_reducible refine (value_Show.calls k t561 t562 t563 t564 t565 t566 t568 _ ?side1 A5.out).mono ?_
   (case side1 => exact HT.out.on bx_bl)
   rintro e w36 ⟨rfl, hb⟩
   refine ⟨_, rfl, ?_⟩
   replace BX := bx_call hb
   clear hb
   refine hK.out _ _ bxs (fun hHeld => ?_)
   clear hK K hHeld
   refine norm_ (a' := ?_) ?_ ?_
   rotate_left
   ·show Act.put _ (some 12) _ = _
    simp only [Act.put, List.setIfInBounds_toArray, List.set_cons_zero, List.set_cons_succ, i64_w, i32_w]
    rfl
   refine pure_ (i := 7) (N := some 13) (v := ?_) (a' := ?_) #[true, true, true, true, true, true, true, true, false, false, false, false, false, false, false, false, false, false, false] rfl rfl (any_of HT_.out kr) (fun _ _ _ h => h) (Or.inl ⟨by rfl, ?_⟩) ?_ ?_
   rotate_left
   ·intro w'
    go_simp
    with_reducible rfl
   rotate_left
   ·simp only [Act.put, List.setIfInBounds_toArray, List.set_cons_zero, List.set_cons_succ, i64_w, i32_w]
    rfl
   refine pure_ (i := 8) (N := some 14) (v := ?_) (a' := ?_) #[true, true, true, true, true, true, true, true, true, false, false, false, false, false, false, false, false, false, false] rfl rfl (any_of HT_.out kr) (fun _ _ _ h => h) (Or.inl ⟨by rfl, ?_⟩) ?_ ?_
   rotate_left
   ·intro w'
    go_simp
    with_reducible rfl
   rotate_left
   ·simp only [Act.put, List.setIfInBounds_toArray, List.set_cons_zero, List.set_cons_succ, i64_w, i32_w]
    rfl
   refine pure_ (i := 9) (N := some 15) (v := ?_) (a' := ?_) #[true, true, true, true, true, true, true, true, true, true, false, false, false, false, false, false, false, false, false] rfl rfl (any_of HT_.out kr) (fun _ _ _ h => h) (Or.inl ⟨by rfl, ?_⟩) ?_ ?_
   rotate_left
   ·intro w'
    go_simp
    with_reducible rfl
   rotate_left
   ·simp only [Act.put, List.setIfInBounds_toArray, List.set_cons_zero, List.set_cons_succ, i64_w, i32_w]
    rfl
   refine pure_ (i := 10) (N := some 16) (v := undef) (a' := ?_) #[true, true, true, true, true, true, true, true, true, true, true, false, false, false, false, false, false, false, false] rfl rfl (any_of HT_.out kr) (fun _ _ _ h => h) (Or.inr ⟨by rfl, rfl⟩) ?_ ?_
   rotate_left
   ·simp only [Act.put, List.setIfInBounds_toArray, List.set_cons_zero, List.set_cons_succ, i64_w, i32_w]
    rfl
   refine pure_ (i := 11) (N := some 17) (v := undef) (a' := ?_) #[true, true, true, true, true, true, true, true, true, true, true, true, false, false, false, false, false, false, false] rfl rfl (any_of HT_.out kr) (fun _ _ _ h => h) (Or.inr ⟨by rfl, rfl⟩) ?_ ?_
   rotate_left
   ·simp only [Act.put, List.setIfInBounds_toArray, List.set_cons_zero, List.set_cons_succ, i64_w, i32_w]
    rfl
   refine pure_ (i := 12) (N := some 18) (v := undef) (a' := ?_) #[true, true, true, true, true, true, true, true, true, true, true, true, true, false, false, false, false, false, false] rfl rfl (any_of HT_.out kr) (fun _ _ _ h => h) (Or.inr ⟨by rfl, rfl⟩) ?_ ?_
   rotate_left
   ·simp only [Act.put, List.setIfInBounds_toArray, List.set_cons_zero, List.set_cons_succ, i64_w, i32_w]
    rfl
   refine pure_ (i := 13) (N := some 19) (v := ?_) (a' := ?_) #[true, true, true, true, true, true, true, true, true, true, true, true, true, true, false, false, false, false, false] rfl rfl (any_of HT_.out kr) (fun _ _ _ h => h) (Or.inl ⟨by rfl, ?_⟩) ?_ ?_
   rotate_left
   ·intro w'
    go_simp
    with_reducible rfl
   rotate_left
   ·simp only [Act.put, List.setIfInBounds_toArray, List.set_cons_zero, List.set_cons_succ, i64_w, i32_w]
    rfl
   refine pure_ (i := 14) (N := some 20) (v := ?_) (a' := ?_) #[true, true, true, true, true, true, true, true, true, true, true, true, true, true, true, false, false, false, false] rfl rfl (any_of HT_.out kr) (fun _ _ _ h => h) (Or.inl ⟨by rfl, ?_⟩) ?_ ?_
   rotate_left
   ·intro w'
    go_simp
    with_reducible rfl
   rotate_left
   ·simp only [Act.put, List.setIfInBounds_toArray, List.set_cons_zero, List.set_cons_succ, i64_w, i32_w]
    rfl
   refine pure_ (i := 15) (N := some 21) (v := undef) (a' := ?_) #[true, true, true, true, true, true, true, true, true, true, true, true, true, true, true, true, false, false, false] rfl rfl (any_of HT_.out kr) (fun _ _ _ h => h) (Or.inr ⟨by rfl, rfl⟩) ?_ ?_
   rotate_left
   ·simp only [Act.put, List.setIfInBounds_toArray, List.set_cons_zero, List.set_cons_succ, i64_w, i32_w]
    rfl
   refine pure_ (i := 16) (N := some 22) (v := undef) (a' := ?_) #[true, true, true, true, true, true, true, true, true, true, true, true, true, true, true, true, true, false, false] rfl rfl (any_of HT_.out kr) (fun _ _ _ h => h) (Or.inr ⟨by rfl, rfl⟩) ?_ ?_
   rotate_left
   ·simp only [Act.put, List.setIfInBounds_toArray, List.set_cons_zero, List.set_cons_succ, i64_w, i32_w]
    rfl
   refine pure_ (i := 17) (N := some 23) (v := ?_) (a' := ?_) #[true, true, true, true, true, true, true, true, true, true, true, true, true, true, true, true, true, true, false] rfl rfl (any_of HT_.out kr) (fun _ _ _ h => h) (Or.inl ⟨by rfl, ?_⟩) ?_ ?_
   rotate_left
   ·intro w'
    go_simp
    with_reducible rfl
   rotate_left
   ·simp only [Act.put, List.setIfInBounds_toArray, List.set_cons_zero, List.set_cons_succ, i64_w, i32_w]
    rfl
   refine pure_ (i := 18) (N := some 0) (v := ?_) (a' := ?_) #[true, true, true, true, true, true, true, true, true, true, true, true, true, true, true, true, true, true, true] rfl rfl (any_of HT_.out kr) (fun _ _ _ h => h) (Or.inl ⟨by rfl, ?_⟩) ?_ ?_
   rotate_left
   ·intro w'
    go_simp
    with_reducible rfl
   rotate_left
   ·simp only [Act.put, List.setIfInBounds_toArray, List.set_cons_zero, List.set_cons_succ, i64_w, i32_w]
    rfl
   refine done_ (done_of HT_.out kr) ?_
   try go_wp2
   go_ret
   exact ⟨er2, bx_bl⟩
 ·rw [if_neg c4] at H
  have c4b0 : (t561 == 1 && ((t562 == 3 && (t563 == 1)) && (t564.toList == ([] : List UInt8) && (!t565 && (t566 == 0))))) = false := by simpa using c4
  have c4be : (t561 == 1 && ((t562 == 3 && (t563 == 1)) && (t564.toList.isEmpty && (!t565 && (t566 == 0))))) = false := by have h_ := c4b0; simp only [beq_nil] at h_; exact h_
  (try (have c4b1 : decide (t561 = 1 && ((t562 == 3 && (t563 == 1)) && (t564.toList == ([] : List UInt8) && (!t565 && (t566 == 0))))) = false := by simpa using c4))
  (try (have c4b2 : (t561 == 1 && ((t562 == 3 && (t563 == 1)) && (t564.toList == ([] : List UInt8) && (!t565 && (t566 == 0))))) = false := by simpa using c4))
  (try (have c4b3 : ¬ (t561 = 1 && ((t562 == 3 && (t563 == 1)) && (t564.toList == ([] : List UInt8) && (!t565 && (t566 == 0))))) := by simpa using c4))
  clear c4
  obtain rfl := Option.some.inj H
  go_enter Tryd.func15, Tryd.ntmps15
  try go_wp2_with (first | ((with_reducible refine gate_callee (f := 19) rfl ?_); refine goesL_ (some 3) rfl rfl Tryd.func19 kr rfl #[.agg #[.int .i64 1, .int .i64 1]] rfl ga ?_; (with_reducible refine (value_Number.calls k 1 1 t549 t550 t551 t552 t553 t554 _ A1.out).mono ?_); rintro e w37 ⟨rfl, hb⟩; refine ⟨_, rfl, ?_⟩; replace BX := bx_call hb; clear hb) | ((with_reducible refine gate_callee (f := 21) rfl ?_); refine goesL_ (some 4) rfl rfl Tryd.func21 kr rfl #[.string (⟨#[50]⟩ : ByteArray)] rfl ga ?_; (with_reducible refine (value_Text.calls k (⟨#[50]⟩ : ByteArray) t555 t556 t557 t558 t559 t560 _ A2.out).mono ?_); rintro e w38 ⟨rfl, hb⟩; refine ⟨_, rfl, ?_⟩; replace BX := bx_call hb; clear hb) | ((with_reducible refine gate_callee (f := 31) rfl ?_); refine goesL_ (some 5) rfl rfl Tryd.func31 kr rfl #[.int .i64 11, .agg #[.int .i64 t549, .int .i64 t550, .int .i64 t551, .string t552, .bool t553, .int .i64 t554], .agg #[.int .i64 t555, .int .i64 t556, .int .i64 t557, .string t558, .bool t559, .int .i64 t560]] rfl ga ?_; (with_reducible refine (value_Bin.calls k 11 t549 t550 t551 t552 t553 t554 t555 t556 t557 t558 t559 t560 t561 t562 t563 t564 t565 t566 _ ?side1 A3.out).mono ?_); (case side1 => exact HT.out.on bx_bl); rintro e w39 ⟨rfl, hb⟩; refine ⟨_, rfl, ?_⟩; replace BX := bx_call hb; clear hb) | ((with_reducible refine gate_dst (N := 1) rfl ?_); refine bxe 1 #[.int .i64 0, .int .i64 0, .int .i64 0, .string (⟨#[]⟩ : ByteArray), .bool false, .int .i64 0] 25 rfl rfl gr ?_; clear BX; intro gb567 w40 GE567 BX))
  replace BX : Bx w ((((((w40.setCell ⟨gb567, 0, none⟩ (.int .i64 t561)).setCell ⟨gb567, 1, none⟩ (.int .i64 t562)).setCell ⟨gb567, 2, none⟩ (.int .i64 t563)).setCell ⟨gb567, 3, none⟩ (.string t564)).setCell ⟨gb567, 4, none⟩ (.bool t565)).setCell ⟨gb567, 5, none⟩ (.int .i64 t566)) _ := bxi
  generalize ((((((w40.setCell ⟨gb567, 0, none⟩ (.int .i64 t561)).setCell ⟨gb567, 1, none⟩ (.int .i64 t562)).setCell ⟨gb567, 2, none⟩ (.int .i64 t563)).setCell ⟨gb567, 3, none⟩ (.string t564)).setCell ⟨gb567, 4, none⟩ (.bool t565)).setCell ⟨gb567, 5, none⟩ (.int .i64 t566)) = w42 at BX ⊢
  refine startm [true] (n := 19) (ds := []) #[false, false, false, false, false, false, false, false, false, false, false, false, false, false, false, false, false, false, false] kr rfl rfl (fun BX1 => ?_); refine with_tabW whittlelaw2_able.tab2 whittlelaw2_able.bits2 (fun HT_ HW_ => ?_)
  clear BX
  have BX := BX1
  clear BX1
  generalize w42.drew = w43 at BX ⊢
  refine pure_ (i := 1) (N := some 7) (v := ?_) (a' := ?_) #[false, true, false, false, false, false, false, false, false, false, false, false, false, false, false, false, false, false, false] rfl rfl (any_of HT_.out kr) (fun _ _ _ h => h) (Or.inl ⟨by rfl, ?_⟩) ?_ ?_
  rotate_left
  ·intro w'
   go_simp
   with_reducible rfl
  rotate_left
  ·simp only [Act.put, List.setIfInBounds_toArray, List.set_cons_zero, List.set_cons_succ, i64_w, i32_w]
   rfl
  refine pure_ (i := 2) (N := some 8) (v := ?_) (a' := ?_) #[false, true, true, false, false, false, false, false, false, false, false, false, false, false, false, false, false, false, false] rfl rfl (any_of HT_.out kr) (fun _ _ _ h => h) (Or.inl ⟨by rfl, ?_⟩) ?_ ?_
  rotate_left
  ·intro w'
   go_simp
   with_reducible rfl
  rotate_left
  ·simp only [Act.put, List.setIfInBounds_toArray, List.set_cons_zero, List.set_cons_succ, i64_w, i32_w]
   rfl
  refine take_ (i := 0) (N := some 6) (v := ?_) (a' := ?_) #[true, true, true, false, false, false, false, false, false, false, false, false, false, false, false, false, false, false, false] rfl rfl (take_ofW HT_.out HW_.out kr) (fun _ _ _ h => h) (Or.inl ⟨by rfl, ?_⟩) bxs ?_ ?_
  rotate_left
  ·intro w' hS
   go_simp
   with_reducible rfl
  rotate_left
  ·simp only [Act.put, List.setIfInBounds_toArray, List.set_cons_zero, List.set_cons_succ, i64_w, i32_w]
   rfl
  refine pure_ (i := 3) (N := some 9) (v := ?_) (a' := ?_) #[true, true, true, true, false, false, false, false, false, false, false, false, false, false, false, false, false, false, false] rfl rfl (any_of HT_.out kr) (fun _ _ _ h => h) (Or.inl ⟨by rfl, ?_⟩) ?_ ?_
  rotate_left
  ·intro w'
   go_simp
   with_reducible rfl
  rotate_left
  ·simp only [Act.put, List.setIfInBounds_toArray, List.set_cons_zero, List.set_cons_succ, i64_w, i32_w]
   rfl
  refine pure_ (i := 4) (N := some 10) (v := ?_) (a' := ?_) #[true, true, true, true, true, false, false, false, false, false, false, false, false, false, false, false, false, false, false] rfl rfl (any_of HT_.out kr) (fun _ _ _ h => h) (Or.inl ⟨by rfl, ?_⟩) ?_ ?_
  rotate_left
  ·intro w'
   go_simp
   with_reducible rfl
  rotate_left
  ·simp only [Act.put, List.setIfInBounds_toArray, List.set_cons_zero, List.set_cons_succ, i64_w, i32_w]
   rfl
  refine pure_ (i := 5) (N := some 11) (v := undef) (a' := ?_) #[true, true, true, true, true, true, false, false, false, false, false, false, false, false, false, false, false, false, false] rfl rfl (any_of HT_.out kr) (fun _ _ _ h => h) (Or.inr ⟨by rfl, rfl⟩) ?_ ?_
  rotate_left
  ·simp only [Act.put, List.setIfInBounds_toArray, List.set_cons_zero, List.set_cons_succ, i64_w, i32_w]
   rfl
  refine pure_ (i := 6) (N := some 12) (v := undef) (a' := ?_) #[true, true, true, true, true, true, true, false, false, false, false, false, false, false, false, false, false, false, false] rfl rfl (any_of HT_.out kr) (fun _ _ _ h => h) (Or.inr ⟨by rfl, rfl⟩) ?_ ?_
  rotate_left
  ·simp only [Act.put, List.setIfInBounds_toArray, List.set_cons_zero, List.set_cons_succ, i64_w, i32_w]
   rfl
  refine pure_ (i := 7) (N := some 13) (v := undef) (a' := ?_) #[true, true, true, true, true, true, true, true, false, false, false, false, false, false, false, false, false, false, false] rfl rfl (any_of HT_.out kr) (fun _ _ _ h => h) (Or.inr ⟨by rfl, rfl⟩) ?_ ?_
  rotate_left
  ·simp only [Act.put, List.setIfInBounds_toArray, List.set_cons_zero, List.set_cons_succ, i64_w, i32_w]
   rfl
  refine pure_ (i := 8) (N := some 14) (v := ?_) (a' := ?_) #[true, true, true, true, true, true, true, true, true, false, false, false, false, false, false, false, false, false, false] rfl rfl (any_of HT_.out kr) (fun _ _ _ h => h) (Or.inl ⟨by rfl, ?_⟩) ?_ ?_
  rotate_left
  ·intro w'
   go_simp
   with_reducible rfl
  rotate_left
  ·simp only [Act.put, List.setIfInBounds_toArray, List.set_cons_zero, List.set_cons_succ, i64_w, i32_w]
   rfl
  refine pure_ (i := 9) (N := some 15) (v := ?_) (a' := ?_) #[true, true, true, true, true, true, true, true, true, true, false, false, false, false, false, false, false, false, false] rfl rfl (any_of HT_.out kr) (fun _ _ _ h => h) (Or.inl ⟨by rfl, ?_⟩) ?_ ?_
  rotate_left
  ·intro w'
   go_simp
   with_reducible rfl
  rotate_left
  ·simp only [Act.put, List.setIfInBounds_toArray, List.set_cons_zero, List.set_cons_succ, i64_w, i32_w]
   rfl
  refine pure_ (i := 10) (N := some 16) (v := undef) (a' := ?_) #[true, true, true, true, true, true, true, true, true, true, true, false, false, false, false, false, false, false, false] rfl rfl (any_of HT_.out kr) (fun _ _ _ h => h) (Or.inr ⟨by rfl, rfl⟩) ?_ ?_
  rotate_left
  ·simp only [Act.put, List.setIfInBounds_toArray, List.set_cons_zero, List.set_cons_succ, i64_w, i32_w]
   rfl
  refine pure_ (i := 11) (N := some 17) (v := undef) (a' := ?_) #[true, true, true, true, true, true, true, true, true, true, true, true, false, false, false, false, false, false, false] rfl rfl (any_of HT_.out kr) (fun _ _ _ h => h) (Or.inr ⟨by rfl, rfl⟩) ?_ ?_
  rotate_left
  ·simp only [Act.put, List.setIfInBounds_toArray, List.set_cons_zero, List.set_cons_succ, i64_w, i32_w]
   rfl
  refine pure_ (i := 12) (N := some 18) (v := undef) (a' := ?_) #[true, true, true, true, true, true, true, true, true, true, true, true, true, false, false, false, false, false, false] rfl rfl (any_of HT_.out kr) (fun _ _ _ h => h) (Or.inr ⟨by rfl, rfl⟩) ?_ ?_
  rotate_left
  ·simp only [Act.put, List.setIfInBounds_toArray, List.set_cons_zero, List.set_cons_succ, i64_w, i32_w]
   rfl
  refine pure_ (i := 13) (N := some 19) (v := ?_) (a' := ?_) #[true, true, true, true, true, true, true, true, true, true, true, true, true, true, false, false, false, false, false] rfl rfl (any_of HT_.out kr) (fun _ _ _ h => h) (Or.inl ⟨by rfl, ?_⟩) ?_ ?_
  rotate_left
  ·intro w'
   go_simp
   with_reducible rfl
  rotate_left
  ·simp only [Act.put, List.setIfInBounds_toArray, List.set_cons_zero, List.set_cons_succ, i64_w, i32_w]
   rfl
  refine pure_ (i := 14) (N := some 20) (v := ?_) (a' := ?_) #[true, true, true, true, true, true, true, true, true, true, true, true, true, true, true, false, false, false, false] rfl rfl (any_of HT_.out kr) (fun _ _ _ h => h) (Or.inl ⟨by rfl, ?_⟩) ?_ ?_
  rotate_left
  ·intro w'
   go_simp
   with_reducible rfl
  rotate_left
  ·simp only [Act.put, List.setIfInBounds_toArray, List.set_cons_zero, List.set_cons_succ, i64_w, i32_w]
   rfl
  refine pure_ (i := 15) (N := some 21) (v := undef) (a' := ?_) #[true, true, true, true, true, true, true, true, true, true, true, true, true, true, true, true, false, false, false] rfl rfl (any_of HT_.out kr) (fun _ _ _ h => h) (Or.inr ⟨by rfl, rfl⟩) ?_ ?_
  rotate_left
  ·simp only [Act.put, List.setIfInBounds_toArray, List.set_cons_zero, List.set_cons_succ, i64_w, i32_w]
   rfl
  refine pure_ (i := 16) (N := some 22) (v := undef) (a' := ?_) #[true, true, true, true, true, true, true, true, true, true, true, true, true, true, true, true, true, false, false] rfl rfl (any_of HT_.out kr) (fun _ _ _ h => h) (Or.inr ⟨by rfl, rfl⟩) ?_ ?_
  rotate_left
  ·simp only [Act.put, List.setIfInBounds_toArray, List.set_cons_zero, List.set_cons_succ, i64_w, i32_w]
   rfl
  refine pure_ (i := 17) (N := some 23) (v := ?_) (a' := ?_) #[true, true, true, true, true, true, true, true, true, true, true, true, true, true, true, true, true, true, false] rfl rfl (any_of HT_.out kr) (fun _ _ _ h => h) (Or.inl ⟨by rfl, ?_⟩) ?_ ?_
  rotate_left
  ·intro w'
   go_simp
   with_reducible rfl
  rotate_left
  ·simp only [Act.put, List.setIfInBounds_toArray, List.set_cons_zero, List.set_cons_succ, i64_w, i32_w]
   rfl
  refine pure_ (i := 18) (N := some 0) (v := ?_) (a' := ?_) #[true, true, true, true, true, true, true, true, true, true, true, true, true, true, true, true, true, true, true] rfl rfl (any_of HT_.out kr) (fun _ _ _ h => h) (Or.inl ⟨by rfl, ?_⟩) ?_ ?_
  rotate_left
  ·intro w'
   go_simp
   with_reducible rfl
  rotate_left
  ·simp only [Act.put, List.setIfInBounds_toArray, List.set_cons_zero, List.set_cons_succ, i64_w, i32_w]
   rfl
  refine done_ (done_of HT_.out kr) ?_
  try go_wp2
  go_ret
  exact ⟨er2, bx_bl⟩
end
end Go.Proofs.YtmakkdlkgfgaoaaDoor.F
