/-
value.Show: its walk, printed but for the read of the program's table of names.
-/
import Derived.Test.YtmakkdlkgfgaoaaDoorF100
import Derived.Test.YtmakkdlkgfgaoaaDoorF103
import Derived.Test.YtmakkdlkgfgaoaaDoorF104
import Derived.Test.YtmakkdlkgfgaoaaDoorG2
import Derived.Test.YtmakkdlkgfgaoaaDoorC0
namespace Go.Proofs.YtmakkdlkgfgaoaaDoor.F
open Go.RowKit Go.Proofs.YtmakkdlkgfgaoaaDoorW.PrintWords Go.Proofs.YtmakkdlkgfgaoaaDoorW.PrintLast Go.Proofs.YtmakkdlkgfgaoaaDoorW.PrintMore
attribute [local go_sem] max2_int min2_int max_two min_two max_three min_three max_four min_four
attribute [local go_sem high] bx_cell bx_frozen bx_nm0 bx_nm1 bx_nm2 bx_nm3 bx_nm4 bx_nm5 bx_nm6 bx_nm7
set_option linter.unusedVariables false
set_option linter.unusedSimpArgs false

attribute [local go_sem high] eqA25
/-! ### value_Show: function 29 -/
def value_Show.f (k : Nat) (a0_0 : Int) (a0_1 : Int) (a0_2 : Int) (a0_3 : ByteArray) (a0_4 : Bool) (a0_5 : Int) : Option (ByteArray) := (value_taken.f k a0_0 a0_1 a0_2 a0_3 a0_4 a0_5).bind fun bt159 => (if bt159.1 = 4 then (if 1 ≤ bt159.2.2.2.2.2 then (if bt159.2.2.2.2.2 ≤ 8 then (some (nmA (bt159.2.2.2.2.2 - 1))) else (none)) else (none)) else (if bt159.1 = 2 then (if bt159.2.2.2.1.toList = ([] : List UInt8) then (if 1 + bt159.2.2.2.1.size ≤ 9223372036854775807 then (some ((⟨#[39]⟩ : ByteArray) ++ bt159.2.2.2.1)) else (none)) else (if 0 < (bt159.2.2.2.1.size : Int) then (if (bt bt159.2.2.2.1 0) = 61 then (if 1 + bt159.2.2.2.1.size ≤ 9223372036854775807 then (some ((⟨#[39]⟩ : ByteArray) ++ bt159.2.2.2.1)) else (none)) else ((value_Read.f k bt159.2.2.2.1).bind fun bt165 => (if (!(bt165.1 == bt159.1) || ((!(bt165.2.1 == bt159.2.1) || (!(bt165.2.2.1 == bt159.2.2.1))) || (!(bt165.2.2.2.1.toList == bt159.2.2.2.1.toList) || (!(bt165.2.2.2.2.1 == bt159.2.2.2.2.1) || (!(bt165.2.2.2.2.2 == bt159.2.2.2.2.2)))))) = true then (if 1 + bt159.2.2.2.1.size ≤ 9223372036854775807 then (some ((⟨#[39]⟩ : ByteArray) ++ bt159.2.2.2.1)) else (none)) else (some bt159.2.2.2.1)))) else (none))) else ((value_AsText.f k bt159.1 bt159.2.1 bt159.2.2.1 bt159.2.2.2.1 bt159.2.2.2.2.1 bt159.2.2.2.2.2).bind fun bt171 => (some bt171.1))))
theorem value_Show.mono : ∀ a0 a1 a2 a3 a4 a5 k, LeO (value_Show.f k a0 a1 a2 a3 a4 a5) (value_Show.f (k + 1) a0 a1 a2 a3 a4 a5) := by
 intro a0 a1 a2 a3 a4 a5 k
 unfold value_Show.f
 repeat' first
   | (with_reducible exact value_AsText.mono _ _ _ _ _ _ _)
   | (with_reducible exact value_Read.mono _ _)
   | (with_reducible exact value_taken.mono _ _ _ _ _ _ _)
   | (with_reducible exact LeO.refl _)
   | (with_reducible exact LeO.none _)
   | (with_reducible refine LeO.ite ?_ ?_)
   | (with_reducible refine LeO.bind ?_ (fun _ => ?_))
   | exact value_AsText.mono _ _ _ _ _ _ _
   | exact value_Read.mono _ _
   | exact value_taken.mono _ _ _ _ _ _ _
   | exact LeO.none _
   | refine LeO.ite ?_ ?_
   | refine LeO.bind ?_ (fun _ => ?_)
def value_Show.T6 : Bool × List (List Nat × List Nat) := (true, [([], []), ([0], [0]), ([1], [1]), ([2], [2]), ([3], [3]), ([4, 3], [3, 4]), ([5, 3], [3, 5]), ([6, 3], [3, 6]), ([3, 7], [3, 7]), ([8, 3], [8]), ([9], [9]), ([10, 9], [9, 10]), ([11, 9, 9], [9, 11]), ([9], [9]), ([12, 13, 9], [9, 12, 13]), ([9, 14], [9, 14])])
def value_Show.B6 : List Nat := [0, 1, 3, 7, 15, 31, 63, 127, 255, 511, 1023, 2047, 4095, 1023, 16383, 32767]
theorem value_Show.tab6 : rtab .any (opsOf Tryd.f29 6) = value_Show.T6 := by kernel_rfl
theorem value_Show.bits6 : waitsOk value_Show.T6.2 value_Show.B6 = true := by kernel_rfl
set_option maxHeartbeats 8000000 in
set_option maxRecDepth 100000 in
theorem value_Show.calls (k : Nat) (a0_0 : Int) (a0_1 : Int) (a0_2 : Int) (a0_3 : ByteArray) (a0_4 : Bool) (a0_5 : Int) (r : ByteArray) (w : World) (HT0 : TabAt w) (h : value_Show.f k a0_0 a0_1 a0_2 a0_3 a0_4 a0_5 = some r) :
  Calls Tryd.prog 29 #[.agg #[.int .i64 a0_0, .int .i64 a0_1, .int .i64 a0_2, .string a0_3, .bool a0_4, .int .i64 a0_5]] w fun e w' => e = .returned (.string r) ∧ Below w.heap.size w w' := by
 have hu25 := Tryd.underlying25
 have HT := Aside0.mk HT0
 clear HT0
 have BX := Bx.start w
 have H : ((value_taken.f k a0_0 a0_1 a0_2 a0_3 a0_4 a0_5).bind fun bt159 => (if bt159.1 = 4 then (if 1 ≤ bt159.2.2.2.2.2 then (if bt159.2.2.2.2.2 ≤ 8 then (some (nmA (bt159.2.2.2.2.2 - 1))) else (none)) else (none)) else (if bt159.1 = 2 then (if bt159.2.2.2.1.toList = ([] : List UInt8) then (if 1 + bt159.2.2.2.1.size ≤ 9223372036854775807 then (some ((⟨#[39]⟩ : ByteArray) ++ bt159.2.2.2.1)) else (none)) else (if 0 < (bt159.2.2.2.1.size : Int) then (if (bt bt159.2.2.2.1 0) = 61 then (if 1 + bt159.2.2.2.1.size ≤ 9223372036854775807 then (some ((⟨#[39]⟩ : ByteArray) ++ bt159.2.2.2.1)) else (none)) else ((value_Read.f k bt159.2.2.2.1).bind fun bt165 => (if (!(bt165.1 == bt159.1) || ((!(bt165.2.1 == bt159.2.1) || (!(bt165.2.2.1 == bt159.2.2.1))) || (!(bt165.2.2.2.1.toList == bt159.2.2.2.1.toList) || (!(bt165.2.2.2.2.1 == bt159.2.2.2.2.1) || (!(bt165.2.2.2.2.2 == bt159.2.2.2.2.2)))))) = true then (if 1 + bt159.2.2.2.1.size ≤ 9223372036854775807 then (some ((⟨#[39]⟩ : ByteArray) ++ bt159.2.2.2.1)) else (none)) else (some bt159.2.2.2.1)))) else (none))) else ((value_AsText.f k bt159.1 bt159.2.1 bt159.2.2.1 bt159.2.2.2.1 bt159.2.2.2.2.1 bt159.2.2.2.2.2).bind fun bt171 => (some bt171.1))))) = some r := h
 clear h
 replace H := Option.bind_eq_some_iff.mp H
 obtain ⟨⟨t159, t160, t161, t162, t163, t164⟩, A20, H⟩ := H
 replace H : (if t159 = 4 then (if 1 ≤ t164 then (if t164 ≤ 8 then (some (nmA (t164 - 1))) else (none)) else (none)) else (if t159 = 2 then (if t162.toList = ([] : List UInt8) then (if 1 + t162.size ≤ 9223372036854775807 then (some ((⟨#[39]⟩ : ByteArray) ++ t162)) else (none)) else (if 0 < (t162.size : Int) then (if (bt t162 0) = 61 then (if 1 + t162.size ≤ 9223372036854775807 then (some ((⟨#[39]⟩ : ByteArray) ++ t162)) else (none)) else ((value_Read.f k t162).bind fun bt165 => (if (!(bt165.1 == t159) || ((!(bt165.2.1 == t160) || (!(bt165.2.2.1 == t161))) || (!(bt165.2.2.2.1.toList == t162.toList) || (!(bt165.2.2.2.2.1 == t163) || (!(bt165.2.2.2.2.2 == t164)))))) = true then (if 1 + t162.size ≤ 9223372036854775807 then (some ((⟨#[39]⟩ : ByteArray) ++ t162)) else (none)) else (some t162)))) else (none))) else ((value_AsText.f k t159 t160 t161 t162 t163 t164).bind fun bt171 => (some bt171.1)))) = some r := H
 have A2 := Aside0.mk A20
 clear A20
 by_cases c3 : t159 = 4
 ·rw [if_pos c3] at H
  have c3b0 : (t159 == 4) = true := beq_iff_eq.mpr c3
  have c3b1 : (t159 != 4) = false := bne_eq_false_iff_eq.mpr c3
  clear c3
  by_cases d1 : 1 ≤ t164
  ·rw [if_pos d1] at H
   by_cases d2 : t164 ≤ 8
   ·rw [if_pos d2] at H
    obtain rfl := Option.some.inj H
    have hx : t164 = 1 ∨ t164 = 2 ∨ t164 = 3 ∨ t164 = 4 ∨ t164 = 5 ∨ t164 = 6 ∨ t164 = 7 ∨ t164 = 8 := by omega
    clear d1 d2
    have NA : NmAt w := ⟨HT.out.2⟩
    rcases hx with rfl | rfl | rfl | rfl | rfl | rfl | rfl | rfl
    all_goals
      go_enter Tryd.func29, Tryd.ntmps29
      go_wp2_with (first | ((with_reducible refine gate_dst (N := 1) rfl ?_); refine bxe 1 #[.int .i64 a0_0, .int .i64 a0_1, .int .i64 a0_2, .string a0_3, .bool a0_4, .int .i64 a0_5] 25 rfl rfl gr ?_; clear BX; intro gb158 w4 GE158 BX) | ((with_reducible refine gate_callee (f := 59) rfl ?_); refine goesL_ (some 6) rfl rfl Tryd.func59 kr rfl #[.agg #[.int .i64 a0_0, .int .i64 a0_1, .int .i64 a0_2, .string a0_3, .bool a0_4, .int .i64 a0_5]] rfl ga ?_; (with_reducible refine (value_taken.calls k a0_0 a0_1 a0_2 a0_3 a0_4 a0_5 t159 t160 t161 t162 t163 _ _ A2.out).mono ?_); rintro e w6 ⟨rfl, hb⟩; refine ⟨_, rfl, ?_⟩; replace BX := bx_call hb; clear hb))
      go_ret
      exact ⟨er2, bx_bl⟩
   ·rw [if_neg d2] at H
    exact absurd H (by simp)
  ·rw [if_neg d1] at H
   exact absurd H (by simp)
 ·rw [if_neg c3] at H
  have c3b0 : (t159 == 4) = false := beq_eq_false_iff_ne.mpr c3
  have c3b1 : (t159 != 4) = true := bne_iff_ne.mpr c3
  by_cases c8 : t159 = 2
  ·rw [if_pos c8] at H
   have c8b0 : (t159 == 2) = true := beq_iff_eq.mpr c8
   have c8b1 : (t159 != 2) = false := bne_eq_false_iff_eq.mpr c8
   clear c8
   by_cases c9 : t162.toList = ([] : List UInt8)
   ·rw [if_pos c9] at H
    have c9b0 : (t162.toList == ([] : List UInt8)) = true := beq_iff_eq.mpr c9
    have c9b1 : (t162.toList != ([] : List UInt8)) = false := bne_eq_false_iff_eq.mpr c9
    clear c9
    by_cases c10 : 1 + t162.size ≤ 9223372036854775807
    ·rw [if_pos c10] at H
     have c10b0 := eq_true c10
     have c10b1 : decide (1 + t162.size ≤ 9223372036854775807) = true := decide_eq_true c10
     try have c10b2 : (9223372036854775807 < 1 + t162.size) = False := eq_false (Nat.not_lt.2 c10)
     obtain rfl := Option.some.inj H
     go_enter Tryd.func29, Tryd.ntmps29
     try go_wp2_with (first | ((with_reducible refine gate_dst (N := 1) rfl ?_); refine bxe 1 #[.int .i64 a0_0, .int .i64 a0_1, .int .i64 a0_2, .string a0_3, .bool a0_4, .int .i64 a0_5] 25 rfl rfl gr ?_; clear BX; intro gb158 w11 GE158 BX) | ((with_reducible refine gate_callee (f := 59) rfl ?_); refine goesL_ (some 6) rfl rfl Tryd.func59 kr rfl #[.agg #[.int .i64 a0_0, .int .i64 a0_1, .int .i64 a0_2, .string a0_3, .bool a0_4, .int .i64 a0_5]] rfl ga ?_; (with_reducible refine (value_taken.calls k a0_0 a0_1 a0_2 a0_3 a0_4 a0_5 t159 t160 t161 t162 t163 t164 _ A2.out).mono ?_); rintro e w13 ⟨rfl, hb⟩; refine ⟨_, rfl, ?_⟩; replace BX := bx_call hb; clear hb))
     replace BX : Bx w ((((((w13.setCell ⟨gb158, 0, none⟩ (.int .i64 t159)).setCell ⟨gb158, 1, none⟩ (.int .i64 t160)).setCell ⟨gb158, 2, none⟩ (.int .i64 t161)).setCell ⟨gb158, 3, none⟩ (.string t162)).setCell ⟨gb158, 4, none⟩ (.bool t163)).setCell ⟨gb158, 5, none⟩ (.int .i64 t164)) _ := bxi
     generalize ((((((w13.setCell ⟨gb158, 0, none⟩ (.int .i64 t159)).setCell ⟨gb158, 1, none⟩ (.int .i64 t160)).setCell ⟨gb158, 2, none⟩ (.int .i64 t161)).setCell ⟨gb158, 3, none⟩ (.string t162)).setCell ⟨gb158, 4, none⟩ (.bool t163)).setCell ⟨gb158, 5, none⟩ (.int .i64 t164)) = w15 at BX ⊢
     refine startm [true] (n := 16) (ds := []) #[false, false, false, false, false, false, false, false, false, false, false, false, false, false, false, false] kr rfl rfl (fun BX1 => ?_); refine with_tabW value_Show.tab6 value_Show.bits6 (fun HT_ HW_ => ?_)
     clear BX
     have BX := BX1
     clear BX1
     generalize w15.drew = w16 at BX ⊢
     refine pure_ (i := 0) (N := some 18) (v := ?_) (a' := ?_) #[true, false, false, false, false, false, false, false, false, false, false, false, false, false, false, false] rfl rfl (any_of HT_.out kr) (fun _ _ _ h => h) (Or.inl ⟨by rfl, ?_⟩) ?_ ?_
     rotate_left
     ·intro w'
      go_simp
      with_reducible rfl
     rotate_left
     ·simp only [Act.put, List.setIfInBounds_toArray, List.set_cons_zero, List.set_cons_succ, i64_w, i32_w]
      rfl
     refine take_ (i := 1) (N := some 19) (v := ?_) (a' := ?_) #[true, true, false, false, false, false, false, false, false, false, false, false, false, false, false, false] rfl rfl (take_ofW HT_.out HW_.out kr) (fun _ _ _ h => h) (Or.inl ⟨by rfl, ?_⟩) bxs ?_ ?_
     rotate_left
     ·intro w' hS
      go_simp
      with_reducible rfl
     rotate_left
     ·simp only [Act.put, List.setIfInBounds_toArray, List.set_cons_zero, List.set_cons_succ, i64_w, i32_w]
      rfl
     refine pure_ (i := 2) (N := some 20) (v := ?_) (a' := ?_) #[true, true, true, false, false, false, false, false, false, false, false, false, false, false, false, false] rfl rfl (any_of HT_.out kr) (fun _ _ _ h => h) (Or.inl ⟨by rfl, ?_⟩) ?_ ?_
     rotate_left
     ·intro w'
      go_simp
      with_reducible rfl
     rotate_left
     ·simp only [Act.put, List.setIfInBounds_toArray, List.set_cons_zero, List.set_cons_succ, i64_w, i32_w]
      rfl
     refine pure_ (i := 3) (N := some 21) (v := ?_) (a' := ?_) #[true, true, true, true, false, false, false, false, false, false, false, false, false, false, false, false] rfl rfl (any_of HT_.out kr) (fun _ _ _ h => h) (Or.inl ⟨by rfl, ?_⟩) ?_ ?_
     rotate_left
     ·intro w'
      go_simp
      with_reducible rfl
     rotate_left
     ·simp only [Act.put, List.setIfInBounds_toArray, List.set_cons_zero, List.set_cons_succ, i64_w, i32_w]
      rfl
     refine pure_ (i := 4) (N := some 22) (v := undef) (a' := ?_) #[true, true, true, true, true, false, false, false, false, false, false, false, false, false, false, false] rfl rfl (any_of HT_.out kr) (fun _ _ _ h => h) (Or.inr ⟨by rfl, rfl⟩) ?_ ?_
     rotate_left
     ·simp only [Act.put, List.setIfInBounds_toArray, List.set_cons_zero, List.set_cons_succ, i64_w, i32_w]
      rfl
     refine pure_ (i := 5) (N := some 23) (v := undef) (a' := ?_) #[true, true, true, true, true, true, false, false, false, false, false, false, false, false, false, false] rfl rfl (any_of HT_.out kr) (fun _ _ _ h => h) (Or.inr ⟨by rfl, rfl⟩) ?_ ?_
     rotate_left
     ·simp only [Act.put, List.setIfInBounds_toArray, List.set_cons_zero, List.set_cons_succ, i64_w, i32_w]
      rfl
     refine pure_ (i := 6) (N := some 24) (v := undef) (a' := ?_) #[true, true, true, true, true, true, true, false, false, false, false, false, false, false, false, false] rfl rfl (any_of HT_.out kr) (fun _ _ _ h => h) (Or.inr ⟨by rfl, rfl⟩) ?_ ?_
     rotate_left
     ·simp only [Act.put, List.setIfInBounds_toArray, List.set_cons_zero, List.set_cons_succ, i64_w, i32_w]
      rfl
     refine pure_ (i := 7) (N := some 25) (v := undef) (a' := ?_) #[true, true, true, true, true, true, true, true, false, false, false, false, false, false, false, false] rfl rfl (any_of HT_.out kr) (fun _ _ _ h => h) (Or.inr ⟨by rfl, rfl⟩) ?_ ?_
     rotate_left
     ·simp only [Act.put, List.setIfInBounds_toArray, List.set_cons_zero, List.set_cons_succ, i64_w, i32_w]
      rfl
     refine pure_ (i := 8) (N := some 26) (v := ?_) (a' := ?_) #[true, true, true, true, true, true, true, true, true, false, false, false, false, false, false, false] rfl rfl (any_of HT_.out kr) (fun _ _ _ h => h) (Or.inl ⟨by rfl, ?_⟩) ?_ ?_
     rotate_left
     ·intro w'
      go_simp
      with_reducible rfl
     rotate_left
     ·simp only [Act.put, List.setIfInBounds_toArray, List.set_cons_zero, List.set_cons_succ, i64_w, i32_w]
      rfl
     refine pure_ (i := 9) (N := some 27) (v := ?_) (a' := ?_) #[true, true, true, true, true, true, true, true, true, true, false, false, false, false, false, false] rfl rfl (any_of HT_.out kr) (fun _ _ _ h => h) (Or.inl ⟨by rfl, ?_⟩) ?_ ?_
     rotate_left
     ·intro w'
      go_simp
      with_reducible rfl
     rotate_left
     ·simp only [Act.put, List.setIfInBounds_toArray, List.set_cons_zero, List.set_cons_succ, i64_w, i32_w]
      rfl
     refine pure_ (i := 10) (N := some 28) (v := undef) (a' := ?_) #[true, true, true, true, true, true, true, true, true, true, true, false, false, false, false, false] rfl rfl (any_of HT_.out kr) (fun _ _ _ h => h) (Or.inr ⟨by rfl, rfl⟩) ?_ ?_
     rotate_left
     ·simp only [Act.put, List.setIfInBounds_toArray, List.set_cons_zero, List.set_cons_succ, i64_w, i32_w]
      rfl
     refine pure_ (i := 11) (N := some 29) (v := undef) (a' := ?_) #[true, true, true, true, true, true, true, true, true, true, true, true, false, false, false, false] rfl rfl (any_of HT_.out kr) (fun _ _ _ h => h) (Or.inr ⟨by rfl, rfl⟩) ?_ ?_
     rotate_left
     ·simp only [Act.put, List.setIfInBounds_toArray, List.set_cons_zero, List.set_cons_succ, i64_w, i32_w]
      rfl
     refine pure_ (i := 12) (N := some 30) (v := undef) (a' := ?_) #[true, true, true, true, true, true, true, true, true, true, true, true, true, false, false, false] rfl rfl (any_of HT_.out kr) (fun _ _ _ h => h) (Or.inr ⟨by rfl, rfl⟩) ?_ ?_
     rotate_left
     ·simp only [Act.put, List.setIfInBounds_toArray, List.set_cons_zero, List.set_cons_succ, i64_w, i32_w]
      rfl
     refine pure_ (i := 13) (N := some 31) (v := undef) (a' := ?_) #[true, true, true, true, true, true, true, true, true, true, true, true, true, true, false, false] rfl rfl (any_of HT_.out kr) (fun _ _ _ h => h) (Or.inr ⟨by rfl, rfl⟩) ?_ ?_
     rotate_left
     ·simp only [Act.put, List.setIfInBounds_toArray, List.set_cons_zero, List.set_cons_succ, i64_w, i32_w]
      rfl
     refine pure_ (i := 14) (N := some 32) (v := undef) (a' := ?_) #[true, true, true, true, true, true, true, true, true, true, true, true, true, true, true, false] rfl rfl (any_of HT_.out kr) (fun _ _ _ h => h) (Or.inr ⟨by rfl, rfl⟩) ?_ ?_
     rotate_left
     ·simp only [Act.put, List.setIfInBounds_toArray, List.set_cons_zero, List.set_cons_succ, i64_w, i32_w]
      rfl
     refine pure_ (i := 15) (N := some 33) (v := ?_) (a' := ?_) #[true, true, true, true, true, true, true, true, true, true, true, true, true, true, true, true] rfl rfl (any_of HT_.out kr) (fun _ _ _ h => h) (Or.inl ⟨by rfl, ?_⟩) ?_ ?_
     rotate_left
     ·intro w'
      go_simp
      with_reducible rfl
     rotate_left
     ·simp only [Act.put, List.setIfInBounds_toArray, List.set_cons_zero, List.set_cons_succ, i64_w, i32_w]
      rfl
     refine done_ (done_of HT_.out kr) ?_
     try go_wp2
     go_ret
     exact ⟨er2, bx_bl⟩
    ·rw [if_neg c10] at H
     exact absurd H (by simp)
   ·rw [if_neg c9] at H
    have c9b0 : (t162.toList == ([] : List UInt8)) = false := beq_eq_false_iff_ne.mpr c9
    have c9b1 : (t162.toList != ([] : List UInt8)) = true := bne_iff_ne.mpr c9
    by_cases c18 : 0 < (t162.size : Int)
    ·rw [if_pos c18] at H
     have c18b0 : decide (0 < (t162.size : Int)) = true := decide_eq_true c18
     have c18b1 : decide (0 < t162.size) = true := decide_eq_true (by omega)
     clear c18
     by_cases c20 : (bt t162 0) = 61
     ·rw [if_pos c20] at H
      have c20b0 : ((bt t162 0) == 61) = true := beq_iff_eq.mpr c20
      have c20b1 : ((bt t162 0) != 61) = false := bne_eq_false_iff_eq.mpr c20
      clear c20
      by_cases c21 : 1 + t162.size ≤ 9223372036854775807
      ·rw [if_pos c21] at H
       have c21b0 := eq_true c21
       have c21b1 : decide (1 + t162.size ≤ 9223372036854775807) = true := decide_eq_true c21
       try have c21b2 : (9223372036854775807 < 1 + t162.size) = False := eq_false (Nat.not_lt.2 c21)
       obtain rfl := Option.some.inj H
       go_enter Tryd.func29, Tryd.ntmps29
       try go_wp2_with (first | ((with_reducible refine gate_dst (N := 1) rfl ?_); refine bxe 1 #[.int .i64 a0_0, .int .i64 a0_1, .int .i64 a0_2, .string a0_3, .bool a0_4, .int .i64 a0_5] 25 rfl rfl gr ?_; clear BX; intro gb158 w22 GE158 BX) | ((with_reducible refine gate_callee (f := 59) rfl ?_); refine goesL_ (some 6) rfl rfl Tryd.func59 kr rfl #[.agg #[.int .i64 a0_0, .int .i64 a0_1, .int .i64 a0_2, .string a0_3, .bool a0_4, .int .i64 a0_5]] rfl ga ?_; (with_reducible refine (value_taken.calls k a0_0 a0_1 a0_2 a0_3 a0_4 a0_5 t159 t160 t161 t162 t163 t164 _ A2.out).mono ?_); rintro e w24 ⟨rfl, hb⟩; refine ⟨_, rfl, ?_⟩; replace BX := bx_call hb; clear hb))
       replace BX : Bx w ((((((w24.setCell ⟨gb158, 0, none⟩ (.int .i64 t159)).setCell ⟨gb158, 1, none⟩ (.int .i64 t160)).setCell ⟨gb158, 2, none⟩ (.int .i64 t161)).setCell ⟨gb158, 3, none⟩ (.string t162)).setCell ⟨gb158, 4, none⟩ (.bool t163)).setCell ⟨gb158, 5, none⟩ (.int .i64 t164)) _ := bxi
       generalize ((((((w24.setCell ⟨gb158, 0, none⟩ (.int .i64 t159)).setCell ⟨gb158, 1, none⟩ (.int .i64 t160)).setCell ⟨gb158, 2, none⟩ (.int .i64 t161)).setCell ⟨gb158, 3, none⟩ (.string t162)).setCell ⟨gb158, 4, none⟩ (.bool t163)).setCell ⟨gb158, 5, none⟩ (.int .i64 t164)) = w26 at BX ⊢
       have p19 : 0 ≤ (0 : Int) := (by omega)
       have q19 : 0 < t162.size := (by have : (0 : Int) < (t162.size : Int) := of_decide_eq_true (by first | (with_reducible assumption) | assumption); omega)
       have hx19 : ∀ h : 0 < t162.size, ((t162[0]'h).toNat : Int) = bt t162 0 := bt_at t162 0
       clear p19
       have qi19 : (0 < (t162.size : Int)) = True := eq_true (of_decide_eq_true (by first | (with_reducible assumption) | assumption))
       replace q19 := eq_true q19
       refine startm [true] (n := 16) (ds := []) #[false, false, false, false, false, false, false, false, false, false, false, false, false, false, false, false] kr rfl rfl (fun BX1 => ?_); refine with_tabW value_Show.tab6 value_Show.bits6 (fun HT_ HW_ => ?_)
       clear BX
       have BX := BX1
       clear BX1
       generalize w26.drew = w27 at BX ⊢
       refine pure_ (i := 0) (N := some 18) (v := ?_) (a' := ?_) #[true, false, false, false, false, false, false, false, false, false, false, false, false, false, false, false] rfl rfl (any_of HT_.out kr) (fun _ _ _ h => h) (Or.inl ⟨by rfl, ?_⟩) ?_ ?_
       rotate_left
       ·intro w'
        go_simp
        with_reducible rfl
       rotate_left
       ·simp only [Act.put, List.setIfInBounds_toArray, List.set_cons_zero, List.set_cons_succ, i64_w, i32_w]
        rfl
       refine take_ (i := 1) (N := some 19) (v := ?_) (a' := ?_) #[true, true, false, false, false, false, false, false, false, false, false, false, false, false, false, false] rfl rfl (take_ofW HT_.out HW_.out kr) (fun _ _ _ h => h) (Or.inl ⟨by rfl, ?_⟩) bxs ?_ ?_
       rotate_left
       ·intro w' hS
        go_simp
        with_reducible rfl
       rotate_left
       ·simp only [Act.put, List.setIfInBounds_toArray, List.set_cons_zero, List.set_cons_succ, i64_w, i32_w]
        rfl
       refine pure_ (i := 2) (N := some 20) (v := ?_) (a' := ?_) #[true, true, true, false, false, false, false, false, false, false, false, false, false, false, false, false] rfl rfl (any_of HT_.out kr) (fun _ _ _ h => h) (Or.inl ⟨by rfl, ?_⟩) ?_ ?_
       rotate_left
       ·intro w'
        go_simp
        with_reducible rfl
       rotate_left
       ·simp only [Act.put, List.setIfInBounds_toArray, List.set_cons_zero, List.set_cons_succ, i64_w, i32_w]
        rfl
       refine pure_ (i := 3) (N := some 21) (v := ?_) (a' := ?_) #[true, true, true, true, false, false, false, false, false, false, false, false, false, false, false, false] rfl rfl (any_of HT_.out kr) (fun _ _ _ h => h) (Or.inl ⟨by rfl, ?_⟩) ?_ ?_
       rotate_left
       ·intro w'
        go_simp
        with_reducible rfl
       rotate_left
       ·simp only [Act.put, List.setIfInBounds_toArray, List.set_cons_zero, List.set_cons_succ, i64_w, i32_w]
        rfl
       refine pure_ (i := 4) (N := some 22) (v := ?_) (a' := ?_) #[true, true, true, true, true, false, false, false, false, false, false, false, false, false, false, false] rfl rfl (any_of HT_.out kr) (fun _ _ _ h => h) (Or.inl ⟨by rfl, ?_⟩) ?_ ?_
       rotate_left
       ·intro w'
        go_simp
        with_reducible rfl
       rotate_left
       ·simp only [Act.put, List.setIfInBounds_toArray, List.set_cons_zero, List.set_cons_succ, i64_w, i32_w]
        rfl
       refine take_ (i := 5) (N := some 23) (v := ?_) (a' := ?_) #[true, true, true, true, true, true, false, false, false, false, false, false, false, false, false, false] rfl rfl (take_ofW HT_.out HW_.out kr) (fun _ _ _ h => h) (Or.inl ⟨by rfl, ?_⟩) bxs ?_ ?_
       rotate_left
       ·intro w' hS
        go_simp
        with_reducible rfl
       rotate_left
       ·simp only [Act.put, List.setIfInBounds_toArray, List.set_cons_zero, List.set_cons_succ, i64_w, i32_w]
        rfl
       refine take_ (i := 6) (N := some 24) (v := ?_) (a' := ?_) #[true, true, true, true, true, true, true, false, false, false, false, false, false, false, false, false] rfl rfl (take_ofW HT_.out HW_.out kr) (fun _ _ _ h => h) (Or.inl ⟨by rfl, ?_⟩) bxs ?_ ?_
       rotate_left
       ·intro w' hS
        go_simp
        with_reducible rfl
       rotate_left
       ·simp only [Act.put, List.setIfInBounds_toArray, List.set_cons_zero, List.set_cons_succ, i64_w, i32_w]
        rfl
       refine pure_ (i := 7) (N := some 25) (v := ?_) (a' := ?_) #[true, true, true, true, true, true, true, true, false, false, false, false, false, false, false, false] rfl rfl (any_of HT_.out kr) (fun _ _ _ h => h) (Or.inl ⟨by rfl, ?_⟩) ?_ ?_
       rotate_left
       ·intro w'
        go_simp
        with_reducible rfl
       rotate_left
       ·simp only [Act.put, List.setIfInBounds_toArray, List.set_cons_zero, List.set_cons_succ, i64_w, i32_w]
        rfl
       refine pure_ (i := 8) (N := some 26) (v := ?_) (a' := ?_) #[true, true, true, true, true, true, true, true, true, false, false, false, false, false, false, false] rfl rfl (any_of HT_.out kr) (fun _ _ _ h => h) (Or.inl ⟨by rfl, ?_⟩) ?_ ?_
       rotate_left
       ·intro w'
        go_simp
        with_reducible rfl
       rotate_left
       ·simp only [Act.put, List.setIfInBounds_toArray, List.set_cons_zero, List.set_cons_succ, i64_w, i32_w]
        rfl
       refine pure_ (i := 9) (N := some 27) (v := ?_) (a' := ?_) #[true, true, true, true, true, true, true, true, true, true, false, false, false, false, false, false] rfl rfl (any_of HT_.out kr) (fun _ _ _ h => h) (Or.inl ⟨by rfl, ?_⟩) ?_ ?_
       rotate_left
       ·intro w'
        go_simp
        with_reducible rfl
       rotate_left
       ·simp only [Act.put, List.setIfInBounds_toArray, List.set_cons_zero, List.set_cons_succ, i64_w, i32_w]
        rfl
       refine pure_ (i := 10) (N := some 28) (v := undef) (a' := ?_) #[true, true, true, true, true, true, true, true, true, true, true, false, false, false, false, false] rfl rfl (any_of HT_.out kr) (fun _ _ _ h => h) (Or.inr ⟨by rfl, rfl⟩) ?_ ?_
       rotate_left
       ·simp only [Act.put, List.setIfInBounds_toArray, List.set_cons_zero, List.set_cons_succ, i64_w, i32_w]
        rfl
       refine pure_ (i := 11) (N := some 29) (v := undef) (a' := ?_) #[true, true, true, true, true, true, true, true, true, true, true, true, false, false, false, false] rfl rfl (any_of HT_.out kr) (fun _ _ _ h => h) (Or.inr ⟨by rfl, rfl⟩) ?_ ?_
       rotate_left
       ·simp only [Act.put, List.setIfInBounds_toArray, List.set_cons_zero, List.set_cons_succ, i64_w, i32_w]
        rfl
       refine pure_ (i := 12) (N := some 30) (v := undef) (a' := ?_) #[true, true, true, true, true, true, true, true, true, true, true, true, true, false, false, false] rfl rfl (any_of HT_.out kr) (fun _ _ _ h => h) (Or.inr ⟨by rfl, rfl⟩) ?_ ?_
       rotate_left
       ·simp only [Act.put, List.setIfInBounds_toArray, List.set_cons_zero, List.set_cons_succ, i64_w, i32_w]
        rfl
       refine pure_ (i := 13) (N := some 31) (v := undef) (a' := ?_) #[true, true, true, true, true, true, true, true, true, true, true, true, true, true, false, false] rfl rfl (any_of HT_.out kr) (fun _ _ _ h => h) (Or.inr ⟨by rfl, rfl⟩) ?_ ?_
       rotate_left
       ·simp only [Act.put, List.setIfInBounds_toArray, List.set_cons_zero, List.set_cons_succ, i64_w, i32_w]
        rfl
       refine pure_ (i := 14) (N := some 32) (v := undef) (a' := ?_) #[true, true, true, true, true, true, true, true, true, true, true, true, true, true, true, false] rfl rfl (any_of HT_.out kr) (fun _ _ _ h => h) (Or.inr ⟨by rfl, rfl⟩) ?_ ?_
       rotate_left
       ·simp only [Act.put, List.setIfInBounds_toArray, List.set_cons_zero, List.set_cons_succ, i64_w, i32_w]
        rfl
       refine pure_ (i := 15) (N := some 33) (v := ?_) (a' := ?_) #[true, true, true, true, true, true, true, true, true, true, true, true, true, true, true, true] rfl rfl (any_of HT_.out kr) (fun _ _ _ h => h) (Or.inl ⟨by rfl, ?_⟩) ?_ ?_
       rotate_left
       ·intro w'
        go_simp
        with_reducible rfl
       rotate_left
       ·simp only [Act.put, List.setIfInBounds_toArray, List.set_cons_zero, List.set_cons_succ, i64_w, i32_w]
        rfl
       refine done_ (done_of HT_.out kr) ?_
       try go_wp2
       go_ret
       exact ⟨er2, bx_bl⟩
      ·rw [if_neg c21] at H
       exact absurd H (by simp)
     ·rw [if_neg c20] at H
      have c20b0 : ((bt t162 0) == 61) = false := beq_eq_false_iff_ne.mpr c20
      have c20b1 : ((bt t162 0) != 61) = true := bne_iff_ne.mpr c20
      replace H := Option.bind_eq_some_iff.mp H
      obtain ⟨⟨t165, t166, t167, t168, t169, t170⟩, A290, H⟩ := H
      replace H : (if (!(t165 == t159) || ((!(t166 == t160) || (!(t167 == t161))) || (!(t168.toList == t162.toList) || (!(t169 == t163) || (!(t170 == t164)))))) = true then (if 1 + t162.size ≤ 9223372036854775807 then (some ((⟨#[39]⟩ : ByteArray) ++ t162)) else (none)) else (some t162)) = some r := H
      have A29 := Aside0.mk A290
      clear A290
      by_cases c30 : (!(t165 == t159) || ((!(t166 == t160) || (!(t167 == t161))) || (!(t168.toList == t162.toList) || (!(t169 == t163) || (!(t170 == t164)))))) = true
      ·rw [if_pos c30] at H
       have c30b0 : (!(t165 == t159) || ((!(t166 == t160) || (!(t167 == t161))) || (!(t168.toList == t162.toList) || (!(t169 == t163) || (!(t170 == t164)))))) = true := c30
       clear c30
       by_cases c31 : 1 + t162.size ≤ 9223372036854775807
       ·rw [if_pos c31] at H
        have c31b0 := eq_true c31
        have c31b1 : decide (1 + t162.size ≤ 9223372036854775807) = true := decide_eq_true c31
        try have c31b2 : (9223372036854775807 < 1 + t162.size) = False := eq_false (Nat.not_lt.2 c31)
        obtain rfl := Option.some.inj H
        go_enter Tryd.func29, Tryd.ntmps29
        try go_wp2_with (first | ((with_reducible refine gate_dst (N := 1) rfl ?_); refine bxe 1 #[.int .i64 a0_0, .int .i64 a0_1, .int .i64 a0_2, .string a0_3, .bool a0_4, .int .i64 a0_5] 25 rfl rfl gr ?_; clear BX; intro gb158 w32 GE158 BX) | ((with_reducible refine gate_callee (f := 59) rfl ?_); refine goesL_ (some 6) rfl rfl Tryd.func59 kr rfl #[.agg #[.int .i64 a0_0, .int .i64 a0_1, .int .i64 a0_2, .string a0_3, .bool a0_4, .int .i64 a0_5]] rfl ga ?_; (with_reducible refine (value_taken.calls k a0_0 a0_1 a0_2 a0_3 a0_4 a0_5 t159 t160 t161 t162 t163 t164 _ A2.out).mono ?_); rintro e w34 ⟨rfl, hb⟩; refine ⟨_, rfl, ?_⟩; replace BX := bx_call hb; clear hb))
        replace BX : Bx w ((((((w34.setCell ⟨gb158, 0, none⟩ (.int .i64 t159)).setCell ⟨gb158, 1, none⟩ (.int .i64 t160)).setCell ⟨gb158, 2, none⟩ (.int .i64 t161)).setCell ⟨gb158, 3, none⟩ (.string t162)).setCell ⟨gb158, 4, none⟩ (.bool t163)).setCell ⟨gb158, 5, none⟩ (.int .i64 t164)) _ := bxi
        generalize ((((((w34.setCell ⟨gb158, 0, none⟩ (.int .i64 t159)).setCell ⟨gb158, 1, none⟩ (.int .i64 t160)).setCell ⟨gb158, 2, none⟩ (.int .i64 t161)).setCell ⟨gb158, 3, none⟩ (.string t162)).setCell ⟨gb158, 4, none⟩ (.bool t163)).setCell ⟨gb158, 5, none⟩ (.int .i64 t164)) = w36 at BX ⊢
        have p19 : 0 ≤ (0 : Int) := (by omega)
        have q19 : 0 < t162.size := (by have : (0 : Int) < (t162.size : Int) := of_decide_eq_true (by first | (with_reducible assumption) | assumption); omega)
        have hx19 : ∀ h : 0 < t162.size, ((t162[0]'h).toNat : Int) = bt t162 0 := bt_at t162 0
        clear p19
        have qi19 : (0 < (t162.size : Int)) = True := eq_true (of_decide_eq_true (by first | (with_reducible assumption) | assumption))
        replace q19 := eq_true q19
        refine startm [true] (n := 16) (ds := []) #[false, false, false, false, false, false, false, false, false, false, false, false, false, false, false, false] kr rfl rfl (fun BX1 => ?_); refine with_tabW value_Show.tab6 value_Show.bits6 (fun HT_ HW_ => ?_)
        clear BX
        have BX := BX1
        clear BX1
        generalize w36.drew = w37 at BX ⊢
        refine pure_ (i := 0) (N := some 18) (v := ?_) (a' := ?_) #[true, false, false, false, false, false, false, false, false, false, false, false, false, false, false, false] rfl rfl (any_of HT_.out kr) (fun _ _ _ h => h) (Or.inl ⟨by rfl, ?_⟩) ?_ ?_
        rotate_left
        ·intro w'
         go_simp
         with_reducible rfl
        rotate_left
        ·simp only [Act.put, List.setIfInBounds_toArray, List.set_cons_zero, List.set_cons_succ, i64_w, i32_w]
         rfl
        refine take_ (i := 1) (N := some 19) (v := ?_) (a' := ?_) #[true, true, false, false, false, false, false, false, false, false, false, false, false, false, false, false] rfl rfl (take_ofW HT_.out HW_.out kr) (fun _ _ _ h => h) (Or.inl ⟨by rfl, ?_⟩) bxs ?_ ?_
        rotate_left
        ·intro w' hS
         go_simp
         with_reducible rfl
        rotate_left
        ·simp only [Act.put, List.setIfInBounds_toArray, List.set_cons_zero, List.set_cons_succ, i64_w, i32_w]
         rfl
        refine pure_ (i := 2) (N := some 20) (v := ?_) (a' := ?_) #[true, true, true, false, false, false, false, false, false, false, false, false, false, false, false, false] rfl rfl (any_of HT_.out kr) (fun _ _ _ h => h) (Or.inl ⟨by rfl, ?_⟩) ?_ ?_
        rotate_left
        ·intro w'
         go_simp
         with_reducible rfl
        rotate_left
        ·simp only [Act.put, List.setIfInBounds_toArray, List.set_cons_zero, List.set_cons_succ, i64_w, i32_w]
         rfl
        refine pure_ (i := 3) (N := some 21) (v := ?_) (a' := ?_) #[true, true, true, true, false, false, false, false, false, false, false, false, false, false, false, false] rfl rfl (any_of HT_.out kr) (fun _ _ _ h => h) (Or.inl ⟨by rfl, ?_⟩) ?_ ?_
        rotate_left
        ·intro w'
         go_simp
         with_reducible rfl
        rotate_left
        ·simp only [Act.put, List.setIfInBounds_toArray, List.set_cons_zero, List.set_cons_succ, i64_w, i32_w]
         rfl
        refine pure_ (i := 4) (N := some 22) (v := ?_) (a' := ?_) #[true, true, true, true, true, false, false, false, false, false, false, false, false, false, false, false] rfl rfl (any_of HT_.out kr) (fun _ _ _ h => h) (Or.inl ⟨by rfl, ?_⟩) ?_ ?_
        rotate_left
        ·intro w'
         go_simp
         with_reducible rfl
        rotate_left
        ·simp only [Act.put, List.setIfInBounds_toArray, List.set_cons_zero, List.set_cons_succ, i64_w, i32_w]
         rfl
        refine take_ (i := 5) (N := some 23) (v := ?_) (a' := ?_) #[true, true, true, true, true, true, false, false, false, false, false, false, false, false, false, false] rfl rfl (take_ofW HT_.out HW_.out kr) (fun _ _ _ h => h) (Or.inl ⟨by rfl, ?_⟩) bxs ?_ ?_
        rotate_left
        ·intro w' hS
         go_simp
         with_reducible rfl
        rotate_left
        ·simp only [Act.put, List.setIfInBounds_toArray, List.set_cons_zero, List.set_cons_succ, i64_w, i32_w]
         rfl
        refine take_ (i := 6) (N := some 24) (v := ?_) (a' := ?_) #[true, true, true, true, true, true, true, false, false, false, false, false, false, false, false, false] rfl rfl (take_ofW HT_.out HW_.out kr) (fun _ _ _ h => h) (Or.inl ⟨by rfl, ?_⟩) bxs ?_ ?_
        rotate_left
        ·intro w' hS
         go_simp
         with_reducible rfl
        rotate_left
        ·simp only [Act.put, List.setIfInBounds_toArray, List.set_cons_zero, List.set_cons_succ, i64_w, i32_w]
         rfl
        refine pure_ (i := 7) (N := some 25) (v := ?_) (a' := ?_) #[true, true, true, true, true, true, true, true, false, false, false, false, false, false, false, false] rfl rfl (any_of HT_.out kr) (fun _ _ _ h => h) (Or.inl ⟨by rfl, ?_⟩) ?_ ?_
        rotate_left
        ·intro w'
         go_simp
         with_reducible rfl
        rotate_left
        ·simp only [Act.put, List.setIfInBounds_toArray, List.set_cons_zero, List.set_cons_succ, i64_w, i32_w]
         rfl
        refine pure_ (i := 8) (N := some 26) (v := ?_) (a' := ?_) #[true, true, true, true, true, true, true, true, true, false, false, false, false, false, false, false] rfl rfl (any_of HT_.out kr) (fun _ _ _ h => h) (Or.inl ⟨by rfl, ?_⟩) ?_ ?_
        rotate_left
        ·intro w'
         go_simp
         with_reducible rfl
        rotate_left
        ·simp only [Act.put, List.setIfInBounds_toArray, List.set_cons_zero, List.set_cons_succ, i64_w, i32_w]
         rfl
        refine pure_ (i := 9) (N := some 27) (v := ?_) (a' := ?_) #[true, true, true, true, true, true, true, true, true, true, false, false, false, false, false, false] rfl rfl (any_of HT_.out kr) (fun _ _ _ h => h) (Or.inl ⟨by rfl, ?_⟩) ?_ ?_
        rotate_left
        ·intro w'
         go_simp
         with_reducible rfl
        rotate_left
        ·simp only [Act.put, List.setIfInBounds_toArray, List.set_cons_zero, List.set_cons_succ, i64_w, i32_w]
         rfl
        refine pure_ (i := 10) (N := some 28) (v := ?_) (a' := ?_) #[true, true, true, true, true, true, true, true, true, true, true, false, false, false, false, false] rfl rfl (any_of HT_.out kr) (fun _ _ _ h => h) (Or.inl ⟨by rfl, ?_⟩) ?_ ?_
        rotate_left
        ·intro w'
         go_simp
         with_reducible rfl
        rotate_left
        ·simp only [Act.put, List.setIfInBounds_toArray, List.set_cons_zero, List.set_cons_succ, i64_w, i32_w]
         rfl
        refine take_ (i := 11) (N := some 29) (v := ?_) (a' := ?_) #[true, true, true, true, true, true, true, true, true, true, true, true, false, false, false, false] rfl rfl (take_ofW HT_.out HW_.out kr) (fun _ _ _ h => h) (Or.inl ⟨by rfl, ?_⟩) bxs ?_ ?_
        rotate_left
        ·intro w' hS
         go_simp
         with_reducible rfl
        rotate_left
        ·simp only [Act.put, List.setIfInBounds_toArray, List.set_cons_zero, List.set_cons_succ, i64_w, i32_w]
         rfl
        refine take_ (i := 13) (N := some 31) (v := ?_) (a' := ?_) #[true, true, true, true, true, true, true, true, true, true, true, true, false, true, false, false] rfl rfl (take_ofW HT_.out HW_.out kr) (fun _ _ _ h => h) (Or.inl ⟨by rfl, ?_⟩) bxs ?_ ?_
        rotate_left
        ·intro w' hS
         go_simp
         with_reducible rfl
        rotate_left
        ·simp only [Act.put, List.setIfInBounds_toArray, List.set_cons_zero, List.set_cons_succ, i64_w, i32_w]
         rfl
        refine one_ (i := 12) (N := some 30) #[true, true, true, true, true, true, true, true, true, true, true, true, true, true, false, false] rfl rfl (one_of HT_.out kr) (by decide) (fun K hK => ?_)
        refine goes_ Tryd.func27 kr rfl #[.string t162] (by rfl) rfl rfl ga ?_
        with_reducible refine (value_Read.calls k t162 t165 t166 t167 t168 t169 t170 _ ?side1 A29.out).mono ?_
        (case side1 => exact HT.out.on bx_bl)
        rintro e w38 ⟨rfl, hb⟩
        refine ⟨_, rfl, ?_⟩
        replace BX := bx_call hb
        clear hb
        refine hK.out _ _ bxs (fun hHeld => ?_)
        clear hK K hHeld
        refine norm_ (a' := ?_) ?_ ?_
        rotate_left
        ·show Act.put _ (some 30) _ = _
         simp only [Act.put, List.setIfInBounds_toArray, List.set_cons_zero, List.set_cons_succ, i64_w, i32_w]
         rfl
        refine pure_ (i := 14) (N := some 32) (v := ?_) (a' := ?_) #[true, true, true, true, true, true, true, true, true, true, true, true, true, true, true, false] rfl rfl (any_of HT_.out kr) (fun _ _ _ h => h) (Or.inl ⟨by rfl, ?_⟩) ?_ ?_
        rotate_left
        ·intro w'
         go_simp
         with_reducible rfl
        rotate_left
        ·simp only [Act.put, List.setIfInBounds_toArray, List.set_cons_zero, List.set_cons_succ, i64_w, i32_w]
         rfl
        refine pure_ (i := 15) (N := some 33) (v := ?_) (a' := ?_) #[true, true, true, true, true, true, true, true, true, true, true, true, true, true, true, true] rfl rfl (any_of HT_.out kr) (fun _ _ _ h => h) (Or.inl ⟨by rfl, ?_⟩) ?_ ?_
        rotate_left
        ·intro w'
         go_simp
         with_reducible rfl
        rotate_left
        ·simp only [Act.put, List.setIfInBounds_toArray, List.set_cons_zero, List.set_cons_succ, i64_w, i32_w]
         rfl
        refine done_ (done_of HT_.out kr) ?_
        try go_wp2
        go_ret
        exact ⟨er2, bx_bl⟩
       ·rw [if_neg c31] at H
        exact absurd H (by simp)
      ·rw [if_neg c30] at H
       have c30b0 : (!(t165 == t159) || ((!(t166 == t160) || (!(t167 == t161))) || (!(t168.toList == t162.toList) || (!(t169 == t163) || (!(t170 == t164)))))) = false := by simpa using c30
       clear c30
       obtain rfl := Option.some.inj H
       go_enter Tryd.func29, Tryd.ntmps29
       try go_wp2_with (first | ((with_reducible refine gate_dst (N := 1) rfl ?_); refine bxe 1 #[.int .i64 a0_0, .int .i64 a0_1, .int .i64 a0_2, .string a0_3, .bool a0_4, .int .i64 a0_5] 25 rfl rfl gr ?_; clear BX; intro gb158 w40 GE158 BX) | ((with_reducible refine gate_callee (f := 59) rfl ?_); refine goesL_ (some 6) rfl rfl Tryd.func59 kr rfl #[.agg #[.int .i64 a0_0, .int .i64 a0_1, .int .i64 a0_2, .string a0_3, .bool a0_4, .int .i64 a0_5]] rfl ga ?_; (with_reducible refine (value_taken.calls k a0_0 a0_1 a0_2 a0_3 a0_4 a0_5 t159 t160 t161 t162 t163 t164 _ A2.out).mono ?_); rintro e w42 ⟨rfl, hb⟩; refine ⟨_, rfl, ?_⟩; replace BX := bx_call hb; clear hb))
       replace BX : Bx w ((((((w42.setCell ⟨gb158, 0, none⟩ (.int .i64 t159)).setCell ⟨gb158, 1, none⟩ (.int .i64 t160)).setCell ⟨gb158, 2, none⟩ (.int .i64 t161)).setCell ⟨gb158, 3, none⟩ (.string t162)).setCell ⟨gb158, 4, none⟩ (.bool t163)).setCell ⟨gb158, 5, none⟩ (.int .i64 t164)) _ := bxi
       generalize ((((((w42.setCell ⟨gb158, 0, none⟩ (.int .i64 t159)).setCell ⟨gb158, 1, none⟩ (.int .i64 t160)).setCell ⟨gb158, 2, none⟩ (.int .i64 t161)).setCell ⟨gb158, 3, none⟩ (.string t162)).setCell ⟨gb158, 4, none⟩ (.bool t163)).setCell ⟨gb158, 5, none⟩ (.int .i64 t164)) = w44 at BX ⊢
       have p19 : 0 ≤ (0 : Int) := (by omega)
       have q19 : 0 < t162.size := (by have : (0 : Int) < (t162.size : Int) := of_decide_eq_true (by first | (with_reducible assumption) | assumption); omega)
       have hx19 : ∀ h : 0 < t162.size, ((t162[0]'h).toNat : Int) = bt t162 0 := bt_at t162 0
       clear p19
       have qi19 : (0 < (t162.size : Int)) = True := eq_true (of_decide_eq_true (by first | (with_reducible assumption) | assumption))
       replace q19 := eq_true q19
       refine startm [true] (n := 16) (ds := []) #[false, false, false, false, false, false, false, false, false, false, false, false, false, false, false, false] kr rfl rfl (fun BX1 => ?_); refine with_tabW value_Show.tab6 value_Show.bits6 (fun HT_ HW_ => ?_)
       clear BX
       have BX := BX1
       clear BX1
       generalize w44.drew = w45 at BX ⊢
       refine pure_ (i := 0) (N := some 18) (v := ?_) (a' := ?_) #[true, false, false, false, false, false, false, false, false, false, false, false, false, false, false, false] rfl rfl (any_of HT_.out kr) (fun _ _ _ h => h) (Or.inl ⟨by rfl, ?_⟩) ?_ ?_
       rotate_left
       ·intro w'
        go_simp
        with_reducible rfl
       rotate_left
       ·simp only [Act.put, List.setIfInBounds_toArray, List.set_cons_zero, List.set_cons_succ, i64_w, i32_w]
        rfl
       refine take_ (i := 1) (N := some 19) (v := ?_) (a' := ?_) #[true, true, false, false, false, false, false, false, false, false, false, false, false, false, false, false] rfl rfl (take_ofW HT_.out HW_.out kr) (fun _ _ _ h => h) (Or.inl ⟨by rfl, ?_⟩) bxs ?_ ?_
       rotate_left
       ·intro w' hS
        go_simp
        with_reducible rfl
       rotate_left
       ·simp only [Act.put, List.setIfInBounds_toArray, List.set_cons_zero, List.set_cons_succ, i64_w, i32_w]
        rfl
       refine pure_ (i := 2) (N := some 20) (v := ?_) (a' := ?_) #[true, true, true, false, false, false, false, false, false, false, false, false, false, false, false, false] rfl rfl (any_of HT_.out kr) (fun _ _ _ h => h) (Or.inl ⟨by rfl, ?_⟩) ?_ ?_
       rotate_left
       ·intro w'
        go_simp
        with_reducible rfl
       rotate_left
       ·simp only [Act.put, List.setIfInBounds_toArray, List.set_cons_zero, List.set_cons_succ, i64_w, i32_w]
        rfl
       refine pure_ (i := 3) (N := some 21) (v := ?_) (a' := ?_) #[true, true, true, true, false, false, false, false, false, false, false, false, false, false, false, false] rfl rfl (any_of HT_.out kr) (fun _ _ _ h => h) (Or.inl ⟨by rfl, ?_⟩) ?_ ?_
       rotate_left
       ·intro w'
        go_simp
        with_reducible rfl
       rotate_left
       ·simp only [Act.put, List.setIfInBounds_toArray, List.set_cons_zero, List.set_cons_succ, i64_w, i32_w]
        rfl
       refine pure_ (i := 4) (N := some 22) (v := ?_) (a' := ?_) #[true, true, true, true, true, false, false, false, false, false, false, false, false, false, false, false] rfl rfl (any_of HT_.out kr) (fun _ _ _ h => h) (Or.inl ⟨by rfl, ?_⟩) ?_ ?_
       rotate_left
       ·intro w'
        go_simp
        with_reducible rfl
       rotate_left
       ·simp only [Act.put, List.setIfInBounds_toArray, List.set_cons_zero, List.set_cons_succ, i64_w, i32_w]
        rfl
       refine take_ (i := 5) (N := some 23) (v := ?_) (a' := ?_) #[true, true, true, true, true, true, false, false, false, false, false, false, false, false, false, false] rfl rfl (take_ofW HT_.out HW_.out kr) (fun _ _ _ h => h) (Or.inl ⟨by rfl, ?_⟩) bxs ?_ ?_
       rotate_left
       ·intro w' hS
        go_simp
        with_reducible rfl
       rotate_left
       ·simp only [Act.put, List.setIfInBounds_toArray, List.set_cons_zero, List.set_cons_succ, i64_w, i32_w]
        rfl
       refine take_ (i := 6) (N := some 24) (v := ?_) (a' := ?_) #[true, true, true, true, true, true, true, false, false, false, false, false, false, false, false, false] rfl rfl (take_ofW HT_.out HW_.out kr) (fun _ _ _ h => h) (Or.inl ⟨by rfl, ?_⟩) bxs ?_ ?_
       rotate_left
       ·intro w' hS
        go_simp
        with_reducible rfl
       rotate_left
       ·simp only [Act.put, List.setIfInBounds_toArray, List.set_cons_zero, List.set_cons_succ, i64_w, i32_w]
        rfl
       refine pure_ (i := 7) (N := some 25) (v := ?_) (a' := ?_) #[true, true, true, true, true, true, true, true, false, false, false, false, false, false, false, false] rfl rfl (any_of HT_.out kr) (fun _ _ _ h => h) (Or.inl ⟨by rfl, ?_⟩) ?_ ?_
       rotate_left
       ·intro w'
        go_simp
        with_reducible rfl
       rotate_left
       ·simp only [Act.put, List.setIfInBounds_toArray, List.set_cons_zero, List.set_cons_succ, i64_w, i32_w]
        rfl
       refine pure_ (i := 8) (N := some 26) (v := ?_) (a' := ?_) #[true, true, true, true, true, true, true, true, true, false, false, false, false, false, false, false] rfl rfl (any_of HT_.out kr) (fun _ _ _ h => h) (Or.inl ⟨by rfl, ?_⟩) ?_ ?_
       rotate_left
       ·intro w'
        go_simp
        with_reducible rfl
       rotate_left
       ·simp only [Act.put, List.setIfInBounds_toArray, List.set_cons_zero, List.set_cons_succ, i64_w, i32_w]
        rfl
       refine pure_ (i := 9) (N := some 27) (v := ?_) (a' := ?_) #[true, true, true, true, true, true, true, true, true, true, false, false, false, false, false, false] rfl rfl (any_of HT_.out kr) (fun _ _ _ h => h) (Or.inl ⟨by rfl, ?_⟩) ?_ ?_
       rotate_left
       ·intro w'
        go_simp
        with_reducible rfl
       rotate_left
       ·simp only [Act.put, List.setIfInBounds_toArray, List.set_cons_zero, List.set_cons_succ, i64_w, i32_w]
        rfl
       refine pure_ (i := 10) (N := some 28) (v := ?_) (a' := ?_) #[true, true, true, true, true, true, true, true, true, true, true, false, false, false, false, false] rfl rfl (any_of HT_.out kr) (fun _ _ _ h => h) (Or.inl ⟨by rfl, ?_⟩) ?_ ?_
       rotate_left
       ·intro w'
        go_simp
        with_reducible rfl
       rotate_left
       ·simp only [Act.put, List.setIfInBounds_toArray, List.set_cons_zero, List.set_cons_succ, i64_w, i32_w]
        rfl
       refine take_ (i := 11) (N := some 29) (v := ?_) (a' := ?_) #[true, true, true, true, true, true, true, true, true, true, true, true, false, false, false, false] rfl rfl (take_ofW HT_.out HW_.out kr) (fun _ _ _ h => h) (Or.inl ⟨by rfl, ?_⟩) bxs ?_ ?_
       rotate_left
       ·intro w' hS
        go_simp
        with_reducible rfl
       rotate_left
       ·simp only [Act.put, List.setIfInBounds_toArray, List.set_cons_zero, List.set_cons_succ, i64_w, i32_w]
        rfl
       refine take_ (i := 13) (N := some 31) (v := ?_) (a' := ?_) #[true, true, true, true, true, true, true, true, true, true, true, true, false, true, false, false] rfl rfl (take_ofW HT_.out HW_.out kr) (fun _ _ _ h => h) (Or.inl ⟨by rfl, ?_⟩) bxs ?_ ?_
       rotate_left
       ·intro w' hS
        go_simp
        with_reducible rfl
       rotate_left
       ·simp only [Act.put, List.setIfInBounds_toArray, List.set_cons_zero, List.set_cons_succ, i64_w, i32_w]
        rfl
       refine one_ (i := 12) (N := some 30) #[true, true, true, true, true, true, true, true, true, true, true, true, true, true, false, false] rfl rfl (one_of HT_.out kr) (by decide) (fun K hK => ?_)
       refine goes_ Tryd.func27 kr rfl #[.string t162] (by rfl) rfl rfl ga ?_
       with_reducible refine (value_Read.calls k t162 t165 t166 t167 t168 t169 t170 _ ?side1 A29.out).mono ?_
       (case side1 => exact HT.out.on bx_bl)
       rintro e w46 ⟨rfl, hb⟩
       refine ⟨_, rfl, ?_⟩
       replace BX := bx_call hb
       clear hb
       refine hK.out _ _ bxs (fun hHeld => ?_)
       clear hK K hHeld
       refine norm_ (a' := ?_) ?_ ?_
       rotate_left
       ·show Act.put _ (some 30) _ = _
        simp only [Act.put, List.setIfInBounds_toArray, List.set_cons_zero, List.set_cons_succ, i64_w, i32_w]
        rfl
       refine pure_ (i := 14) (N := some 32) (v := ?_) (a' := ?_) #[true, true, true, true, true, true, true, true, true, true, true, true, true, true, true, false] rfl rfl (any_of HT_.out kr) (fun _ _ _ h => h) (Or.inl ⟨by rfl, ?_⟩) ?_ ?_
       rotate_left
       ·intro w'
        go_simp
        with_reducible rfl
       rotate_left
       ·simp only [Act.put, List.setIfInBounds_toArray, List.set_cons_zero, List.set_cons_succ, i64_w, i32_w]
        rfl
       refine pure_ (i := 15) (N := some 33) (v := ?_) (a' := ?_) #[true, true, true, true, true, true, true, true, true, true, true, true, true, true, true, true] rfl rfl (any_of HT_.out kr) (fun _ _ _ h => h) (Or.inl ⟨by rfl, ?_⟩) ?_ ?_
       rotate_left
       ·intro w'
        go_simp
        with_reducible rfl
       rotate_left
       ·simp only [Act.put, List.setIfInBounds_toArray, List.set_cons_zero, List.set_cons_succ, i64_w, i32_w]
        rfl
       refine done_ (done_of HT_.out kr) ?_
       try go_wp2
       go_ret
       exact ⟨er2, bx_bl⟩
    ·rw [if_neg c18] at H
     exact absurd H (by simp)
  ·rw [if_neg c8] at H
   have c8b0 : (t159 == 2) = false := beq_eq_false_iff_ne.mpr c8
   have c8b1 : (t159 != 2) = true := bne_iff_ne.mpr c8
   replace H := Option.bind_eq_some_iff.mp H
   obtain ⟨⟨t171, t172, t173, t174, t175, t176, t177⟩, A480, H⟩ := H
   replace H : (some t171) = some r := H
   have A48 := Aside0.mk A480
   clear A480
   obtain rfl := Option.some.inj H
   go_enter Tryd.func29, Tryd.ntmps29
   go_wp2_with (first | ((with_reducible refine gate_dst (N := 1) rfl ?_); refine bxe 1 #[.int .i64 a0_0, .int .i64 a0_1, .int .i64 a0_2, .string a0_3, .bool a0_4, .int .i64 a0_5] 25 rfl rfl gr ?_; clear BX; intro gb158 w49 GE158 BX) | ((with_reducible refine gate_callee (f := 59) rfl ?_); refine goesL_ (some 6) rfl rfl Tryd.func59 kr rfl #[.agg #[.int .i64 a0_0, .int .i64 a0_1, .int .i64 a0_2, .string a0_3, .bool a0_4, .int .i64 a0_5]] rfl ga ?_; (with_reducible refine (value_taken.calls k a0_0 a0_1 a0_2 a0_3 a0_4 a0_5 t159 t160 t161 t162 t163 t164 _ A2.out).mono ?_); rintro e w51 ⟨rfl, hb⟩; refine ⟨_, rfl, ?_⟩; replace BX := bx_call hb; clear hb) | ((with_reducible refine gate_callee (f := 39) rfl ?_); refine goesL_ (some 41) rfl rfl Tryd.func39 kr rfl #[.agg #[.int .i64 t159, .int .i64 t160, .int .i64 t161, .string t162, .bool t163, .int .i64 t164]] rfl ga ?_; (with_reducible refine (value_AsText.calls k t159 t160 t161 t162 t163 t164 t171 t172 t173 t174 t175 t176 t177 _ ?side1 A48.out).mono ?_); (case side1 => exact HT.out.on bx_bl); rintro e w53 ⟨rfl, hb⟩; refine ⟨_, rfl, ?_⟩; replace BX := bx_call hb; clear hb) | ((with_reducible refine gate_dst (N := 4) rfl ?_); refine bxe 4 #[.int .i64 0, .int .i64 0, .int .i64 0, .string (⟨#[]⟩ : ByteArray), .bool false, .int .i64 0] 25 rfl rfl gr ?_; clear BX; intro gb178 w54 GE178 BX))
   go_ret
   exact ⟨er2, bx_bl⟩

end Go.Proofs.YtmakkdlkgfgaoaaDoor.F
