-- Laid by program (wip/tools/genv.sh, pack.py, merge.py of this repo) out of the translation; Lean checks it.
import Derived.Test.YtmakkdlkgfgaoaaDoorF0
import Derived.Test.YtmakkdlkgfgaoaaDoorC0
import Derived.Test.YtmakkdlkgfgaoaaDoorF101
import Derived.Test.YtmakkdlkgfgaoaaDoorF102
import Derived.Test.YtmakkdlkgfgaoaaDoorF103
namespace Go.Proofs.YtmakkdlkgfgaoaaDoor.F
open Go.RowKit Go.Proofs.YtmakkdlkgfgaoaaDoorW.PrintWords Go.Proofs.YtmakkdlkgfgaoaaDoorW.PrintLast Go.Proofs.YtmakkdlkgfgaoaaDoorW.PrintMore
attribute [local go_sem] max2_int min2_int max_two min_two max_three min_three max_four min_four
attribute [local go_sem high] bx_cell bx_frozen
set_option linter.unusedVariables false
set_option linter.unusedSimpArgs false

section
/-! ### value_Cmp: function 32 -/
mutual
def value_Cmp.j0 : Nat → Int → Int → Int → ByteArray → Bool → Int → Int → Int → Int → ByteArray → Bool → Int → Option (Int)
 | 0, _, _, _, _, _, _, _, _, _, _, _, _ => none
 | k + 1, x174000, x174001, x174002, x174003, x174004, x174005, x175000, x175001, x175002, x175003, x175004, x175005 => if x175000 = 0 then ((value_beside.f k x174000).bind fun bt193 => (value_Cmp.j1 k x174000 x174001 x174002 x174003 x174004 x174005 bt193.1 bt193.2.1 bt193.2.2.1 bt193.2.2.2.1 bt193.2.2.2.2.1 bt193.2.2.2.2.2)) else (value_Cmp.j1 k x174000 x174001 x174002 x174003 x174004 x174005 x175000 x175001 x175002 x175003 x175004 x175005)
def value_Cmp.j1 : Nat → Int → Int → Int → ByteArray → Bool → Int → Int → Int → Int → ByteArray → Bool → Int → Option (Int)
 | 0, _, _, _, _, _, _, _, _, _, _, _, _ => none
 | k + 1, x174000, x174001, x174002, x174003, x174004, x174005, x175000, x175001, x175002, x175003, x175004, x175005 => if x174000 < x175000 then (some (-1)) else (if x174000 > x175000 then (some 1) else (if x174000 = 1 then ((num_Cmp.f k x174001 x174002 x175001 x175002).bind fun t199 => (some t199)) else (if x174000 = 2 then ((strings_Compare.f x174003 x175003).bind fun t200 => (some t200)) else (if x174000 = 4 then (some (mx (-1) (mn 1 (wrap64 (x174005 - x175005))))) else (if (x174004 == x175004) = true then (some 0) else (if x175004 = true then (some (-1)) else (some 1)))))))
end
def value_Cmp.f (k : Nat) (a0_0 : Int) (a0_1 : Int) (a0_2 : Int) (a0_3 : ByteArray) (a0_4 : Bool) (a0_5 : Int) (a1_0 : Int) (a1_1 : Int) (a1_2 : Int) (a1_3 : ByteArray) (a1_4 : Bool) (a1_5 : Int) : Option (Int) := (value_taken.f k a0_0 a0_1 a0_2 a0_3 a0_4 a0_5).bind fun bt175 => ((value_taken.f k a1_0 a1_1 a1_2 a1_3 a1_4 a1_5).bind fun bt181 => (if bt175.1 = 0 then ((value_beside.f k bt181.1).bind fun bt187 => (value_Cmp.j0 k bt187.1 bt187.2.1 bt187.2.2.1 bt187.2.2.2.1 bt187.2.2.2.2.1 bt187.2.2.2.2.2 bt181.1 bt181.2.1 bt181.2.2.1 bt181.2.2.2.1 bt181.2.2.2.2.1 bt181.2.2.2.2.2)) else (value_Cmp.j0 k bt175.1 bt175.2.1 bt175.2.2.1 bt175.2.2.2.1 bt175.2.2.2.2.1 bt175.2.2.2.2.2 bt181.1 bt181.2.1 bt181.2.2.1 bt181.2.2.2.1 bt181.2.2.2.2.1 bt181.2.2.2.2.2)))
theorem value_Cmp.mono_l : ∀ k, (∀ y0 y1 y2 y3 y4 y5 y6 y7 y8 y9 y10 y11, LeO (value_Cmp.j0 k y0 y1 y2 y3 y4 y5 y6 y7 y8 y9 y10 y11) (value_Cmp.j0 (k + 1) y0 y1 y2 y3 y4 y5 y6 y7 y8 y9 y10 y11)) ∧ (∀ y0 y1 y2 y3 y4 y5 y6 y7 y8 y9 y10 y11, LeO (value_Cmp.j1 k y0 y1 y2 y3 y4 y5 y6 y7 y8 y9 y10 y11) (value_Cmp.j1 (k + 1) y0 y1 y2 y3 y4 y5 y6 y7 y8 y9 y10 y11))
 | 0 => ⟨fun _ _ _ _ _ _ _ _ _ _ _ _ r h => by simp [value_Cmp.j0] at h, fun _ _ _ _ _ _ _ _ _ _ _ _ r h => by simp [value_Cmp.j1] at h⟩
 | k + 1 => by
  obtain ⟨ih0, ih1⟩ := value_Cmp.mono_l k
  refine ⟨?_, ?_⟩
  ·intro y0 y1 y2 y3 y4 y5 y6 y7 y8 y9 y10 y11
   unfold value_Cmp.j0
   repeat' first
   | (with_reducible exact ih0 _ _ _ _ _ _ _ _ _ _ _ _)
   | (with_reducible exact ih1 _ _ _ _ _ _ _ _ _ _ _ _)
   | (with_reducible exact num_Cmp.mono _ _ _ _ _)
   | (with_reducible exact value_beside.mono _ _)
   | (with_reducible exact value_taken.mono _ _ _ _ _ _ _)
   | (with_reducible exact LeO.refl _)
   | (with_reducible exact LeO.none _)
   | (with_reducible refine LeO.ite ?_ ?_)
   | (with_reducible refine LeO.bind ?_ (fun _ => ?_))
   | exact ih0 _ _ _ _ _ _ _ _ _ _ _ _
   | exact ih1 _ _ _ _ _ _ _ _ _ _ _ _
   | exact num_Cmp.mono _ _ _ _ _
   | exact value_beside.mono _ _
   | exact value_taken.mono _ _ _ _ _ _ _
   | exact LeO.none _
   | refine LeO.ite ?_ ?_
   | refine LeO.bind ?_ (fun _ => ?_)
  ·intro y0 y1 y2 y3 y4 y5 y6 y7 y8 y9 y10 y11
   unfold value_Cmp.j1
   repeat' first
   | (with_reducible exact ih0 _ _ _ _ _ _ _ _ _ _ _ _)
   | (with_reducible exact ih1 _ _ _ _ _ _ _ _ _ _ _ _)
   | (with_reducible exact num_Cmp.mono _ _ _ _ _)
   | (with_reducible exact value_beside.mono _ _)
   | (with_reducible exact value_taken.mono _ _ _ _ _ _ _)
   | (with_reducible exact LeO.refl _)
   | (with_reducible exact LeO.none _)
   | (with_reducible refine LeO.ite ?_ ?_)
   | (with_reducible refine LeO.bind ?_ (fun _ => ?_))
   | exact ih0 _ _ _ _ _ _ _ _ _ _ _ _
   | exact ih1 _ _ _ _ _ _ _ _ _ _ _ _
   | exact num_Cmp.mono _ _ _ _ _
   | exact value_beside.mono _ _
   | exact value_taken.mono _ _ _ _ _ _ _
   | exact LeO.none _
   | refine LeO.ite ?_ ?_
   | refine LeO.bind ?_ (fun _ => ?_)
theorem value_Cmp.mono : ∀ a0 a1 a2 a3 a4 a5 a6 a7 a8 a9 a10 a11 k, LeO (value_Cmp.f k a0 a1 a2 a3 a4 a5 a6 a7 a8 a9 a10 a11) (value_Cmp.f (k + 1) a0 a1 a2 a3 a4 a5 a6 a7 a8 a9 a10 a11) := by
 intro a0 a1 a2 a3 a4 a5 a6 a7 a8 a9 a10 a11 k
 obtain ⟨ih0, ih1⟩ := value_Cmp.mono_l k
 unfold value_Cmp.f
 repeat' first
   | (with_reducible exact ih0 _ _ _ _ _ _ _ _ _ _ _ _)
   | (with_reducible exact ih1 _ _ _ _ _ _ _ _ _ _ _ _)
   | (with_reducible exact num_Cmp.mono _ _ _ _ _)
   | (with_reducible exact value_beside.mono _ _)
   | (with_reducible exact value_taken.mono _ _ _ _ _ _ _)
   | (with_reducible exact LeO.refl _)
   | (with_reducible exact LeO.none _)
   | (with_reducible refine LeO.ite ?_ ?_)
   | (with_reducible refine LeO.bind ?_ (fun _ => ?_))
   | exact ih0 _ _ _ _ _ _ _ _ _ _ _ _
   | exact ih1 _ _ _ _ _ _ _ _ _ _ _ _
   | exact num_Cmp.mono _ _ _ _ _
   | exact value_beside.mono _ _
   | exact value_taken.mono _ _ _ _ _ _ _
   | exact LeO.none _
   | refine LeO.ite ?_ ?_
   | refine LeO.bind ?_ (fun _ => ?_)
set_option maxHeartbeats 8000000 in
set_option maxRecDepth 100000 in
theorem value_Cmp.calls (k : Nat) (a0_0 : Int) (a0_1 : Int) (a0_2 : Int) (a0_3 : ByteArray) (a0_4 : Bool) (a0_5 : Int) (a1_0 : Int) (a1_1 : Int) (a1_2 : Int) (a1_3 : ByteArray) (a1_4 : Bool) (a1_5 : Int) (r : Int) (w : World) (h : value_Cmp.f k a0_0 a0_1 a0_2 a0_3 a0_4 a0_5 a1_0 a1_1 a1_2 a1_3 a1_4 a1_5 = some r) :
  Calls Tryd.prog 32 #[.agg #[.int .i64 a0_0, .int .i64 a0_1, .int .i64 a0_2, .string a0_3, .bool a0_4, .int .i64 a0_5], .agg #[.int .i64 a1_0, .int .i64 a1_1, .int .i64 a1_2, .string a1_3, .bool a1_4, .int .i64 a1_5]] w fun e w' => e = .returned (.int .i64 r) ∧ Below w.heap.size w w' := by
 have hu25 := Tryd.underlying25
 have hu23 := Tryd.underlying23
 have BX := Bx.start w
 have H : ((value_taken.f k a0_0 a0_1 a0_2 a0_3 a0_4 a0_5).bind fun bt175 => ((value_taken.f k a1_0 a1_1 a1_2 a1_3 a1_4 a1_5).bind fun bt181 => (if bt175.1 = 0 then ((value_beside.f k bt181.1).bind fun bt187 => (value_Cmp.j0 k bt187.1 bt187.2.1 bt187.2.2.1 bt187.2.2.2.1 bt187.2.2.2.2.1 bt187.2.2.2.2.2 bt181.1 bt181.2.1 bt181.2.2.1 bt181.2.2.2.1 bt181.2.2.2.2.1 bt181.2.2.2.2.2)) else (value_Cmp.j0 k bt175.1 bt175.2.1 bt175.2.2.1 bt175.2.2.2.1 bt175.2.2.2.2.1 bt175.2.2.2.2.2 bt181.1 bt181.2.1 bt181.2.2.1 bt181.2.2.2.1 bt181.2.2.2.2.1 bt181.2.2.2.2.2)))) = some r := h
 clear h
 replace H := Option.bind_eq_some_iff.mp H
 obtain ⟨⟨t175, t176, t177, t178, t179, t180⟩, A30, H⟩ := H
 have A3 := Aside0.mk A30
 clear A30
 replace H := Option.bind_eq_some_iff.mp H
 obtain ⟨⟨t181, t182, t183, t184, t185, t186⟩, A40, H⟩ := H
 replace H : (if t175 = 0 then ((value_beside.f k t181).bind fun bt187 => (value_Cmp.j0 k bt187.1 bt187.2.1 bt187.2.2.1 bt187.2.2.2.1 bt187.2.2.2.2.1 bt187.2.2.2.2.2 t181 t182 t183 t184 t185 t186)) else (value_Cmp.j0 k t175 t176 t177 t178 t179 t180 t181 t182 t183 t184 t185 t186)) = some r := H
 have A4 := Aside0.mk A40
 clear A40
 have HC5 := Aside0.mk H
 clear H
 go_enter Tryd.func32, Tryd.ntmps32
 try go_wp2_with (first | ((with_reducible refine gate_dst (N := 2) rfl ?_); refine bxe 2 #[.int .i64 a0_0, .int .i64 a0_1, .int .i64 a0_2, .string a0_3, .bool a0_4, .int .i64 a0_5] 25 rfl rfl gr ?_; clear BX; intro gb173 w6 GE173 BX) | ((with_reducible refine gate_dst (N := 3) rfl ?_); refine bxe 3 #[.int .i64 a1_0, .int .i64 a1_1, .int .i64 a1_2, .string a1_3, .bool a1_4, .int .i64 a1_5] 25 rfl rfl gr ?_; clear BX; intro gb174 w7 GE174 BX))
 refine startm [true, true] (n := 6) (ds := [4, 5]) #[false, false, false, false, false, false] kr rfl rfl (fun BX1 => ?_)
 clear BX
 have BX := BX1
 clear BX1
 generalize w7.drew = w8 at BX ⊢
 refine take_ (i := 0) (N := some 5) (v := ?_) (a' := ?_) #[true, false, false, false, false, false] rfl rfl kr (fun _ _ _ h => h) (Or.inl ⟨by rfl, ?_⟩) bxs ?_ ?_
 rotate_left
 ·intro w' hS
  go_simp
  with_reducible rfl
 rotate_left
 ·simp only [Act.put, List.setIfInBounds_toArray, List.set_cons_zero, List.set_cons_succ, i64_w, i32_w]
  rfl
 refine take_ (i := 2) (N := some 7) (v := ?_) (a' := ?_) #[true, false, true, false, false, false] rfl rfl kr (fun _ _ _ h => h) (Or.inl ⟨by rfl, ?_⟩) bxs ?_ ?_
 rotate_left
 ·intro w' hS
  go_simp
  with_reducible rfl
 rotate_left
 ·simp only [Act.put, List.setIfInBounds_toArray, List.set_cons_zero, List.set_cons_succ, i64_w, i32_w]
  rfl
 refine one_ (i := 1) (N := some 6) #[true, true, true, false, false, false] rfl rfl kr (by decide) (fun K hK => ?_)
 refine goes_ Tryd.func59 kr rfl #[.agg #[.int .i64 a0_0, .int .i64 a0_1, .int .i64 a0_2, .string a0_3, .bool a0_4, .int .i64 a0_5]] (by rfl) rfl rfl ga ?_
 with_reducible refine (value_taken.calls k a0_0 a0_1 a0_2 a0_3 a0_4 a0_5 t175 t176 t177 t178 t179 t180 _ A3.out).mono ?_
 rintro e w9 ⟨rfl, hb⟩
 refine ⟨_, rfl, ?_⟩
 replace BX := bx_call hb
 clear hb
 refine hK.out _ _ bxs (fun hHeld => ?_)
 clear hK K hHeld
 refine norm_ (a' := ?_) ?_ ?_
 rotate_left
 ·show Act.put _ (some 6) _ = _
  simp only [Act.put, List.setIfInBounds_toArray, List.set_cons_zero, List.set_cons_succ, i64_w, i32_w]
  rfl
 refine one_ (i := 3) (N := some 8) #[true, true, true, true, false, false] rfl rfl kr (by decide) (fun K hK => ?_)
 refine goes_ Tryd.func59 kr rfl #[.agg #[.int .i64 a1_0, .int .i64 a1_1, .int .i64 a1_2, .string a1_3, .bool a1_4, .int .i64 a1_5]] (by rfl) rfl rfl ga ?_
 with_reducible refine (value_taken.calls k a1_0 a1_1 a1_2 a1_3 a1_4 a1_5 t181 t182 t183 t184 t185 t186 _ A4.out).mono ?_
 rintro e w10 ⟨rfl, hb⟩
 refine ⟨_, rfl, ?_⟩
 replace BX := bx_call hb
 clear hb
 refine hK.out _ _ bxs (fun hHeld => ?_)
 clear hK K hHeld
 refine norm_ (a' := ?_) ?_ ?_
 rotate_left
 ·show Act.put _ (some 8) _ = _
  simp only [Act.put, List.setIfInBounds_toArray, List.set_cons_zero, List.set_cons_succ, i64_w, i32_w]
  rfl
 refine last_ (i := 4) (N := none) #[true, true, true, true, true, false] rfl rfl kr (by decide) (fun K hK => ?_)
 refine skip_ (w1 := ?_) (by rfl) rfl ?_ ?_
 rotate_left
 ·go_simp
  rfl
 refine hK.out _ _ ?_
 clear hK K
 refine last_ (i := 5) (N := none) #[true, true, true, true, true, true] rfl rfl kr (by decide) (fun K hK => ?_)
 refine skip_ (w1 := ?_) (by rfl) rfl ?_ ?_
 rotate_left
 ·go_simp
  rfl
 refine hK.out _ _ ?_
 clear hK K
 refine done_ kr ?_
 go_upto_if 11 with (fail)
 go_cut [] (fun wc => ∃ (kq : Nat) (x174000_4 : Int) (x174001_4 : Int) (x174002_4 : Int) (x174003_4 : ByteArray) (x174004_4 : Bool) (x174005_4 : Int), Aside0 (value_Cmp.j0 kq x174000_4 x174001_4 x174002_4 x174003_4 x174004_4 x174005_4 t181 t182 t183 t184 t185 t186 = some r) ∧ Aside0 (kq ≤ k) ∧ Bx w wc [(gb174, 25, #[.int .i64 t181, .int .i64 t182, .int .i64 t183, .string t184, .bool t185, .int .i64 t186]), (gb173, 25, #[.int .i64 x174000_4, .int .i64 x174001_4, .int .i64 x174002_4, .string x174003_4, .bool x174004_4, .int .i64 x174005_4])])
 case first =>
  have H := HC5.out
  clear HC5
  by_cases c25 : t175 = 0
  ·rw [if_pos c25] at H
   have c25b0 : (t175 == 0) = true := beq_iff_eq.mpr c25
   have c25b1 : (t175 != 0) = false := bne_eq_false_iff_eq.mpr c25
   clear c25
   (first | rw [c25b0] | (simp only [i64_w, i32_w]; rw [c25b0]) | skip)
   replace H := Option.bind_eq_some_iff.mp H
   obtain ⟨⟨t187, t188, t189, t190, t191, t192⟩, A260, H⟩ := H
   replace H : (value_Cmp.j0 k t187 t188 t189 t190 t191 t192 t181 t182 t183 t184 t185 t186) = some r := H
   have A26 := Aside0.mk A260
   clear A260
   have H' := Aside0.mk H
   clear H
   go_wp2_with (first | ((with_reducible refine gate_callee (f := 65) rfl ?_); refine goesL_ (some 14) rfl rfl Tryd.func65 kr rfl #[.int .i64 t181] rfl ga ?_; (with_reducible refine (value_beside.calls k t181 t187 t188 t189 t190 t191 t192 _ A26.out).mono ?_); rintro e w29 ⟨rfl, hb⟩; refine ⟨_, rfl, ?_⟩; replace BX := bx_call hb; clear hb))
   go_meet
   case rel => exact ⟨_, (t187), (t188), (t189), (t190), (t191), (t192), H', ⟨by first | omega | exact Nat.le_refl _⟩, bxs⟩
  ·rw [if_neg c25] at H
   have c25b0 : (t175 == 0) = false := beq_eq_false_iff_ne.mpr c25
   have c25b1 : (t175 != 0) = true := bne_iff_ne.mpr c25
   (first | rw [c25b0] | (simp only [i64_w, i32_w]; rw [c25b0]) | skip)
   have H' := Aside0.mk H
   clear H
   go_wp2
   go_meet
   case rel => exact ⟨_, (t175), (t176), (t177), (t178), (t179), (t180), H', ⟨by first | omega | exact Nat.le_refl _⟩, bxs⟩
 case rest =>
  clear HC5
  try clear c2
  try clear p2
  try clear c3
  try clear c5
  try clear c6
  try clear c23
  try clear c25
  try clear c25b0
  try clear c25b1
  try clear c27
  obtain ⟨kq, x174000_4, x174001_4, x174002_4, x174003_4, x174004_4, x174005_4, HA, HJ4, BX⟩ := hcut
  cases kq with
  | zero => exact absurd HA.out (by simp [value_Cmp.j0])
  | succ kj4 =>
   have H := HA.out
   clear HA
   simp only [value_Cmp.j0] at H
   have HC31 := Aside0.mk H
   clear H
   go_upto_if 17 with (fail)
   go_cut [] (fun wc => ∃ (kq : Nat) (x175000_30 : Int) (x175001_30 : Int) (x175002_30 : Int) (x175003_30 : ByteArray) (x175004_30 : Bool) (x175005_30 : Int), Aside0 (value_Cmp.j1 kq x174000_4 x174001_4 x174002_4 x174003_4 x174004_4 x174005_4 x175000_30 x175001_30 x175002_30 x175003_30 x175004_30 x175005_30 = some r) ∧ Aside0 (kq ≤ kj4) ∧ Bx w wc [(gb174, 25, #[.int .i64 x175000_30, .int .i64 x175001_30, .int .i64 x175002_30, .string x175003_30, .bool x175004_30, .int .i64 x175005_30]), (gb173, 25, #[.int .i64 x174000_4, .int .i64 x174001_4, .int .i64 x174002_4, .string x174003_4, .bool x174004_4, .int .i64 x174005_4])])
   case first =>
    have H := HC31.out
    clear HC31
    by_cases c34 : t181 = 0
    ·rw [if_pos c34] at H
     have c34b0 : (t181 == 0) = true := beq_iff_eq.mpr c34
     have c34b1 : (t181 != 0) = false := bne_eq_false_iff_eq.mpr c34
     clear c34
     (first | rw [c34b0] | (simp only [i64_w, i32_w]; rw [c34b0]) | skip)
     replace H := Option.bind_eq_some_iff.mp H
     obtain ⟨⟨t193, t194, t195, t196, t197, t198⟩, A350, H⟩ := H
     replace H : (value_Cmp.j1 kj4 x174000_4 x174001_4 x174002_4 x174003_4 x174004_4 x174005_4 t193 t194 t195 t196 t197 t198) = some r := H
     have A35 := Aside0.mk A350
     clear A350
     have H' := Aside0.mk H
     clear H
     go_wp2_with (first | ((with_reducible refine gate_callee (f := 65) rfl ?_); refine goesL_ (some 20) rfl rfl Tryd.func65 kr rfl #[.int .i64 x174000_4] rfl ga ?_; (with_reducible refine (value_beside.calls kj4 x174000_4 t193 t194 t195 t196 t197 t198 _ A35.out).mono ?_); rintro e w38 ⟨rfl, hb⟩; refine ⟨_, rfl, ?_⟩; replace BX := bx_call hb; clear hb))
     go_meet
     case rel => exact ⟨_, (t193), (t194), (t195), (t196), (t197), (t198), H', ⟨by have := HJ4.out; first | omega | exact Nat.le_refl _⟩, bxs⟩
    ·rw [if_neg c34] at H
     have c34b0 : (t181 == 0) = false := beq_eq_false_iff_ne.mpr c34
     have c34b1 : (t181 != 0) = true := bne_iff_ne.mpr c34
     (first | rw [c34b0] | (simp only [i64_w, i32_w]; rw [c34b0]) | skip)
     have H' := Aside0.mk H
     clear H
     go_wp2
     go_meet
     case rel => exact ⟨_, (t181), (t182), (t183), (t184), (t185), (t186), H', ⟨by have := HJ4.out; first | omega | exact Nat.le_refl _⟩, bxs⟩
   case rest =>
    clear HC31
    try clear c2
    try clear p2
    try clear c3
    try clear c5
    try clear c6
    try clear c23
    try clear c25
    try clear c25b0
    try clear c25b1
    try clear c27
    try clear c32
    try clear c34
    try clear c34b0
    try clear c34b1
    try clear c36
    try clear p2
    obtain ⟨kq, x175000_30, x175001_30, x175002_30, x175003_30, x175004_30, x175005_30, HA, HJ30, BX⟩ := hcut
    cases kq with
    | zero => exact absurd HA.out (by simp [value_Cmp.j1])
    | succ kj30 =>
     have H := HA.out
     clear HA
     simp only [value_Cmp.j1] at H
     by_cases c40 : x174000_4 < x175000_30
     ·rw [if_pos c40] at H
      have c40b0 : decide (x174000_4 < x175000_30) = true := decide_eq_true c40
      clear c40
      obtain rfl := Option.some.inj H
      go_wp2
      go_ret
      exact ⟨er2, bx_bl⟩
     ·rw [if_neg c40] at H
      have c40b0 : decide (x174000_4 < x175000_30) = false := decide_eq_false c40
      clear c40
      by_cases c44 : x174000_4 > x175000_30
      ·rw [if_pos c44] at H
       have c44b0 : decide (x175000_30 < x174000_4) = true := decide_eq_true c44
       clear c44
       obtain rfl := Option.some.inj H
       go_wp2
       go_ret
       exact ⟨er2, bx_bl⟩
      ·rw [if_neg c44] at H
       have c44b0 : decide (x175000_30 < x174000_4) = false := decide_eq_false c44
       clear c44
       by_cases c48 : x174000_4 = 1
       ·rw [if_pos c48] at H
        have c48b0 : (x174000_4 == 1) = true := beq_iff_eq.mpr c48
        have c48b1 : (x174000_4 != 1) = false := bne_eq_false_iff_eq.mpr c48
        clear c48
        replace H := Option.bind_eq_some_iff.mp H
        obtain ⟨t199, A490, H⟩ := H
        replace H : (some t199) = some r := H
        have A49 := Aside0.mk A490
        clear A490
        obtain rfl := Option.some.inj H
        go_wp2_with (first | ((with_reducible refine gate_callee (f := 66) rfl ?_); refine goesL_ (some 41) rfl rfl Tryd.func66 kr rfl #[.agg #[.int .i64 x174001_4, .int .i64 x174002_4], .agg #[.int .i64 x175001_30, .int .i64 x175002_30]] rfl ga ?_; (with_reducible refine (num_Cmp.calls kj30 x174001_4 x174002_4 x175001_30 x175002_30 t199 _ A49.out).mono ?_); rintro e w53 ⟨rfl, hb⟩; refine ⟨_, rfl, ?_⟩; replace BX := bx_call hb; clear hb))
        go_ret
        exact ⟨er2, bx_bl⟩
       ·rw [if_neg c48] at H
        have c48b0 : (x174000_4 == 1) = false := beq_eq_false_iff_ne.mpr c48
        have c48b1 : (x174000_4 != 1) = true := bne_iff_ne.mpr c48
        by_cases c54 : x174000_4 = 2
        ·rw [if_pos c54] at H
         have c54b0 : (x174000_4 == 2) = true := beq_iff_eq.mpr c54
         have c54b1 : (x174000_4 != 2) = false := bne_eq_false_iff_eq.mpr c54
         clear c54
         replace H := Option.bind_eq_some_iff.mp H
         obtain ⟨t200, A550, H⟩ := H
         replace H : (some t200) = some r := H
         have A55 := Aside0.mk A550
         clear A550
         obtain rfl := Option.some.inj H
         go_wp2_with (first | ((with_reducible refine gate_callee (f := 67) rfl ?_); refine goesL_ (some 50) rfl rfl Tryd.func67 kr rfl #[.string x174003_4, .string x175003_30] rfl ga ?_; (with_reducible refine (strings_Compare.calls x174003_4 x175003_30 t200 _ A55.out).mono ?_); rintro e w' ⟨rfl, ⟨nd, rfl⟩⟩; refine ⟨_, rfl, ?_⟩))
         go_ret
         exact ⟨er2, bx_bl⟩
        ·rw [if_neg c54] at H
         have c54b0 : (x174000_4 == 2) = false := beq_eq_false_iff_ne.mpr c54
         have c54b1 : (x174000_4 != 2) = true := bne_iff_ne.mpr c54
         by_cases c59 : x174000_4 = 4
         ·rw [if_pos c59] at H
          have c59b0 : (x174000_4 == 4) = true := beq_iff_eq.mpr c59
          have c59b1 : (x174000_4 != 4) = false := bne_eq_false_iff_eq.mpr c59
          clear c59
          obtain ⟨ji60, hji60⟩ : ∃ j_ : Int, (mn 1 (wrap64 (x174005_4 - x175005_30))) = j_ := ⟨_, rfl⟩
          replace H : (some (mx (-1) (ji60))) = some r := by first | (rw [hji60] at H; exact H) | (simp only [hji60] at H ⊢; exact H)
          have hji60_ : (if (wrap64 (x174005_4 - x175005_30)) < 1 then (wrap64 (x174005_4 - x175005_30)) else 1) = ji60 := hji60
          obtain ⟨ji61, hji61⟩ : ∃ j_ : Int, (mx (-1) (ji60)) = j_ := ⟨_, rfl⟩
          replace H : (some ji61) = some r := by first | (rw [hji61] at H; exact H) | (simp only [hji61] at H ⊢; exact H)
          have hji61_ : (if (-1) < (ji60) then (ji60) else (-1)) = ji61 := hji61
          obtain rfl := Option.some.inj H
          go_wp2
          go_ret
          exact ⟨by first | rfl | (simp [errW_none, errW_some] <;> rfl) | (simp only [← hji60, ← hji61]; first | rfl | (simp [errW_none, errW_some] <;> rfl)) | (simp [*, errW_none, errW_some] <;> rfl), bx_bl⟩
         ·rw [if_neg c59] at H
          have c59b0 : (x174000_4 == 4) = false := beq_eq_false_iff_ne.mpr c59
          have c59b1 : (x174000_4 != 4) = true := bne_iff_ne.mpr c59
          by_cases c65 : (x174004_4 == x175004_30) = true
          ·rw [if_pos c65] at H
           have c65b0 : (x174004_4 == x175004_30) = true := c65
           (try (have c65b1 : decide (x174004_4 = x175004_30) = true := by simpa using c65))
           (try (have c65b2 : (x174004_4 == x175004_30) = true := by simpa using c65))
           clear c65
           obtain rfl := Option.some.inj H
           go_wp2
           go_ret
           exact ⟨er2, bx_bl⟩
          ·rw [if_neg c65] at H
           have c65b0 : (x174004_4 == x175004_30) = false := by simpa using c65
           (try (have c65b1 : decide (x174004_4 = x175004_30) = false := by simpa using c65))
           (try (have c65b2 : (x174004_4 == x175004_30) = false := by simpa using c65))
           (try (have c65b3 : ¬ (x174004_4 = x175004_30) := by simpa using c65))
           clear c65
           by_cases c69 : x175004_30 = true
           ·subst c69
            have H1 : (some (-1)) = some r := by rw [if_pos rfl] at H; exact H
            clear H
            have H := H1
            clear H1
            obtain rfl := Option.some.inj H
            go_wp2
            go_ret
            exact ⟨er2, bx_bl⟩
           ·replace c69 := Bool.eq_false_iff.mpr c69
            subst c69
            have H1 : (some 1) = some r := by rw [if_neg (show ¬ (false = true) by decide)] at H; exact H
            clear H
            have H := H1
            clear H1
            obtain rfl := Option.some.inj H
            go_wp2
            go_ret
            exact ⟨er2, bx_bl⟩
end
section
/-! ### value_AsNumber: function 37 -/
def value_AsNumber.f (k : Nat) (a0_0 : Int) (a0_1 : Int) (a0_2 : Int) (a0_3 : ByteArray) (a0_4 : Bool) (a0_5 : Int) : Option (Int × Int × Int × Int × Int × ByteArray × Bool × Int) := (value_taken.f k a0_0 a0_1 a0_2 a0_3 a0_4 a0_5).bind fun bt240 => (if bt240.1 = 1 then ((value_Blank.f).bind fun bt246 => (some (bt240.2.1, bt240.2.2.1, bt246.1, bt246.2.1, bt246.2.2.1, bt246.2.2.2.1, bt246.2.2.2.2.1, bt246.2.2.2.2.2))) else (if bt240.1 = 3 then (if bt240.2.2.2.2.1 = true then ((value_number.f 1).bind fun bt260 => ((value_Blank.f).bind fun bt262 => (some (bt260.1, bt260.2, bt262.1, bt262.2.1, bt262.2.2.1, bt262.2.2.2.1, bt262.2.2.2.2.1, bt262.2.2.2.2.2)))) else ((value_number.f 0).bind fun bt268 => ((value_Blank.f).bind fun bt270 => (some (bt268.1, bt268.2, bt270.1, bt270.2.1, bt270.2.2.1, bt270.2.2.2.1, bt270.2.2.2.2.1, bt270.2.2.2.2.2))))) else (if bt240.1 = 0 then ((value_number.f 0).bind fun bt252 => ((value_Blank.f).bind fun bt254 => (some (bt252.1, bt252.2, bt254.1, bt254.2.1, bt254.2.2.1, bt254.2.2.2.1, bt254.2.2.2.2.1, bt254.2.2.2.2.2)))) else (if bt240.1 = 2 then ((num_Read.f k bt240.2.2.2.1).bind fun bt276 => (if bt276.2.2 = true then ((value_Blank.f).bind fun bt280 => (some (bt276.1, bt276.2.1, bt280.1, bt280.2.1, bt280.2.2.1, bt280.2.2.2.1, bt280.2.2.2.2.1, bt280.2.2.2.2.2))) else ((value_Fault.f 2).bind fun bt286 => (some (0, 0, bt286.1, bt286.2.1, bt286.2.2.1, bt286.2.2.2.1, bt286.2.2.2.2.1, bt286.2.2.2.2.2))))) else (some (0, 0, bt240.1, bt240.2.1, bt240.2.2.1, bt240.2.2.2.1, bt240.2.2.2.2.1, bt240.2.2.2.2.2))))))
theorem value_AsNumber.mono : ∀ a0 a1 a2 a3 a4 a5 k, LeO (value_AsNumber.f k a0 a1 a2 a3 a4 a5) (value_AsNumber.f (k + 1) a0 a1 a2 a3 a4 a5) := by
 intro a0 a1 a2 a3 a4 a5 k
 unfold value_AsNumber.f
 repeat' first
   | (with_reducible exact num_Read.mono _ _)
   | (with_reducible exact value_taken.mono _ _ _ _ _ _ _)
   | (with_reducible exact LeO.refl _)
   | (with_reducible exact LeO.none _)
   | (with_reducible refine LeO.ite ?_ ?_)
   | (with_reducible refine LeO.bind ?_ (fun _ => ?_))
   | exact num_Read.mono _ _
   | exact value_taken.mono _ _ _ _ _ _ _
   | exact LeO.none _
   | refine LeO.ite ?_ ?_
   | refine LeO.bind ?_ (fun _ => ?_)
set_option maxHeartbeats 8000000 in
set_option maxRecDepth 100000 in
theorem value_AsNumber.calls (k : Nat) (a0_0 : Int) (a0_1 : Int) (a0_2 : Int) (a0_3 : ByteArray) (a0_4 : Bool) (a0_5 : Int) (r1 : Int) (r2 : Int) (r3 : Int) (r4 : Int) (r5 : Int) (r6 : ByteArray) (r7 : Bool) (r8 : Int) (w : World) (h : value_AsNumber.f k a0_0 a0_1 a0_2 a0_3 a0_4 a0_5 = some (r1, r2, r3, r4, r5, r6, r7, r8)) :
  Calls Tryd.prog 37 #[.agg #[.int .i64 a0_0, .int .i64 a0_1, .int .i64 a0_2, .string a0_3, .bool a0_4, .int .i64 a0_5]] w fun e w' => e = .returned (.tuple #[.agg #[.int .i64 r1, .int .i64 r2], .agg #[.int .i64 r3, .int .i64 r4, .int .i64 r5, .string r6, .bool r7, .int .i64 r8]]) ∧ Below w.heap.size w w' := by
 have hu25 := Tryd.underlying25
 have hu23 := Tryd.underlying23
 have BX := Bx.start w
 have H : ((value_taken.f k a0_0 a0_1 a0_2 a0_3 a0_4 a0_5).bind fun bt240 => (if bt240.1 = 1 then ((value_Blank.f).bind fun bt246 => (some (bt240.2.1, bt240.2.2.1, bt246.1, bt246.2.1, bt246.2.2.1, bt246.2.2.2.1, bt246.2.2.2.2.1, bt246.2.2.2.2.2))) else (if bt240.1 = 3 then (if bt240.2.2.2.2.1 = true then ((value_number.f 1).bind fun bt260 => ((value_Blank.f).bind fun bt262 => (some (bt260.1, bt260.2, bt262.1, bt262.2.1, bt262.2.2.1, bt262.2.2.2.1, bt262.2.2.2.2.1, bt262.2.2.2.2.2)))) else ((value_number.f 0).bind fun bt268 => ((value_Blank.f).bind fun bt270 => (some (bt268.1, bt268.2, bt270.1, bt270.2.1, bt270.2.2.1, bt270.2.2.2.1, bt270.2.2.2.2.1, bt270.2.2.2.2.2))))) else (if bt240.1 = 0 then ((value_number.f 0).bind fun bt252 => ((value_Blank.f).bind fun bt254 => (some (bt252.1, bt252.2, bt254.1, bt254.2.1, bt254.2.2.1, bt254.2.2.2.1, bt254.2.2.2.2.1, bt254.2.2.2.2.2)))) else (if bt240.1 = 2 then ((num_Read.f k bt240.2.2.2.1).bind fun bt276 => (if bt276.2.2 = true then ((value_Blank.f).bind fun bt280 => (some (bt276.1, bt276.2.1, bt280.1, bt280.2.1, bt280.2.2.1, bt280.2.2.2.1, bt280.2.2.2.2.1, bt280.2.2.2.2.2))) else ((value_Fault.f 2).bind fun bt286 => (some (0, 0, bt286.1, bt286.2.1, bt286.2.2.1, bt286.2.2.2.1, bt286.2.2.2.2.1, bt286.2.2.2.2.2))))) else (some (0, 0, bt240.1, bt240.2.1, bt240.2.2.1, bt240.2.2.2.1, bt240.2.2.2.2.1, bt240.2.2.2.2.2))))))) = some (r1, r2, r3, r4, r5, r6, r7, r8) := h
 clear h
 replace H := Option.bind_eq_some_iff.mp H
 obtain ⟨⟨t240, t241, t242, t243, t244, t245⟩, A20, H⟩ := H
 replace H : (if t240 = 1 then ((value_Blank.f).bind fun bt246 => (some (t241, t242, bt246.1, bt246.2.1, bt246.2.2.1, bt246.2.2.2.1, bt246.2.2.2.2.1, bt246.2.2.2.2.2))) else (if t240 = 3 then (if t244 = true then ((value_number.f 1).bind fun bt260 => ((value_Blank.f).bind fun bt262 => (some (bt260.1, bt260.2, bt262.1, bt262.2.1, bt262.2.2.1, bt262.2.2.2.1, bt262.2.2.2.2.1, bt262.2.2.2.2.2)))) else ((value_number.f 0).bind fun bt268 => ((value_Blank.f).bind fun bt270 => (some (bt268.1, bt268.2, bt270.1, bt270.2.1, bt270.2.2.1, bt270.2.2.2.1, bt270.2.2.2.2.1, bt270.2.2.2.2.2))))) else (if t240 = 0 then ((value_number.f 0).bind fun bt252 => ((value_Blank.f).bind fun bt254 => (some (bt252.1, bt252.2, bt254.1, bt254.2.1, bt254.2.2.1, bt254.2.2.2.1, bt254.2.2.2.2.1, bt254.2.2.2.2.2)))) else (if t240 = 2 then ((num_Read.f k t243).bind fun bt276 => (if bt276.2.2 = true then ((value_Blank.f).bind fun bt280 => (some (bt276.1, bt276.2.1, bt280.1, bt280.2.1, bt280.2.2.1, bt280.2.2.2.1, bt280.2.2.2.2.1, bt280.2.2.2.2.2))) else ((value_Fault.f 2).bind fun bt286 => (some (0, 0, bt286.1, bt286.2.1, bt286.2.2.1, bt286.2.2.2.1, bt286.2.2.2.2.1, bt286.2.2.2.2.2))))) else (some (0, 0, t240, t241, t242, t243, t244, t245)))))) = some (r1, r2, r3, r4, r5, r6, r7, r8) := H
 have A2 := Aside0.mk A20
 clear A20
 by_cases c3 : t240 = 1
 ·rw [if_pos c3] at H
  have c3b0 : (t240 == 1) = true := beq_iff_eq.mpr c3
  have c3b1 : (t240 != 1) = false := bne_eq_false_iff_eq.mpr c3
  clear c3
  replace H := Option.bind_eq_some_iff.mp H
  obtain ⟨⟨t246, t247, t248, t249, t250, t251⟩, A40, H⟩ := H
  replace H : (some (t241, t242, t246, t247, t248, t249, t250, t251)) = some (r1, r2, r3, r4, r5, r6, r7, r8) := H
  have A4 := Aside0.mk A40
  clear A40
  simp only [Option.some.injEq, Prod.mk.injEq] at H
  obtain ⟨rfl, rfl, rfl, rfl, rfl, rfl, rfl, rfl⟩ := H
  go_enter Tryd.func37, Tryd.ntmps37
  try go_wp2_with (first | ((with_reducible refine gate_dst (N := 1) rfl ?_); refine bxe 1 #[.int .i64 a0_0, .int .i64 a0_1, .int .i64 a0_2, .string a0_3, .bool a0_4, .int .i64 a0_5] 25 rfl rfl gr ?_; clear BX; intro gb237 w5 GE237 BX) | ((with_reducible refine gate_dst (N := 2) rfl ?_); refine bxe 2 #[.int .i64 0, .int .i64 0] 23 rfl rfl gr ?_; clear BX; intro gb238 w6 GE238 BX) | ((with_reducible refine gate_dst (N := 3) rfl ?_); refine bxe 3 #[.int .i64 0, .int .i64 0, .int .i64 0, .string (⟨#[]⟩ : ByteArray), .bool false, .int .i64 0] 25 rfl rfl gr ?_; clear BX; intro gb239 w7 GE239 BX) | ((with_reducible refine gate_callee (f := 59) rfl ?_); refine goesL_ (some 7) rfl rfl Tryd.func59 kr rfl #[.agg #[.int .i64 a0_0, .int .i64 a0_1, .int .i64 a0_2, .string a0_3, .bool a0_4, .int .i64 a0_5]] rfl ga ?_; (with_reducible refine (value_taken.calls k a0_0 a0_1 a0_2 a0_3 a0_4 a0_5 t240 t241 t242 t243 t244 t245 _ A2.out).mono ?_); rintro e w11 ⟨rfl, hb⟩; refine ⟨_, rfl, ?_⟩; replace BX := bx_call hb; clear hb))
  replace BX : Bx w ((((((w11.setCell ⟨gb237, 0, none⟩ (.int .i64 t240)).setCell ⟨gb237, 1, none⟩ (.int .i64 t241)).setCell ⟨gb237, 2, none⟩ (.int .i64 t242)).setCell ⟨gb237, 3, none⟩ (.string t243)).setCell ⟨gb237, 4, none⟩ (.bool t244)).setCell ⟨gb237, 5, none⟩ (.int .i64 t245)) _ := bxi
  generalize ((((((w11.setCell ⟨gb237, 0, none⟩ (.int .i64 t240)).setCell ⟨gb237, 1, none⟩ (.int .i64 t241)).setCell ⟨gb237, 2, none⟩ (.int .i64 t242)).setCell ⟨gb237, 3, none⟩ (.string t243)).setCell ⟨gb237, 4, none⟩ (.bool t244)).setCell ⟨gb237, 5, none⟩ (.int .i64 t245)) = w13 at BX ⊢
  refine startm [false, false, true] (n := 5) (ds := []) #[false, false, false, false, false] kr rfl rfl (fun BX1 => ?_)
  clear BX
  have BX := BX1
  clear BX1
  generalize w13.drew = w14 at BX ⊢
  refine pure_ (i := 0) (N := some 18) (v := ?_) (a' := ?_) #[true, false, false, false, false] rfl rfl kr (fun _ _ _ h => h) (Or.inl ⟨by rfl, ?_⟩) ?_ ?_
  rotate_left
  ·intro w'
   go_simp
   with_reducible rfl
  rotate_left
  ·simp only [Act.put, List.setIfInBounds_toArray, List.set_cons_zero, List.set_cons_succ, i64_w, i32_w]
   rfl
  refine take_ (i := 1) (N := some 19) (v := ?_) (a' := ?_) #[true, true, false, false, false] rfl rfl kr (fun _ _ _ h => h) (Or.inl ⟨by rfl, ?_⟩) bxs ?_ ?_
  rotate_left
  ·intro w' hS
   go_simp
   with_reducible rfl
  rotate_left
  ·simp only [Act.put, List.setIfInBounds_toArray, List.set_cons_zero, List.set_cons_succ, i64_w, i32_w]
   rfl
  refine one_ (i := 2) (N := some 20) #[true, true, true, false, false] rfl rfl kr (by decide) (fun K hK => ?_)
  refine goes_ Tryd.func18 kr rfl #[] (by rfl) rfl rfl ga ?_
  with_reducible refine (value_Blank.calls  t246 t247 t248 t249 t250 t251 _ A4.out).mono ?_
  rintro e w15 ⟨rfl, hb⟩
  refine ⟨_, rfl, ?_⟩
  replace BX := bx_call hb
  clear hb
  refine hK.out _ _ bxs (fun hHeld => ?_)
  clear hK K hHeld
  refine norm_ (a' := ?_) ?_ ?_
  rotate_left
  ·show Act.put _ (some 20) _ = _
   simp only [Act.put, List.setIfInBounds_toArray, List.set_cons_zero, List.set_cons_succ, i64_w, i32_w]
   rfl
  refine one_ (i := 3) (N := none) #[true, true, true, true, false] rfl rfl kr (by decide) (fun K hK => ?_)
  refine skip_ (w1 := ?_) (by rfl) rfl ?_ ?_
  rotate_left
  ·go_simp
   rfl
  refine hK.out _ _ bxs (fun hHeld => ?_)
  clear hK K hHeld
  refine one_ (i := 4) (N := none) #[true, true, true, true, true] rfl rfl kr (by decide) (fun K hK => ?_)
  refine skip_ (w1 := ?_) (by rfl) rfl ?_ ?_
  rotate_left
  ·go_simp
   rfl
  refine hK.out _ _ bxs (fun hHeld => ?_)
  clear hK K hHeld
  refine done_ kr ?_
  try go_wp2
  refine bodyPost_ret (results_cc rfl _ _ gb238 gb239 23 25 #[.int .i64 t241, .int .i64 t242] #[.int .i64 t246, .int .i64 t247, .int .i64 t248, .string t249, .bool t250, .int .i64 t251] (0, 0) (0, 0) _ _ rfl bx_get Tryd.underlying23 rfl kr rfl bx_get Tryd.underlying25 rfl kr) rfl ?_
  exact ⟨er2, bx_bl⟩
 ·rw [if_neg c3] at H
  have c3b0 : (t240 == 1) = false := beq_eq_false_iff_ne.mpr c3
  have c3b1 : (t240 != 1) = true := bne_iff_ne.mpr c3
  by_cases c24 : t240 = 3
  ·rw [if_pos c24] at H
   have c24b0 : (t240 == 3) = true := beq_iff_eq.mpr c24
   have c24b1 : (t240 != 3) = false := bne_eq_false_iff_eq.mpr c24
   clear c24
   by_cases c25 : t244 = true
   ·subst c25
    have H1 : ((value_number.f 1).bind fun bt260 => ((value_Blank.f).bind fun bt262 => (some (bt260.1, bt260.2, bt262.1, bt262.2.1, bt262.2.2.1, bt262.2.2.2.1, bt262.2.2.2.2.1, bt262.2.2.2.2.2)))) = some (r1, r2, r3, r4, r5, r6, r7, r8) := by rw [if_pos rfl] at H; exact H
    clear H
    have H := H1
    clear H1
    replace H := Option.bind_eq_some_iff.mp H
    obtain ⟨⟨t260, t261⟩, A260, H⟩ := H
    have A26 := Aside0.mk A260
    clear A260
    replace H := Option.bind_eq_some_iff.mp H
    obtain ⟨⟨t262, t263, t264, t265, t266, t267⟩, A270, H⟩ := H
    replace H : (some (t260, t261, t262, t263, t264, t265, t266, t267)) = some (r1, r2, r3, r4, r5, r6, r7, r8) := H
    have A27 := Aside0.mk A270
    clear A270
    simp only [Option.some.injEq, Prod.mk.injEq] at H
    obtain ⟨rfl, rfl, rfl, rfl, rfl, rfl, rfl, rfl⟩ := H
    go_enter Tryd.func37, Tryd.ntmps37
    go_wp2_with (first | ((with_reducible refine gate_dst (N := 1) rfl ?_); refine bxe 1 #[.int .i64 a0_0, .int .i64 a0_1, .int .i64 a0_2, .string a0_3, .bool a0_4, .int .i64 a0_5] 25 rfl rfl gr ?_; clear BX; intro gb237 w28 GE237 BX) | ((with_reducible refine gate_dst (N := 2) rfl ?_); refine bxe 2 #[.int .i64 0, .int .i64 0] 23 rfl rfl gr ?_; clear BX; intro gb238 w29 GE238 BX) | ((with_reducible refine gate_dst (N := 3) rfl ?_); refine bxe 3 #[.int .i64 0, .int .i64 0, .int .i64 0, .string (⟨#[]⟩ : ByteArray), .bool false, .int .i64 0] 25 rfl rfl gr ?_; clear BX; intro gb239 w30 GE239 BX) | ((with_reducible refine gate_callee (f := 59) rfl ?_); refine goesL_ (some 7) rfl rfl Tryd.func59 kr rfl #[.agg #[.int .i64 a0_0, .int .i64 a0_1, .int .i64 a0_2, .string a0_3, .bool a0_4, .int .i64 a0_5]] rfl ga ?_; (with_reducible refine (value_taken.calls k a0_0 a0_1 a0_2 a0_3 a0_4 a0_5 t240 t241 t242 t243 true t245 _ A2.out).mono ?_); rintro e w34 ⟨rfl, hb⟩; refine ⟨_, rfl, ?_⟩; replace BX := bx_call hb; clear hb) | ((with_reducible refine gate_callee (f := 72) rfl ?_); refine goesL_ (some 23) rfl rfl Tryd.func72 kr rfl #[.int .i64 1] rfl ga ?_; (with_reducible refine (value_number.calls 1 t260 t261 _ A26.out).mono ?_); rintro e w36 ⟨rfl, hb⟩; refine ⟨_, rfl, ?_⟩; replace BX := bx_call hb; clear hb) | ((with_reducible refine gate_callee (f := 18) rfl ?_); refine goesL_ (some 24) rfl rfl Tryd.func18 kr rfl #[] rfl ga ?_; (with_reducible refine (value_Blank.calls  t262 t263 t264 t265 t266 t267 _ A27.out).mono ?_); rintro e w37 ⟨rfl, hb⟩; refine ⟨_, rfl, ?_⟩; replace BX := bx_call hb; clear hb))
    refine bodyPost_ret (results_cc rfl _ _ gb238 gb239 23 25 #[.int .i64 t260, .int .i64 t261] #[.int .i64 t262, .int .i64 t263, .int .i64 t264, .string t265, .bool t266, .int .i64 t267] (0, 0) (0, 0) _ _ rfl bx_get Tryd.underlying23 rfl kr rfl bx_get Tryd.underlying25 rfl kr) rfl ?_
    exact ⟨er2, bx_bl⟩
   ·replace c25 := Bool.eq_false_iff.mpr c25
    subst c25
    have H1 : ((value_number.f 0).bind fun bt268 => ((value_Blank.f).bind fun bt270 => (some (bt268.1, bt268.2, bt270.1, bt270.2.1, bt270.2.2.1, bt270.2.2.2.1, bt270.2.2.2.2.1, bt270.2.2.2.2.2)))) = some (r1, r2, r3, r4, r5, r6, r7, r8) := by rw [if_neg (show ¬ (false = true) by decide)] at H; exact H
    clear H
    have H := H1
    clear H1
    replace H := Option.bind_eq_some_iff.mp H
    obtain ⟨⟨t268, t269⟩, A410, H⟩ := H
    have A41 := Aside0.mk A410
    clear A410
    replace H := Option.bind_eq_some_iff.mp H
    obtain ⟨⟨t270, t271, t272, t273, t274, t275⟩, A420, H⟩ := H
    replace H : (some (t268, t269, t270, t271, t272, t273, t274, t275)) = some (r1, r2, r3, r4, r5, r6, r7, r8) := H
    have A42 := Aside0.mk A420
    clear A420
    simp only [Option.some.injEq, Prod.mk.injEq] at H
    obtain ⟨rfl, rfl, rfl, rfl, rfl, rfl, rfl, rfl⟩ := H
    go_enter Tryd.func37, Tryd.ntmps37
    go_wp2_with (first | ((with_reducible refine gate_dst (N := 1) rfl ?_); refine bxe 1 #[.int .i64 a0_0, .int .i64 a0_1, .int .i64 a0_2, .string a0_3, .bool a0_4, .int .i64 a0_5] 25 rfl rfl gr ?_; clear BX; intro gb237 w43 GE237 BX) | ((with_reducible refine gate_dst (N := 2) rfl ?_); refine bxe 2 #[.int .i64 0, .int .i64 0] 23 rfl rfl gr ?_; clear BX; intro gb238 w44 GE238 BX) | ((with_reducible refine gate_dst (N := 3) rfl ?_); refine bxe 3 #[.int .i64 0, .int .i64 0, .int .i64 0, .string (⟨#[]⟩ : ByteArray), .bool false, .int .i64 0] 25 rfl rfl gr ?_; clear BX; intro gb239 w45 GE239 BX) | ((with_reducible refine gate_callee (f := 59) rfl ?_); refine goesL_ (some 7) rfl rfl Tryd.func59 kr rfl #[.agg #[.int .i64 a0_0, .int .i64 a0_1, .int .i64 a0_2, .string a0_3, .bool a0_4, .int .i64 a0_5]] rfl ga ?_; (with_reducible refine (value_taken.calls k a0_0 a0_1 a0_2 a0_3 a0_4 a0_5 t240 t241 t242 t243 false t245 _ A2.out).mono ?_); rintro e w49 ⟨rfl, hb⟩; refine ⟨_, rfl, ?_⟩; replace BX := bx_call hb; clear hb) | ((with_reducible refine gate_callee (f := 72) rfl ?_); refine goesL_ (some 25) rfl rfl Tryd.func72 kr rfl #[.int .i64 0] rfl ga ?_; (with_reducible refine (value_number.calls 0 t268 t269 _ A41.out).mono ?_); rintro e w51 ⟨rfl, hb⟩; refine ⟨_, rfl, ?_⟩; replace BX := bx_call hb; clear hb) | ((with_reducible refine gate_callee (f := 18) rfl ?_); refine goesL_ (some 26) rfl rfl Tryd.func18 kr rfl #[] rfl ga ?_; (with_reducible refine (value_Blank.calls  t270 t271 t272 t273 t274 t275 _ A42.out).mono ?_); rintro e w52 ⟨rfl, hb⟩; refine ⟨_, rfl, ?_⟩; replace BX := bx_call hb; clear hb))
    refine bodyPost_ret (results_cc rfl _ _ gb238 gb239 23 25 #[.int .i64 t268, .int .i64 t269] #[.int .i64 t270, .int .i64 t271, .int .i64 t272, .string t273, .bool t274, .int .i64 t275] (0, 0) (0, 0) _ _ rfl bx_get Tryd.underlying23 rfl kr rfl bx_get Tryd.underlying25 rfl kr) rfl ?_
    exact ⟨er2, bx_bl⟩
  ·rw [if_neg c24] at H
   have c24b0 : (t240 == 3) = false := beq_eq_false_iff_ne.mpr c24
   have c24b1 : (t240 != 3) = true := bne_iff_ne.mpr c24
   by_cases c56 : t240 = 0
   ·rw [if_pos c56] at H
    have c56b0 : (t240 == 0) = true := beq_iff_eq.mpr c56
    have c56b1 : (t240 != 0) = false := bne_eq_false_iff_eq.mpr c56
    clear c56
    replace H := Option.bind_eq_some_iff.mp H
    obtain ⟨⟨t252, t253⟩, A570, H⟩ := H
    have A57 := Aside0.mk A570
    clear A570
    replace H := Option.bind_eq_some_iff.mp H
    obtain ⟨⟨t254, t255, t256, t257, t258, t259⟩, A580, H⟩ := H
    replace H : (some (t252, t253, t254, t255, t256, t257, t258, t259)) = some (r1, r2, r3, r4, r5, r6, r7, r8) := H
    have A58 := Aside0.mk A580
    clear A580
    simp only [Option.some.injEq, Prod.mk.injEq] at H
    obtain ⟨rfl, rfl, rfl, rfl, rfl, rfl, rfl, rfl⟩ := H
    go_enter Tryd.func37, Tryd.ntmps37
    go_wp2_with (first | ((with_reducible refine gate_dst (N := 1) rfl ?_); refine bxe 1 #[.int .i64 a0_0, .int .i64 a0_1, .int .i64 a0_2, .string a0_3, .bool a0_4, .int .i64 a0_5] 25 rfl rfl gr ?_; clear BX; intro gb237 w59 GE237 BX) | ((with_reducible refine gate_dst (N := 2) rfl ?_); refine bxe 2 #[.int .i64 0, .int .i64 0] 23 rfl rfl gr ?_; clear BX; intro gb238 w60 GE238 BX) | ((with_reducible refine gate_dst (N := 3) rfl ?_); refine bxe 3 #[.int .i64 0, .int .i64 0, .int .i64 0, .string (⟨#[]⟩ : ByteArray), .bool false, .int .i64 0] 25 rfl rfl gr ?_; clear BX; intro gb239 w61 GE239 BX) | ((with_reducible refine gate_callee (f := 59) rfl ?_); refine goesL_ (some 7) rfl rfl Tryd.func59 kr rfl #[.agg #[.int .i64 a0_0, .int .i64 a0_1, .int .i64 a0_2, .string a0_3, .bool a0_4, .int .i64 a0_5]] rfl ga ?_; (with_reducible refine (value_taken.calls k a0_0 a0_1 a0_2 a0_3 a0_4 a0_5 t240 t241 t242 t243 t244 t245 _ A2.out).mono ?_); rintro e w65 ⟨rfl, hb⟩; refine ⟨_, rfl, ?_⟩; replace BX := bx_call hb; clear hb) | ((with_reducible refine gate_callee (f := 72) rfl ?_); refine goesL_ (some 25) rfl rfl Tryd.func72 kr rfl #[.int .i64 0] rfl ga ?_; (with_reducible refine (value_number.calls 0 t252 t253 _ A57.out).mono ?_); rintro e w67 ⟨rfl, hb⟩; refine ⟨_, rfl, ?_⟩; replace BX := bx_call hb; clear hb) | ((with_reducible refine gate_callee (f := 18) rfl ?_); refine goesL_ (some 26) rfl rfl Tryd.func18 kr rfl #[] rfl ga ?_; (with_reducible refine (value_Blank.calls  t254 t255 t256 t257 t258 t259 _ A58.out).mono ?_); rintro e w68 ⟨rfl, hb⟩; refine ⟨_, rfl, ?_⟩; replace BX := bx_call hb; clear hb))
    refine bodyPost_ret (results_cc rfl _ _ gb238 gb239 23 25 #[.int .i64 t252, .int .i64 t253] #[.int .i64 t254, .int .i64 t255, .int .i64 t256, .string t257, .bool t258, .int .i64 t259] (0, 0) (0, 0) _ _ rfl bx_get Tryd.underlying23 rfl kr rfl bx_get Tryd.underlying25 rfl kr) rfl ?_
    exact ⟨er2, bx_bl⟩
   ·rw [if_neg c56] at H
    have c56b0 : (t240 == 0) = false := beq_eq_false_iff_ne.mpr c56
    have c56b1 : (t240 != 0) = true := bne_iff_ne.mpr c56
    by_cases c72 : t240 = 2
    ·rw [if_pos c72] at H
     have c72b0 : (t240 == 2) = true := beq_iff_eq.mpr c72
     have c72b1 : (t240 != 2) = false := bne_eq_false_iff_eq.mpr c72
     clear c72
     replace H := Option.bind_eq_some_iff.mp H
     obtain ⟨⟨t276, t277, t278⟩, A730, H⟩ := H
     replace H : (if t278 = true then ((value_Blank.f).bind fun bt280 => (some (t276, t277, bt280.1, bt280.2.1, bt280.2.2.1, bt280.2.2.2.1, bt280.2.2.2.2.1, bt280.2.2.2.2.2))) else ((value_Fault.f 2).bind fun bt286 => (some (0, 0, bt286.1, bt286.2.1, bt286.2.2.1, bt286.2.2.2.1, bt286.2.2.2.2.1, bt286.2.2.2.2.2)))) = some (r1, r2, r3, r4, r5, r6, r7, r8) := H
     have A73 := Aside0.mk A730
     clear A730
     by_cases c74 : t278 = true
     ·subst c74
      have H1 : ((value_Blank.f).bind fun bt280 => (some (t276, t277, bt280.1, bt280.2.1, bt280.2.2.1, bt280.2.2.2.1, bt280.2.2.2.2.1, bt280.2.2.2.2.2))) = some (r1, r2, r3, r4, r5, r6, r7, r8) := by rw [if_pos rfl] at H; exact H
      clear H
      have H := H1
      clear H1
      replace H := Option.bind_eq_some_iff.mp H
      obtain ⟨⟨t280, t281, t282, t283, t284, t285⟩, A750, H⟩ := H
      replace H : (some (t276, t277, t280, t281, t282, t283, t284, t285)) = some (r1, r2, r3, r4, r5, r6, r7, r8) := H
      have A75 := Aside0.mk A750
      clear A750
      simp only [Option.some.injEq, Prod.mk.injEq] at H
      obtain ⟨rfl, rfl, rfl, rfl, rfl, rfl, rfl, rfl⟩ := H
      go_enter Tryd.func37, Tryd.ntmps37
      try go_wp2_with (first | ((with_reducible refine gate_dst (N := 1) rfl ?_); refine bxe 1 #[.int .i64 a0_0, .int .i64 a0_1, .int .i64 a0_2, .string a0_3, .bool a0_4, .int .i64 a0_5] 25 rfl rfl gr ?_; clear BX; intro gb237 w76 GE237 BX) | ((with_reducible refine gate_dst (N := 2) rfl ?_); refine bxe 2 #[.int .i64 0, .int .i64 0] 23 rfl rfl gr ?_; clear BX; intro gb238 w77 GE238 BX) | ((with_reducible refine gate_dst (N := 3) rfl ?_); refine bxe 3 #[.int .i64 0, .int .i64 0, .int .i64 0, .string (⟨#[]⟩ : ByteArray), .bool false, .int .i64 0] 25 rfl rfl gr ?_; clear BX; intro gb239 w78 GE239 BX) | ((with_reducible refine gate_callee (f := 59) rfl ?_); refine goesL_ (some 7) rfl rfl Tryd.func59 kr rfl #[.agg #[.int .i64 a0_0, .int .i64 a0_1, .int .i64 a0_2, .string a0_3, .bool a0_4, .int .i64 a0_5]] rfl ga ?_; (with_reducible refine (value_taken.calls k a0_0 a0_1 a0_2 a0_3 a0_4 a0_5 t240 t241 t242 t243 t244 t245 _ A2.out).mono ?_); rintro e w82 ⟨rfl, hb⟩; refine ⟨_, rfl, ?_⟩; replace BX := bx_call hb; clear hb) | ((with_reducible refine gate_callee (f := 55) rfl ?_); refine goesL_ (some 30) rfl rfl Tryd.func55 kr rfl #[.string t243] rfl ga ?_; (with_reducible refine (num_Read.calls k t243 t276 t277 true _ A73.out).mono ?_); rintro e w84 ⟨rfl, hb⟩; refine ⟨_, rfl, ?_⟩; replace BX := bx_call hb; clear hb) | ((with_reducible refine gate_dst (N := 4) rfl ?_); refine bxe 4 #[.int .i64 0, .int .i64 0] 23 rfl rfl gr ?_; clear BX; intro gb279 w85 GE279 BX))
      replace BX : Bx w ((w85.setCell ⟨gb279, 0, none⟩ (.int .i64 t276)).setCell ⟨gb279, 1, none⟩ (.int .i64 t277)) _ := bxi
      generalize ((w85.setCell ⟨gb279, 0, none⟩ (.int .i64 t276)).setCell ⟨gb279, 1, none⟩ (.int .i64 t277)) = w90 at BX ⊢
      refine startm [true] (n := 4) (ds := []) #[false, false, false, false] kr rfl rfl (fun BX1 => ?_)
      clear BX
      have BX := BX1
      clear BX1
      generalize w90.drew = w91 at BX ⊢
      refine take_ (i := 0) (N := some 34) (v := ?_) (a' := ?_) #[true, false, false, false] rfl rfl kr (fun _ _ _ h => h) (Or.inl ⟨by rfl, ?_⟩) bxs ?_ ?_
      rotate_left
      ·intro w' hS
       go_simp
       with_reducible rfl
      rotate_left
      ·simp only [Act.put, List.setIfInBounds_toArray, List.set_cons_zero, List.set_cons_succ, i64_w, i32_w]
       rfl
      refine one_ (i := 1) (N := some 35) #[true, true, false, false] rfl rfl kr (by decide) (fun K hK => ?_)
      refine goes_ Tryd.func18 kr rfl #[] (by rfl) rfl rfl ga ?_
      with_reducible refine (value_Blank.calls  t280 t281 t282 t283 t284 t285 _ A75.out).mono ?_
      rintro e w92 ⟨rfl, hb⟩
      refine ⟨_, rfl, ?_⟩
      replace BX := bx_call hb
      clear hb
      refine hK.out _ _ bxs (fun hHeld => ?_)
      clear hK K hHeld
      refine norm_ (a' := ?_) ?_ ?_
      rotate_left
      ·show Act.put _ (some 35) _ = _
       simp only [Act.put, List.setIfInBounds_toArray, List.set_cons_zero, List.set_cons_succ, i64_w, i32_w]
       rfl
      refine one_ (i := 2) (N := none) #[true, true, true, false] rfl rfl kr (by decide) (fun K hK => ?_)
      refine skip_ (w1 := ?_) (by rfl) rfl ?_ ?_
      rotate_left
      ·go_simp
       rfl
      refine hK.out _ _ bxs (fun hHeld => ?_)
      clear hK K hHeld
      refine one_ (i := 3) (N := none) #[true, true, true, true] rfl rfl kr (by decide) (fun K hK => ?_)
      refine skip_ (w1 := ?_) (by rfl) rfl ?_ ?_
      rotate_left
      ·go_simp
       rfl
      refine hK.out _ _ bxs (fun hHeld => ?_)
      clear hK K hHeld
      refine done_ kr ?_
      try go_wp2
      refine bodyPost_ret (results_cc rfl _ _ gb238 gb239 23 25 #[.int .i64 t276, .int .i64 t277] #[.int .i64 t280, .int .i64 t281, .int .i64 t282, .string t283, .bool t284, .int .i64 t285] (0, 0) (0, 0) _ _ rfl bx_get Tryd.underlying23 rfl kr rfl bx_get Tryd.underlying25 rfl kr) rfl ?_
      exact ⟨er2, bx_bl⟩
     ·replace c74 := Bool.eq_false_iff.mpr c74
      subst c74
      have H1 : ((value_Fault.f 2).bind fun bt286 => (some (0, 0, bt286.1, bt286.2.1, bt286.2.2.1, bt286.2.2.2.1, bt286.2.2.2.2.1, bt286.2.2.2.2.2))) = some (r1, r2, r3, r4, r5, r6, r7, r8) := by rw [if_neg (show ¬ (false = true) by decide)] at H; exact H
      clear H
      have H := H1
      clear H1
      replace H := Option.bind_eq_some_iff.mp H
      obtain ⟨⟨t286, t287, t288, t289, t290, t291⟩, A1010, H⟩ := H
      replace H : (some (0, 0, t286, t287, t288, t289, t290, t291)) = some (r1, r2, r3, r4, r5, r6, r7, r8) := H
      have A101 := Aside0.mk A1010
      clear A1010
      simp only [Option.some.injEq, Prod.mk.injEq] at H
      obtain ⟨rfl, rfl, rfl, rfl, rfl, rfl, rfl, rfl⟩ := H
      go_enter Tryd.func37, Tryd.ntmps37
      try go_wp2_with (first | ((with_reducible refine gate_dst (N := 1) rfl ?_); refine bxe 1 #[.int .i64 a0_0, .int .i64 a0_1, .int .i64 a0_2, .string a0_3, .bool a0_4, .int .i64 a0_5] 25 rfl rfl gr ?_; clear BX; intro gb237 w102 GE237 BX) | ((with_reducible refine gate_dst (N := 2) rfl ?_); refine bxe 2 #[.int .i64 0, .int .i64 0] 23 rfl rfl gr ?_; clear BX; intro gb238 w103 GE238 BX) | ((with_reducible refine gate_dst (N := 3) rfl ?_); refine bxe 3 #[.int .i64 0, .int .i64 0, .int .i64 0, .string (⟨#[]⟩ : ByteArray), .bool false, .int .i64 0] 25 rfl rfl gr ?_; clear BX; intro gb239 w104 GE239 BX) | ((with_reducible refine gate_callee (f := 59) rfl ?_); refine goesL_ (some 7) rfl rfl Tryd.func59 kr rfl #[.agg #[.int .i64 a0_0, .int .i64 a0_1, .int .i64 a0_2, .string a0_3, .bool a0_4, .int .i64 a0_5]] rfl ga ?_; (with_reducible refine (value_taken.calls k a0_0 a0_1 a0_2 a0_3 a0_4 a0_5 t240 t241 t242 t243 t244 t245 _ A2.out).mono ?_); rintro e w108 ⟨rfl, hb⟩; refine ⟨_, rfl, ?_⟩; replace BX := bx_call hb; clear hb) | ((with_reducible refine gate_callee (f := 55) rfl ?_); refine goesL_ (some 30) rfl rfl Tryd.func55 kr rfl #[.string t243] rfl ga ?_; (with_reducible refine (num_Read.calls k t243 t276 t277 false _ A73.out).mono ?_); rintro e w110 ⟨rfl, hb⟩; refine ⟨_, rfl, ?_⟩; replace BX := bx_call hb; clear hb) | ((with_reducible refine gate_dst (N := 4) rfl ?_); refine bxe 4 #[.int .i64 0, .int .i64 0] 23 rfl rfl gr ?_; clear BX; intro gb279 w111 GE279 BX) | ((with_reducible refine gate_callee (f := 25) rfl ?_); refine goesL_ (some 36) rfl rfl Tryd.func25 kr rfl #[.int .i64 2] rfl ga ?_; (with_reducible refine (value_Fault.calls 2 t286 t287 t288 t289 t290 t291 _ A101.out).mono ?_); rintro e w116 ⟨rfl, hb⟩; refine ⟨_, rfl, ?_⟩; replace BX := bx_call hb; clear hb))
      replace BX : Bx w ((((((w116.setCell ⟨gb237, 0, none⟩ (.int .i64 t286)).setCell ⟨gb237, 1, none⟩ (.int .i64 t287)).setCell ⟨gb237, 2, none⟩ (.int .i64 t288)).setCell ⟨gb237, 3, none⟩ (.string t289)).setCell ⟨gb237, 4, none⟩ (.bool t290)).setCell ⟨gb237, 5, none⟩ (.int .i64 t291)) _ := bxi
      generalize ((((((w116.setCell ⟨gb237, 0, none⟩ (.int .i64 t286)).setCell ⟨gb237, 1, none⟩ (.int .i64 t287)).setCell ⟨gb237, 2, none⟩ (.int .i64 t288)).setCell ⟨gb237, 3, none⟩ (.string t289)).setCell ⟨gb237, 4, none⟩ (.bool t290)).setCell ⟨gb237, 5, none⟩ (.int .i64 t291)) = w118 at BX ⊢
      refine startm [false, false, false, true] (n := 4) (ds := []) #[false, false, false, false] kr rfl rfl (fun BX1 => ?_)
      clear BX
      have BX := BX1
      clear BX1
      generalize w118.drew = w119 at BX ⊢
      refine pure_ (i := 0) (N := some 37) (v := ?_) (a' := ?_) #[true, false, false, false] rfl rfl kr (fun _ _ _ h => h) (Or.inl ⟨by rfl, ?_⟩) ?_ ?_
      rotate_left
      ·intro w'
       go_simp
       with_reducible rfl
      rotate_left
      ·simp only [Act.put, List.setIfInBounds_toArray, List.set_cons_zero, List.set_cons_succ, i64_w, i32_w]
       rfl
      refine take_ (i := 1) (N := some 38) (v := ?_) (a' := ?_) #[true, true, false, false] rfl rfl kr (fun _ _ _ h => h) (Or.inl ⟨by rfl, ?_⟩) bxs ?_ ?_
      rotate_left
      ·intro w' hS
       go_simp
       with_reducible rfl
      rotate_left
      ·simp only [Act.put, List.setIfInBounds_toArray, List.set_cons_zero, List.set_cons_succ, i64_w, i32_w]
       rfl
      refine one_ (i := 2) (N := none) #[true, true, true, false] rfl rfl kr (by decide) (fun K hK => ?_)
      refine skip_ (w1 := ?_) (by rfl) rfl ?_ ?_
      rotate_left
      ·go_simp
       rfl
      refine hK.out _ _ bxs (fun hHeld => ?_)
      clear hK K hHeld
      refine one_ (i := 3) (N := none) #[true, true, true, true] rfl rfl kr (by decide) (fun K hK => ?_)
      refine skip_ (w1 := ?_) (by rfl) rfl ?_ ?_
      rotate_left
      ·go_simp
       rfl
      refine hK.out _ _ bxs (fun hHeld => ?_)
      clear hK K hHeld
      refine done_ kr ?_
      try go_wp2
      refine bodyPost_ret (results_cc rfl _ _ gb238 gb239 23 25 #[.int .i64 0, .int .i64 0] #[.int .i64 t286, .int .i64 t287, .int .i64 t288, .string t289, .bool t290, .int .i64 t291] (0, 0) (0, 0) _ _ rfl bx_get Tryd.underlying23 rfl kr rfl bx_get Tryd.underlying25 rfl kr) rfl ?_
      exact ⟨er2, bx_bl⟩
    ·rw [if_neg c72] at H
     have c72b0 : (t240 == 2) = false := beq_eq_false_iff_ne.mpr c72
     have c72b1 : (t240 != 2) = true := bne_iff_ne.mpr c72
     simp only [Option.some.injEq, Prod.mk.injEq] at H
     obtain ⟨rfl, rfl, rfl, rfl, rfl, rfl, rfl, rfl⟩ := H
     go_enter Tryd.func37, Tryd.ntmps37
     try go_wp2_with (first | ((with_reducible refine gate_dst (N := 1) rfl ?_); refine bxe 1 #[.int .i64 a0_0, .int .i64 a0_1, .int .i64 a0_2, .string a0_3, .bool a0_4, .int .i64 a0_5] 25 rfl rfl gr ?_; clear BX; intro gb237 w128 GE237 BX) | ((with_reducible refine gate_dst (N := 2) rfl ?_); refine bxe 2 #[.int .i64 0, .int .i64 0] 23 rfl rfl gr ?_; clear BX; intro gb238 w129 GE238 BX) | ((with_reducible refine gate_dst (N := 3) rfl ?_); refine bxe 3 #[.int .i64 0, .int .i64 0, .int .i64 0, .string (⟨#[]⟩ : ByteArray), .bool false, .int .i64 0] 25 rfl rfl gr ?_; clear BX; intro gb239 w130 GE239 BX) | ((with_reducible refine gate_callee (f := 59) rfl ?_); refine goesL_ (some 7) rfl rfl Tryd.func59 kr rfl #[.agg #[.int .i64 a0_0, .int .i64 a0_1, .int .i64 a0_2, .string a0_3, .bool a0_4, .int .i64 a0_5]] rfl ga ?_; (with_reducible refine (value_taken.calls k a0_0 a0_1 a0_2 a0_3 a0_4 a0_5 t240 t241 t242 t243 t244 t245 _ A2.out).mono ?_); rintro e w134 ⟨rfl, hb⟩; refine ⟨_, rfl, ?_⟩; replace BX := bx_call hb; clear hb))
     replace BX : Bx w ((((((w134.setCell ⟨gb237, 0, none⟩ (.int .i64 t240)).setCell ⟨gb237, 1, none⟩ (.int .i64 t241)).setCell ⟨gb237, 2, none⟩ (.int .i64 t242)).setCell ⟨gb237, 3, none⟩ (.string t243)).setCell ⟨gb237, 4, none⟩ (.bool t244)).setCell ⟨gb237, 5, none⟩ (.int .i64 t245)) _ := bxi
     generalize ((((((w134.setCell ⟨gb237, 0, none⟩ (.int .i64 t240)).setCell ⟨gb237, 1, none⟩ (.int .i64 t241)).setCell ⟨gb237, 2, none⟩ (.int .i64 t242)).setCell ⟨gb237, 3, none⟩ (.string t243)).setCell ⟨gb237, 4, none⟩ (.bool t244)).setCell ⟨gb237, 5, none⟩ (.int .i64 t245)) = w136 at BX ⊢
     refine startm [false, false, true] (n := 4) (ds := []) #[false, false, false, false] kr rfl rfl (fun BX1 => ?_)
     clear BX
     have BX := BX1
     clear BX1
     generalize w136.drew = w137 at BX ⊢
     refine pure_ (i := 0) (N := some 37) (v := ?_) (a' := ?_) #[true, false, false, false] rfl rfl kr (fun _ _ _ h => h) (Or.inl ⟨by rfl, ?_⟩) ?_ ?_
     rotate_left
     ·intro w'
      go_simp
      with_reducible rfl
     rotate_left
     ·simp only [Act.put, List.setIfInBounds_toArray, List.set_cons_zero, List.set_cons_succ, i64_w, i32_w]
      rfl
     refine take_ (i := 1) (N := some 38) (v := ?_) (a' := ?_) #[true, true, false, false] rfl rfl kr (fun _ _ _ h => h) (Or.inl ⟨by rfl, ?_⟩) bxs ?_ ?_
     rotate_left
     ·intro w' hS
      go_simp
      with_reducible rfl
     rotate_left
     ·simp only [Act.put, List.setIfInBounds_toArray, List.set_cons_zero, List.set_cons_succ, i64_w, i32_w]
      rfl
     refine one_ (i := 2) (N := none) #[true, true, true, false] rfl rfl kr (by decide) (fun K hK => ?_)
     refine skip_ (w1 := ?_) (by rfl) rfl ?_ ?_
     rotate_left
     ·go_simp
      rfl
     refine hK.out _ _ bxs (fun hHeld => ?_)
     clear hK K hHeld
     refine one_ (i := 3) (N := none) #[true, true, true, true] rfl rfl kr (by decide) (fun K hK => ?_)
     refine skip_ (w1 := ?_) (by rfl) rfl ?_ ?_
     rotate_left
     ·go_simp
      rfl
     refine hK.out _ _ bxs (fun hHeld => ?_)
     clear hK K hHeld
     refine done_ kr ?_
     try go_wp2
     refine bodyPost_ret (results_cc rfl _ _ gb238 gb239 23 25 #[.int .i64 0, .int .i64 0] #[.int .i64 t240, .int .i64 t241, .int .i64 t242, .string t243, .bool t244, .int .i64 t245] (0, 0) (0, 0) _ _ rfl bx_get Tryd.underlying23 rfl kr rfl bx_get Tryd.underlying25 rfl kr) rfl ?_
     exact ⟨er2, bx_bl⟩
end
section
/-! ### value_AsText: function 39 -/
def value_AsText.f (k : Nat) (a0_0 : Int) (a0_1 : Int) (a0_2 : Int) (a0_3 : ByteArray) (a0_4 : Bool) (a0_5 : Int) : Option (ByteArray × Int × Int × Int × ByteArray × Bool × Int) := (value_taken.f k a0_0 a0_1 a0_2 a0_3 a0_4 a0_5).bind fun bt303 => (if bt303.1 = 4 then (some ((⟨#[]⟩ : ByteArray), bt303.1, bt303.2.1, bt303.2.2.1, bt303.2.2.2.1, bt303.2.2.2.2.1, bt303.2.2.2.2.2)) else (if bt303.1 = 1 then ((num_Text.f k bt303.2.1 bt303.2.2.1).bind fun t309 => ((value_Blank.f).bind fun bt310 => (some (t309, bt310.1, bt310.2.1, bt310.2.2.1, bt310.2.2.2.1, bt310.2.2.2.2.1, bt310.2.2.2.2.2)))) else (if bt303.1 = 3 then ((value_word.f bt303.2.2.2.2.1).bind fun t316 => ((value_Blank.f).bind fun bt317 => (some (t316, bt317.1, bt317.2.1, bt317.2.2.1, bt317.2.2.2.1, bt317.2.2.2.2.1, bt317.2.2.2.2.2)))) else ((value_Blank.f).bind fun bt323 => (some (bt303.2.2.2.1, bt323.1, bt323.2.1, bt323.2.2.1, bt323.2.2.2.1, bt323.2.2.2.2.1, bt323.2.2.2.2.2))))))
theorem value_AsText.mono : ∀ a0 a1 a2 a3 a4 a5 k, LeO (value_AsText.f k a0 a1 a2 a3 a4 a5) (value_AsText.f (k + 1) a0 a1 a2 a3 a4 a5) := by
 intro a0 a1 a2 a3 a4 a5 k
 unfold value_AsText.f
 repeat' first
   | (with_reducible exact num_Text.mono _ _ _)
   | (with_reducible exact value_taken.mono _ _ _ _ _ _ _)
   | (with_reducible exact LeO.refl _)
   | (with_reducible exact LeO.none _)
   | (with_reducible refine LeO.ite ?_ ?_)
   | (with_reducible refine LeO.bind ?_ (fun _ => ?_))
   | exact num_Text.mono _ _ _
   | exact value_taken.mono _ _ _ _ _ _ _
   | exact LeO.none _
   | refine LeO.ite ?_ ?_
   | refine LeO.bind ?_ (fun _ => ?_)
set_option maxHeartbeats 8000000 in
set_option maxRecDepth 100000 in
theorem value_AsText.calls (k : Nat) (a0_0 : Int) (a0_1 : Int) (a0_2 : Int) (a0_3 : ByteArray) (a0_4 : Bool) (a0_5 : Int) (r1 : ByteArray) (r2 : Int) (r3 : Int) (r4 : Int) (r5 : ByteArray) (r6 : Bool) (r7 : Int) (w : World) (HT0 : TabAt w) (h : value_AsText.f k a0_0 a0_1 a0_2 a0_3 a0_4 a0_5 = some (r1, r2, r3, r4, r5, r6, r7)) :
  Calls Tryd.prog 39 #[.agg #[.int .i64 a0_0, .int .i64 a0_1, .int .i64 a0_2, .string a0_3, .bool a0_4, .int .i64 a0_5]] w fun e w' => e = .returned (.tuple #[.string r1, .agg #[.int .i64 r2, .int .i64 r3, .int .i64 r4, .string r5, .bool r6, .int .i64 r7]]) ∧ Below w.heap.size w w' := by
 have hu25 := Tryd.underlying25
 have hu23 := Tryd.underlying23
 have HT := Aside0.mk HT0
 clear HT0
 have BX := Bx.start w
 have H : ((value_taken.f k a0_0 a0_1 a0_2 a0_3 a0_4 a0_5).bind fun bt303 => (if bt303.1 = 4 then (some ((⟨#[]⟩ : ByteArray), bt303.1, bt303.2.1, bt303.2.2.1, bt303.2.2.2.1, bt303.2.2.2.2.1, bt303.2.2.2.2.2)) else (if bt303.1 = 1 then ((num_Text.f k bt303.2.1 bt303.2.2.1).bind fun t309 => ((value_Blank.f).bind fun bt310 => (some (t309, bt310.1, bt310.2.1, bt310.2.2.1, bt310.2.2.2.1, bt310.2.2.2.2.1, bt310.2.2.2.2.2)))) else (if bt303.1 = 3 then ((value_word.f bt303.2.2.2.2.1).bind fun t316 => ((value_Blank.f).bind fun bt317 => (some (t316, bt317.1, bt317.2.1, bt317.2.2.1, bt317.2.2.2.1, bt317.2.2.2.2.1, bt317.2.2.2.2.2)))) else ((value_Blank.f).bind fun bt323 => (some (bt303.2.2.2.1, bt323.1, bt323.2.1, bt323.2.2.1, bt323.2.2.2.1, bt323.2.2.2.2.1, bt323.2.2.2.2.2))))))) = some (r1, r2, r3, r4, r5, r6, r7) := h
 clear h
 replace H := Option.bind_eq_some_iff.mp H
 obtain ⟨⟨t303, t304, t305, t306, t307, t308⟩, A20, H⟩ := H
 replace H : (if t303 = 4 then (some ((⟨#[]⟩ : ByteArray), t303, t304, t305, t306, t307, t308)) else (if t303 = 1 then ((num_Text.f k t304 t305).bind fun t309 => ((value_Blank.f).bind fun bt310 => (some (t309, bt310.1, bt310.2.1, bt310.2.2.1, bt310.2.2.2.1, bt310.2.2.2.2.1, bt310.2.2.2.2.2)))) else (if t303 = 3 then ((value_word.f t307).bind fun t316 => ((value_Blank.f).bind fun bt317 => (some (t316, bt317.1, bt317.2.1, bt317.2.2.1, bt317.2.2.2.1, bt317.2.2.2.2.1, bt317.2.2.2.2.2)))) else ((value_Blank.f).bind fun bt323 => (some (t306, bt323.1, bt323.2.1, bt323.2.2.1, bt323.2.2.2.1, bt323.2.2.2.2.1, bt323.2.2.2.2.2)))))) = some (r1, r2, r3, r4, r5, r6, r7) := H
 have A2 := Aside0.mk A20
 clear A20
 by_cases c3 : t303 = 4
 ·rw [if_pos c3] at H
  have c3b0 : (t303 == 4) = true := beq_iff_eq.mpr c3
  have c3b1 : (t303 != 4) = false := bne_eq_false_iff_eq.mpr c3
  clear c3
  simp only [Option.some.injEq, Prod.mk.injEq] at H
  obtain ⟨rfl, rfl, rfl, rfl, rfl, rfl, rfl⟩ := H
  go_enter Tryd.func39, Tryd.ntmps39
  try go_wp2_with (first | ((with_reducible refine gate_dst (N := 1) rfl ?_); refine bxe 1 #[.int .i64 a0_0, .int .i64 a0_1, .int .i64 a0_2, .string a0_3, .bool a0_4, .int .i64 a0_5] 25 rfl rfl gr ?_; clear BX; intro gb301 w4 GE301 BX) | ((with_reducible refine gate_dst (N := 3) rfl ?_); refine bxe 3 #[.int .i64 0, .int .i64 0, .int .i64 0, .string (⟨#[]⟩ : ByteArray), .bool false, .int .i64 0] 25 rfl rfl gr ?_; clear BX; intro gb302 w5 GE302 BX) | ((with_reducible refine gate_callee (f := 59) rfl ?_); refine goesL_ (some 5) rfl rfl Tryd.func59 kr rfl #[.agg #[.int .i64 a0_0, .int .i64 a0_1, .int .i64 a0_2, .string a0_3, .bool a0_4, .int .i64 a0_5]] rfl ga ?_; (with_reducible refine (value_taken.calls k a0_0 a0_1 a0_2 a0_3 a0_4 a0_5 t303 t304 t305 t306 t307 t308 _ A2.out).mono ?_); rintro e w8 ⟨rfl, hb⟩; refine ⟨_, rfl, ?_⟩; replace BX := bx_call hb; clear hb))
  replace BX : Bx w ((((((w8.setCell ⟨gb301, 0, none⟩ (.int .i64 t303)).setCell ⟨gb301, 1, none⟩ (.int .i64 t304)).setCell ⟨gb301, 2, none⟩ (.int .i64 t305)).setCell ⟨gb301, 3, none⟩ (.string t306)).setCell ⟨gb301, 4, none⟩ (.bool t307)).setCell ⟨gb301, 5, none⟩ (.int .i64 t308)) _ := bxi
  generalize ((((((w8.setCell ⟨gb301, 0, none⟩ (.int .i64 t303)).setCell ⟨gb301, 1, none⟩ (.int .i64 t304)).setCell ⟨gb301, 2, none⟩ (.int .i64 t305)).setCell ⟨gb301, 3, none⟩ (.string t306)).setCell ⟨gb301, 4, none⟩ (.bool t307)).setCell ⟨gb301, 5, none⟩ (.int .i64 t308)) = w10 at BX ⊢
  refine startm [false, true] (n := 3) (ds := []) #[false, false, false] kr rfl rfl (fun BX1 => ?_)
  clear BX
  have BX := BX1
  clear BX1
  generalize w10.drew = w11 at BX ⊢
  refine pure_ (i := 1) (N := some 2) (v := ?_) (a' := ?_) #[false, true, false] rfl rfl kr (fun _ _ _ h => h) (Or.inl ⟨by rfl, ?_⟩) ?_ ?_
  rotate_left
  ·intro w'
   go_simp
   with_reducible rfl
  rotate_left
  ·simp only [Act.put, List.setIfInBounds_toArray, List.set_cons_zero, List.set_cons_succ, i64_w, i32_w]
   rfl
  refine take_ (i := 0) (N := some 10) (v := ?_) (a' := ?_) #[true, true, false] rfl rfl kr (fun _ _ _ h => h) (Or.inl ⟨by rfl, ?_⟩) bxs ?_ ?_
  rotate_left
  ·intro w' hS
   go_simp
   with_reducible rfl
  rotate_left
  ·simp only [Act.put, List.setIfInBounds_toArray, List.set_cons_zero, List.set_cons_succ, i64_w, i32_w]
   rfl
  refine one_ (i := 2) (N := none) #[true, true, true] rfl rfl kr (by decide) (fun K hK => ?_)
  refine skip_ (w1 := ?_) (by rfl) rfl ?_ ?_
  rotate_left
  ·go_simp
   rfl
  refine hK.out _ _ bxs (fun hHeld => ?_)
  clear hK K hHeld
  refine done_ kr ?_
  try go_wp2
  refine bodyPost_ret (results_tc rfl _ _ gb302 25 #[.int .i64 t303, .int .i64 t304, .int .i64 t305, .string t306, .bool t307, .int .i64 t308] (0, 0) _ rfl bx_get Tryd.underlying25 rfl kr) rfl ?_
  exact ⟨er2, bx_bl⟩
 ·rw [if_neg c3] at H
  have c3b0 : (t303 == 4) = false := beq_eq_false_iff_ne.mpr c3
  have c3b1 : (t303 != 4) = true := bne_iff_ne.mpr c3
  by_cases c18 : t303 = 1
  ·rw [if_pos c18] at H
   have c18b0 : (t303 == 1) = true := beq_iff_eq.mpr c18
   have c18b1 : (t303 != 1) = false := bne_eq_false_iff_eq.mpr c18
   clear c18
   replace H := Option.bind_eq_some_iff.mp H
   obtain ⟨t309, A190, H⟩ := H
   have A19 := Aside0.mk A190
   clear A190
   replace H := Option.bind_eq_some_iff.mp H
   obtain ⟨⟨t310, t311, t312, t313, t314, t315⟩, A200, H⟩ := H
   replace H : (some (t309, t310, t311, t312, t313, t314, t315)) = some (r1, r2, r3, r4, r5, r6, r7) := H
   have A20 := Aside0.mk A200
   clear A200
   simp only [Option.some.injEq, Prod.mk.injEq] at H
   obtain ⟨rfl, rfl, rfl, rfl, rfl, rfl, rfl⟩ := H
   go_enter Tryd.func39, Tryd.ntmps39
   go_wp2_with (first | ((with_reducible refine gate_dst (N := 1) rfl ?_); refine bxe 1 #[.int .i64 a0_0, .int .i64 a0_1, .int .i64 a0_2, .string a0_3, .bool a0_4, .int .i64 a0_5] 25 rfl rfl gr ?_; clear BX; intro gb301 w21 GE301 BX) | ((with_reducible refine gate_dst (N := 3) rfl ?_); refine bxe 3 #[.int .i64 0, .int .i64 0, .int .i64 0, .string (⟨#[]⟩ : ByteArray), .bool false, .int .i64 0] 25 rfl rfl gr ?_; clear BX; intro gb302 w22 GE302 BX) | ((with_reducible refine gate_callee (f := 59) rfl ?_); refine goesL_ (some 5) rfl rfl Tryd.func59 kr rfl #[.agg #[.int .i64 a0_0, .int .i64 a0_1, .int .i64 a0_2, .string a0_3, .bool a0_4, .int .i64 a0_5]] rfl ga ?_; (with_reducible refine (value_taken.calls k a0_0 a0_1 a0_2 a0_3 a0_4 a0_5 t303 t304 t305 t306 t307 t308 _ A2.out).mono ?_); rintro e w25 ⟨rfl, hb⟩; refine ⟨_, rfl, ?_⟩; replace BX := bx_call hb; clear hb) | ((with_reducible refine gate_callee (f := 73) rfl ?_); refine goesL_ (some 15) rfl rfl Tryd.func73 kr rfl #[.agg #[.int .i64 t304, .int .i64 t305]] rfl ga ?_; (with_reducible refine (num_Text.calls k t304 t305 t309 _ ?side1 A19.out).mono ?_); (case side1 => exact HT.out.on bx_bl); rintro e w27 ⟨rfl, hb⟩; refine ⟨_, rfl, ?_⟩; replace BX := bx_call hb; clear hb) | ((with_reducible refine gate_callee (f := 18) rfl ?_); refine goesL_ (some 16) rfl rfl Tryd.func18 kr rfl #[] rfl ga ?_; (with_reducible refine (value_Blank.calls  t310 t311 t312 t313 t314 t315 _ A20.out).mono ?_); rintro e w28 ⟨rfl, hb⟩; refine ⟨_, rfl, ?_⟩; replace BX := bx_call hb; clear hb))
   refine bodyPost_ret (results_tc rfl _ _ gb302 25 #[.int .i64 t310, .int .i64 t311, .int .i64 t312, .string t313, .bool t314, .int .i64 t315] (0, 0) _ rfl bx_get Tryd.underlying25 rfl kr) rfl ?_
   exact ⟨er2, bx_bl⟩
  ·rw [if_neg c18] at H
   have c18b0 : (t303 == 1) = false := beq_eq_false_iff_ne.mpr c18
   have c18b1 : (t303 != 1) = true := bne_iff_ne.mpr c18
   by_cases c30 : t303 = 3
   ·rw [if_pos c30] at H
    have c30b0 : (t303 == 3) = true := beq_iff_eq.mpr c30
    have c30b1 : (t303 != 3) = false := bne_eq_false_iff_eq.mpr c30
    clear c30
    replace H := Option.bind_eq_some_iff.mp H
    obtain ⟨t316, A310, H⟩ := H
    have A31 := Aside0.mk A310
    clear A310
    replace H := Option.bind_eq_some_iff.mp H
    obtain ⟨⟨t317, t318, t319, t320, t321, t322⟩, A320, H⟩ := H
    replace H : (some (t316, t317, t318, t319, t320, t321, t322)) = some (r1, r2, r3, r4, r5, r6, r7) := H
    have A32 := Aside0.mk A320
    clear A320
    simp only [Option.some.injEq, Prod.mk.injEq] at H
    obtain ⟨rfl, rfl, rfl, rfl, rfl, rfl, rfl⟩ := H
    go_enter Tryd.func39, Tryd.ntmps39
    go_wp2_with (first | ((with_reducible refine gate_dst (N := 1) rfl ?_); refine bxe 1 #[.int .i64 a0_0, .int .i64 a0_1, .int .i64 a0_2, .string a0_3, .bool a0_4, .int .i64 a0_5] 25 rfl rfl gr ?_; clear BX; intro gb301 w33 GE301 BX) | ((with_reducible refine gate_dst (N := 3) rfl ?_); refine bxe 3 #[.int .i64 0, .int .i64 0, .int .i64 0, .string (⟨#[]⟩ : ByteArray), .bool false, .int .i64 0] 25 rfl rfl gr ?_; clear BX; intro gb302 w34 GE302 BX) | ((with_reducible refine gate_callee (f := 59) rfl ?_); refine goesL_ (some 5) rfl rfl Tryd.func59 kr rfl #[.agg #[.int .i64 a0_0, .int .i64 a0_1, .int .i64 a0_2, .string a0_3, .bool a0_4, .int .i64 a0_5]] rfl ga ?_; (with_reducible refine (value_taken.calls k a0_0 a0_1 a0_2 a0_3 a0_4 a0_5 t303 t304 t305 t306 t307 t308 _ A2.out).mono ?_); rintro e w37 ⟨rfl, hb⟩; refine ⟨_, rfl, ?_⟩; replace BX := bx_call hb; clear hb) | ((with_reducible refine gate_callee (f := 56) rfl ?_); refine goesL_ (some 21) rfl rfl Tryd.func56 kr rfl #[.bool t307] rfl ga ?_; (with_reducible refine (value_word.calls t307 t316 _ A31.out).mono ?_); rintro e w' ⟨rfl, ⟨nd, rfl⟩⟩; refine ⟨_, rfl, ?_⟩) | ((with_reducible refine gate_callee (f := 18) rfl ?_); refine goesL_ (some 22) rfl rfl Tryd.func18 kr rfl #[] rfl ga ?_; (with_reducible refine (value_Blank.calls  t317 t318 t319 t320 t321 t322 _ A32.out).mono ?_); rintro e w39 ⟨rfl, hb⟩; refine ⟨_, rfl, ?_⟩; replace BX := bx_call hb; clear hb))
    refine bodyPost_ret (results_tc rfl _ _ gb302 25 #[.int .i64 t317, .int .i64 t318, .int .i64 t319, .string t320, .bool t321, .int .i64 t322] (0, 0) _ rfl bx_get Tryd.underlying25 rfl kr) rfl ?_
    exact ⟨er2, bx_bl⟩
   ·rw [if_neg c30] at H
    have c30b0 : (t303 == 3) = false := beq_eq_false_iff_ne.mpr c30
    have c30b1 : (t303 != 3) = true := bne_iff_ne.mpr c30
    replace H := Option.bind_eq_some_iff.mp H
    obtain ⟨⟨t323, t324, t325, t326, t327, t328⟩, A410, H⟩ := H
    replace H : (some (t306, t323, t324, t325, t326, t327, t328)) = some (r1, r2, r3, r4, r5, r6, r7) := H
    have A41 := Aside0.mk A410
    clear A410
    simp only [Option.some.injEq, Prod.mk.injEq] at H
    obtain ⟨rfl, rfl, rfl, rfl, rfl, rfl, rfl⟩ := H
    go_enter Tryd.func39, Tryd.ntmps39
    try go_wp2_with (first | ((with_reducible refine gate_dst (N := 1) rfl ?_); refine bxe 1 #[.int .i64 a0_0, .int .i64 a0_1, .int .i64 a0_2, .string a0_3, .bool a0_4, .int .i64 a0_5] 25 rfl rfl gr ?_; clear BX; intro gb301 w42 GE301 BX) | ((with_reducible refine gate_dst (N := 3) rfl ?_); refine bxe 3 #[.int .i64 0, .int .i64 0, .int .i64 0, .string (⟨#[]⟩ : ByteArray), .bool false, .int .i64 0] 25 rfl rfl gr ?_; clear BX; intro gb302 w43 GE302 BX) | ((with_reducible refine gate_callee (f := 59) rfl ?_); refine goesL_ (some 5) rfl rfl Tryd.func59 kr rfl #[.agg #[.int .i64 a0_0, .int .i64 a0_1, .int .i64 a0_2, .string a0_3, .bool a0_4, .int .i64 a0_5]] rfl ga ?_; (with_reducible refine (value_taken.calls k a0_0 a0_1 a0_2 a0_3 a0_4 a0_5 t303 t304 t305 t306 t307 t308 _ A2.out).mono ?_); rintro e w46 ⟨rfl, hb⟩; refine ⟨_, rfl, ?_⟩; replace BX := bx_call hb; clear hb))
    replace BX : Bx w ((((((w46.setCell ⟨gb301, 0, none⟩ (.int .i64 t303)).setCell ⟨gb301, 1, none⟩ (.int .i64 t304)).setCell ⟨gb301, 2, none⟩ (.int .i64 t305)).setCell ⟨gb301, 3, none⟩ (.string t306)).setCell ⟨gb301, 4, none⟩ (.bool t307)).setCell ⟨gb301, 5, none⟩ (.int .i64 t308)) _ := bxi
    generalize ((((((w46.setCell ⟨gb301, 0, none⟩ (.int .i64 t303)).setCell ⟨gb301, 1, none⟩ (.int .i64 t304)).setCell ⟨gb301, 2, none⟩ (.int .i64 t305)).setCell ⟨gb301, 3, none⟩ (.string t306)).setCell ⟨gb301, 4, none⟩ (.bool t307)).setCell ⟨gb301, 5, none⟩ (.int .i64 t308)) = w48 at BX ⊢
    refine startm [false, true] (n := 5) (ds := []) #[false, false, false, false, false] kr rfl rfl (fun BX1 => ?_)
    clear BX
    have BX := BX1
    clear BX1
    generalize w48.drew = w49 at BX ⊢
    refine pure_ (i := 0) (N := some 23) (v := ?_) (a' := ?_) #[true, false, false, false, false] rfl rfl kr (fun _ _ _ h => h) (Or.inl ⟨by rfl, ?_⟩) ?_ ?_
    rotate_left
    ·intro w'
     go_simp
     with_reducible rfl
    rotate_left
    ·simp only [Act.put, List.setIfInBounds_toArray, List.set_cons_zero, List.set_cons_succ, i64_w, i32_w]
     rfl
    refine take_ (i := 1) (N := some 24) (v := ?_) (a' := ?_) #[true, true, false, false, false] rfl rfl kr (fun _ _ _ h => h) (Or.inl ⟨by rfl, ?_⟩) bxs ?_ ?_
    rotate_left
    ·intro w' hS
     go_simp
     with_reducible rfl
    rotate_left
    ·simp only [Act.put, List.setIfInBounds_toArray, List.set_cons_zero, List.set_cons_succ, i64_w, i32_w]
     rfl
    refine one_ (i := 2) (N := some 25) #[true, true, true, false, false] rfl rfl kr (by decide) (fun K hK => ?_)
    refine goes_ Tryd.func18 kr rfl #[] (by rfl) rfl rfl ga ?_
    with_reducible refine (value_Blank.calls  t323 t324 t325 t326 t327 t328 _ A41.out).mono ?_
    rintro e w50 ⟨rfl, hb⟩
    refine ⟨_, rfl, ?_⟩
    replace BX := bx_call hb
    clear hb
    refine hK.out _ _ bxs (fun hHeld => ?_)
    clear hK K hHeld
    refine norm_ (a' := ?_) ?_ ?_
    rotate_left
    ·show Act.put _ (some 25) _ = _
     simp only [Act.put, List.setIfInBounds_toArray, List.set_cons_zero, List.set_cons_succ, i64_w, i32_w]
     rfl
    refine pure_ (i := 3) (N := some 2) (v := ?_) (a' := ?_) #[true, true, true, true, false] rfl rfl kr (fun _ _ _ h => h) (Or.inl ⟨by rfl, ?_⟩) ?_ ?_
    rotate_left
    ·intro w'
     go_simp
     with_reducible rfl
    rotate_left
    ·simp only [Act.put, List.setIfInBounds_toArray, List.set_cons_zero, List.set_cons_succ, i64_w, i32_w]
     rfl
    refine one_ (i := 4) (N := none) #[true, true, true, true, true] rfl rfl kr (by decide) (fun K hK => ?_)
    refine skip_ (w1 := ?_) (by rfl) rfl ?_ ?_
    rotate_left
    ·go_simp
     rfl
    refine hK.out _ _ bxs (fun hHeld => ?_)
    clear hK K hHeld
    refine done_ kr ?_
    try go_wp2
    refine bodyPost_ret (results_tc rfl _ _ gb302 25 #[.int .i64 t323, .int .i64 t324, .int .i64 t325, .string t326, .bool t327, .int .i64 t328] (0, 0) _ rfl bx_get Tryd.underlying25 rfl kr) rfl ?_
    exact ⟨er2, bx_bl⟩
end
section
/-! ### value_Same: function 34 -/
def value_Same.f (k : Nat) (a0_0 : Int) (a0_1 : Int) (a0_2 : Int) (a0_3 : ByteArray) (a0_4 : Bool) (a0_5 : Int) (a1_0 : Int) (a1_1 : Int) (a1_2 : Int) (a1_3 : ByteArray) (a1_4 : Bool) (a1_5 : Int) : Option (Bool) := (value_taken.f k a0_0 a0_1 a0_2 a0_3 a0_4 a0_5).bind fun bt922 => ((value_taken.f k a1_0 a1_1 a1_2 a1_3 a1_4 a1_5).bind fun bt928 => (if bt922.1 = bt928.1 then (if bt922.1 = 0 then (some false) else (if bt922.1 = 4 then (some false) else ((value_Cmp.f k bt922.1 bt922.2.1 bt922.2.2.1 bt922.2.2.2.1 bt922.2.2.2.2.1 bt922.2.2.2.2.2 bt928.1 bt928.2.1 bt928.2.2.1 bt928.2.2.2.1 bt928.2.2.2.2.1 bt928.2.2.2.2.2).bind fun t934 => (some (t934 == 0))))) else (some false)))
theorem value_Same.mono : ∀ a0 a1 a2 a3 a4 a5 a6 a7 a8 a9 a10 a11 k, LeO (value_Same.f k a0 a1 a2 a3 a4 a5 a6 a7 a8 a9 a10 a11) (value_Same.f (k + 1) a0 a1 a2 a3 a4 a5 a6 a7 a8 a9 a10 a11) := by
 intro a0 a1 a2 a3 a4 a5 a6 a7 a8 a9 a10 a11 k
 unfold value_Same.f
 repeat' first
   | (with_reducible exact value_Cmp.mono _ _ _ _ _ _ _ _ _ _ _ _ _)
   | (with_reducible exact value_taken.mono _ _ _ _ _ _ _)
   | (with_reducible exact LeO.refl _)
   | (with_reducible exact LeO.none _)
   | (with_reducible refine LeO.ite ?_ ?_)
   | (with_reducible refine LeO.bind ?_ (fun _ => ?_))
   | exact value_Cmp.mono _ _ _ _ _ _ _ _ _ _ _ _ _
   | exact value_taken.mono _ _ _ _ _ _ _
   | exact LeO.none _
   | refine LeO.ite ?_ ?_
   | refine LeO.bind ?_ (fun _ => ?_)
set_option maxHeartbeats 8000000 in
set_option maxRecDepth 100000 in
theorem value_Same.calls (k : Nat) (a0_0 : Int) (a0_1 : Int) (a0_2 : Int) (a0_3 : ByteArray) (a0_4 : Bool) (a0_5 : Int) (a1_0 : Int) (a1_1 : Int) (a1_2 : Int) (a1_3 : ByteArray) (a1_4 : Bool) (a1_5 : Int) (r : Bool) (w : World) (h : value_Same.f k a0_0 a0_1 a0_2 a0_3 a0_4 a0_5 a1_0 a1_1 a1_2 a1_3 a1_4 a1_5 = some r) :
  Calls Tryd.prog 34 #[.agg #[.int .i64 a0_0, .int .i64 a0_1, .int .i64 a0_2, .string a0_3, .bool a0_4, .int .i64 a0_5], .agg #[.int .i64 a1_0, .int .i64 a1_1, .int .i64 a1_2, .string a1_3, .bool a1_4, .int .i64 a1_5]] w fun e w' => e = .returned (.bool r) ∧ Below w.heap.size w w' := by
 have hu25 := Tryd.underlying25
 have BX := Bx.start w
 have H : ((value_taken.f k a0_0 a0_1 a0_2 a0_3 a0_4 a0_5).bind fun bt922 => ((value_taken.f k a1_0 a1_1 a1_2 a1_3 a1_4 a1_5).bind fun bt928 => (if bt922.1 = bt928.1 then (if bt922.1 = 0 then (some false) else (if bt922.1 = 4 then (some false) else ((value_Cmp.f k bt922.1 bt922.2.1 bt922.2.2.1 bt922.2.2.2.1 bt922.2.2.2.2.1 bt922.2.2.2.2.2 bt928.1 bt928.2.1 bt928.2.2.1 bt928.2.2.2.1 bt928.2.2.2.2.1 bt928.2.2.2.2.2).bind fun t934 => (some (t934 == 0))))) else (some false)))) = some r := h
 clear h
 replace H := Option.bind_eq_some_iff.mp H
 obtain ⟨⟨t922, t923, t924, t925, t926, t927⟩, A30, H⟩ := H
 have A3 := Aside0.mk A30
 clear A30
 replace H := Option.bind_eq_some_iff.mp H
 obtain ⟨⟨t928, t929, t930, t931, t932, t933⟩, A40, H⟩ := H
 replace H : (if t922 = t928 then (if t922 = 0 then (some false) else (if t922 = 4 then (some false) else ((value_Cmp.f k t922 t923 t924 t925 t926 t927 t928 t929 t930 t931 t932 t933).bind fun t934 => (some (t934 == 0))))) else (some false)) = some r := H
 have A4 := Aside0.mk A40
 clear A40
 by_cases c5 : t922 = t928
 ·rw [if_pos c5] at H
  have c5b0 : (t922 == t928) = true := beq_iff_eq.mpr c5
  have c5b1 : (t922 != t928) = false := bne_eq_false_iff_eq.mpr c5
  clear c5
  by_cases c6 : t922 = 0
  ·rw [if_pos c6] at H
   have c6b0 : (t922 == 0) = true := beq_iff_eq.mpr c6
   have c6b1 : (t922 != 0) = false := bne_eq_false_iff_eq.mpr c6
   clear c6
   obtain rfl := Option.some.inj H
   go_enter Tryd.func34, Tryd.ntmps34
   try go_wp2_with (first | ((with_reducible refine gate_dst (N := 2) rfl ?_); refine bxe 2 #[.int .i64 a0_0, .int .i64 a0_1, .int .i64 a0_2, .string a0_3, .bool a0_4, .int .i64 a0_5] 25 rfl rfl gr ?_; clear BX; intro gb920 w7 GE920 BX) | ((with_reducible refine gate_dst (N := 3) rfl ?_); refine bxe 3 #[.int .i64 a1_0, .int .i64 a1_1, .int .i64 a1_2, .string a1_3, .bool a1_4, .int .i64 a1_5] 25 rfl rfl gr ?_; clear BX; intro gb921 w8 GE921 BX))
   refine startm [true, true] (n := 6) (ds := [4, 5]) #[false, false, false, false, false, false] kr rfl rfl (fun BX1 => ?_)
   clear BX
   have BX := BX1
   clear BX1
   generalize w8.drew = w9 at BX ⊢
   refine take_ (i := 0) (N := some 5) (v := ?_) (a' := ?_) #[true, false, false, false, false, false] rfl rfl kr (fun _ _ _ h => h) (Or.inl ⟨by rfl, ?_⟩) bxs ?_ ?_
   rotate_left
   ·intro w' hS
    go_simp
    with_reducible rfl
   rotate_left
   ·simp only [Act.put, List.setIfInBounds_toArray, List.set_cons_zero, List.set_cons_succ, i64_w, i32_w]
    rfl
   refine take_ (i := 2) (N := some 7) (v := ?_) (a' := ?_) #[true, false, true, false, false, false] rfl rfl kr (fun _ _ _ h => h) (Or.inl ⟨by rfl, ?_⟩) bxs ?_ ?_
   rotate_left
   ·intro w' hS
    go_simp
    with_reducible rfl
   rotate_left
   ·simp only [Act.put, List.setIfInBounds_toArray, List.set_cons_zero, List.set_cons_succ, i64_w, i32_w]
    rfl
   refine one_ (i := 1) (N := some 6) #[true, true, true, false, false, false] rfl rfl kr (by decide) (fun K hK => ?_)
   refine goes_ Tryd.func59 kr rfl #[.agg #[.int .i64 a0_0, .int .i64 a0_1, .int .i64 a0_2, .string a0_3, .bool a0_4, .int .i64 a0_5]] (by rfl) rfl rfl ga ?_
   with_reducible refine (value_taken.calls k a0_0 a0_1 a0_2 a0_3 a0_4 a0_5 t922 t923 t924 t925 t926 t927 _ A3.out).mono ?_
   rintro e w10 ⟨rfl, hb⟩
   refine ⟨_, rfl, ?_⟩
   replace BX := bx_call hb
   clear hb
   refine hK.out _ _ bxs (fun hHeld => ?_)
   clear hK K hHeld
   refine norm_ (a' := ?_) ?_ ?_
   rotate_left
   ·show Act.put _ (some 6) _ = _
    simp only [Act.put, List.setIfInBounds_toArray, List.set_cons_zero, List.set_cons_succ, i64_w, i32_w]
    rfl
   refine one_ (i := 3) (N := some 8) #[true, true, true, true, false, false] rfl rfl kr (by decide) (fun K hK => ?_)
   refine goes_ Tryd.func59 kr rfl #[.agg #[.int .i64 a1_0, .int .i64 a1_1, .int .i64 a1_2, .string a1_3, .bool a1_4, .int .i64 a1_5]] (by rfl) rfl rfl ga ?_
   with_reducible refine (value_taken.calls k a1_0 a1_1 a1_2 a1_3 a1_4 a1_5 t928 t929 t930 t931 t932 t933 _ A4.out).mono ?_
   rintro e w11 ⟨rfl, hb⟩
   refine ⟨_, rfl, ?_⟩
   replace BX := bx_call hb
   clear hb
   refine hK.out _ _ bxs (fun hHeld => ?_)
   clear hK K hHeld
   refine norm_ (a' := ?_) ?_ ?_
   rotate_left
   ·show Act.put _ (some 8) _ = _
    simp only [Act.put, List.setIfInBounds_toArray, List.set_cons_zero, List.set_cons_succ, i64_w, i32_w]
    rfl
   refine last_ (i := 4) (N := none) #[true, true, true, true, true, false] rfl rfl kr (by decide) (fun K hK => ?_)
   refine skip_ (w1 := ?_) (by rfl) rfl ?_ ?_
   rotate_left
   ·go_simp
    rfl
   refine hK.out _ _ (name_any fun wq BXq => ?_)
   clear hK K BX
   have BX := BXq
   clear BXq
   refine last_ (i := 5) (N := none) #[true, true, true, true, true, true] rfl rfl kr (by decide) (fun K hK => ?_)
   refine skip_ (w1 := ?_) (by rfl) rfl ?_ ?_
   rotate_left
   ·go_simp
    rfl
   refine hK.out _ _ (name_any fun wq BXq => ?_)
   clear hK K BX
   have BX := BXq
   clear BXq
   refine done_ kr ?_
   try go_wp2
   go_ret
   exact ⟨er2, bx_bl⟩
  ·rw [if_neg c6] at H
   have c6b0 : (t922 == 0) = false := beq_eq_false_iff_ne.mpr c6
   have c6b1 : (t922 != 0) = true := bne_iff_ne.mpr c6
   by_cases c27 : t922 = 4
   ·rw [if_pos c27] at H
    have c27b0 : (t922 == 4) = true := beq_iff_eq.mpr c27
    have c27b1 : (t922 != 4) = false := bne_eq_false_iff_eq.mpr c27
    clear c27
    obtain rfl := Option.some.inj H
    go_enter Tryd.func34, Tryd.ntmps34
    try go_wp2_with (first | ((with_reducible refine gate_dst (N := 2) rfl ?_); refine bxe 2 #[.int .i64 a0_0, .int .i64 a0_1, .int .i64 a0_2, .string a0_3, .bool a0_4, .int .i64 a0_5] 25 rfl rfl gr ?_; clear BX; intro gb920 w28 GE920 BX) | ((with_reducible refine gate_dst (N := 3) rfl ?_); refine bxe 3 #[.int .i64 a1_0, .int .i64 a1_1, .int .i64 a1_2, .string a1_3, .bool a1_4, .int .i64 a1_5] 25 rfl rfl gr ?_; clear BX; intro gb921 w29 GE921 BX))
    refine startm [true, true] (n := 6) (ds := [4, 5]) #[false, false, false, false, false, false] kr rfl rfl (fun BX1 => ?_)
    clear BX
    have BX := BX1
    clear BX1
    generalize w29.drew = w30 at BX ⊢
    refine take_ (i := 0) (N := some 5) (v := ?_) (a' := ?_) #[true, false, false, false, false, false] rfl rfl kr (fun _ _ _ h => h) (Or.inl ⟨by rfl, ?_⟩) bxs ?_ ?_
    rotate_left
    ·intro w' hS
     go_simp
     with_reducible rfl
    rotate_left
    ·simp only [Act.put, List.setIfInBounds_toArray, List.set_cons_zero, List.set_cons_succ, i64_w, i32_w]
     rfl
    refine take_ (i := 2) (N := some 7) (v := ?_) (a' := ?_) #[true, false, true, false, false, false] rfl rfl kr (fun _ _ _ h => h) (Or.inl ⟨by rfl, ?_⟩) bxs ?_ ?_
    rotate_left
    ·intro w' hS
     go_simp
     with_reducible rfl
    rotate_left
    ·simp only [Act.put, List.setIfInBounds_toArray, List.set_cons_zero, List.set_cons_succ, i64_w, i32_w]
     rfl
    refine one_ (i := 1) (N := some 6) #[true, true, true, false, false, false] rfl rfl kr (by decide) (fun K hK => ?_)
    refine goes_ Tryd.func59 kr rfl #[.agg #[.int .i64 a0_0, .int .i64 a0_1, .int .i64 a0_2, .string a0_3, .bool a0_4, .int .i64 a0_5]] (by rfl) rfl rfl ga ?_
    with_reducible refine (value_taken.calls k a0_0 a0_1 a0_2 a0_3 a0_4 a0_5 t922 t923 t924 t925 t926 t927 _ A3.out).mono ?_
    rintro e w31 ⟨rfl, hb⟩
    refine ⟨_, rfl, ?_⟩
    replace BX := bx_call hb
    clear hb
    refine hK.out _ _ bxs (fun hHeld => ?_)
    clear hK K hHeld
    refine norm_ (a' := ?_) ?_ ?_
    rotate_left
    ·show Act.put _ (some 6) _ = _
     simp only [Act.put, List.setIfInBounds_toArray, List.set_cons_zero, List.set_cons_succ, i64_w, i32_w]
     rfl
    refine one_ (i := 3) (N := some 8) #[true, true, true, true, false, false] rfl rfl kr (by decide) (fun K hK => ?_)
    refine goes_ Tryd.func59 kr rfl #[.agg #[.int .i64 a1_0, .int .i64 a1_1, .int .i64 a1_2, .string a1_3, .bool a1_4, .int .i64 a1_5]] (by rfl) rfl rfl ga ?_
    with_reducible refine (value_taken.calls k a1_0 a1_1 a1_2 a1_3 a1_4 a1_5 t928 t929 t930 t931 t932 t933 _ A4.out).mono ?_
    rintro e w32 ⟨rfl, hb⟩
    refine ⟨_, rfl, ?_⟩
    replace BX := bx_call hb
    clear hb
    refine hK.out _ _ bxs (fun hHeld => ?_)
    clear hK K hHeld
    refine norm_ (a' := ?_) ?_ ?_
    rotate_left
    ·show Act.put _ (some 8) _ = _
     simp only [Act.put, List.setIfInBounds_toArray, List.set_cons_zero, List.set_cons_succ, i64_w, i32_w]
     rfl
    refine last_ (i := 4) (N := none) #[true, true, true, true, true, false] rfl rfl kr (by decide) (fun K hK => ?_)
    refine skip_ (w1 := ?_) (by rfl) rfl ?_ ?_
    rotate_left
    ·go_simp
     rfl
    refine hK.out _ _ (name_any fun wq BXq => ?_)
    clear hK K BX
    have BX := BXq
    clear BXq
    refine last_ (i := 5) (N := none) #[true, true, true, true, true, true] rfl rfl kr (by decide) (fun K hK => ?_)
    refine skip_ (w1 := ?_) (by rfl) rfl ?_ ?_
    rotate_left
    ·go_simp
     rfl
    refine hK.out _ _ (name_any fun wq BXq => ?_)
    clear hK K BX
    have BX := BXq
    clear BXq
    refine done_ kr ?_
    try go_wp2
    go_ret
    exact ⟨er2, bx_bl⟩
   ·rw [if_neg c27] at H
    have c27b0 : (t922 == 4) = false := beq_eq_false_iff_ne.mpr c27
    have c27b1 : (t922 != 4) = true := bne_iff_ne.mpr c27
    replace H := Option.bind_eq_some_iff.mp H
    obtain ⟨t934, A480, H⟩ := H
    replace H : (some (t934 == 0)) = some r := H
    have A48 := Aside0.mk A480
    clear A480
    obtain rfl := Option.some.inj H
    go_enter Tryd.func34, Tryd.ntmps34
    try go_wp2_with (first | ((with_reducible refine gate_dst (N := 2) rfl ?_); refine bxe 2 #[.int .i64 a0_0, .int .i64 a0_1, .int .i64 a0_2, .string a0_3, .bool a0_4, .int .i64 a0_5] 25 rfl rfl gr ?_; clear BX; intro gb920 w49 GE920 BX) | ((with_reducible refine gate_dst (N := 3) rfl ?_); refine bxe 3 #[.int .i64 a1_0, .int .i64 a1_1, .int .i64 a1_2, .string a1_3, .bool a1_4, .int .i64 a1_5] 25 rfl rfl gr ?_; clear BX; intro gb921 w50 GE921 BX))
    refine startm [true, true] (n := 6) (ds := [4, 5]) #[false, false, false, false, false, false] kr rfl rfl (fun BX1 => ?_)
    clear BX
    have BX := BX1
    clear BX1
    generalize w50.drew = w51 at BX ⊢
    refine take_ (i := 0) (N := some 5) (v := ?_) (a' := ?_) #[true, false, false, false, false, false] rfl rfl kr (fun _ _ _ h => h) (Or.inl ⟨by rfl, ?_⟩) bxs ?_ ?_
    rotate_left
    ·intro w' hS
     go_simp
     with_reducible rfl
    rotate_left
    ·simp only [Act.put, List.setIfInBounds_toArray, List.set_cons_zero, List.set_cons_succ, i64_w, i32_w]
     rfl
    refine take_ (i := 2) (N := some 7) (v := ?_) (a' := ?_) #[true, false, true, false, false, false] rfl rfl kr (fun _ _ _ h => h) (Or.inl ⟨by rfl, ?_⟩) bxs ?_ ?_
    rotate_left
    ·intro w' hS
     go_simp
     with_reducible rfl
    rotate_left
    ·simp only [Act.put, List.setIfInBounds_toArray, List.set_cons_zero, List.set_cons_succ, i64_w, i32_w]
     rfl
    refine one_ (i := 1) (N := some 6) #[true, true, true, false, false, false] rfl rfl kr (by decide) (fun K hK => ?_)
    refine goes_ Tryd.func59 kr rfl #[.agg #[.int .i64 a0_0, .int .i64 a0_1, .int .i64 a0_2, .string a0_3, .bool a0_4, .int .i64 a0_5]] (by rfl) rfl rfl ga ?_
    with_reducible refine (value_taken.calls k a0_0 a0_1 a0_2 a0_3 a0_4 a0_5 t922 t923 t924 t925 t926 t927 _ A3.out).mono ?_
    rintro e w52 ⟨rfl, hb⟩
    refine ⟨_, rfl, ?_⟩
    replace BX := bx_call hb
    clear hb
    refine hK.out _ _ bxs (fun hHeld => ?_)
    clear hK K hHeld
    refine norm_ (a' := ?_) ?_ ?_
    rotate_left
    ·show Act.put _ (some 6) _ = _
     simp only [Act.put, List.setIfInBounds_toArray, List.set_cons_zero, List.set_cons_succ, i64_w, i32_w]
     rfl
    refine one_ (i := 3) (N := some 8) #[true, true, true, true, false, false] rfl rfl kr (by decide) (fun K hK => ?_)
    refine goes_ Tryd.func59 kr rfl #[.agg #[.int .i64 a1_0, .int .i64 a1_1, .int .i64 a1_2, .string a1_3, .bool a1_4, .int .i64 a1_5]] (by rfl) rfl rfl ga ?_
    with_reducible refine (value_taken.calls k a1_0 a1_1 a1_2 a1_3 a1_4 a1_5 t928 t929 t930 t931 t932 t933 _ A4.out).mono ?_
    rintro e w53 ⟨rfl, hb⟩
    refine ⟨_, rfl, ?_⟩
    replace BX := bx_call hb
    clear hb
    refine hK.out _ _ bxs (fun hHeld => ?_)
    clear hK K hHeld
    refine norm_ (a' := ?_) ?_ ?_
    rotate_left
    ·show Act.put _ (some 8) _ = _
     simp only [Act.put, List.setIfInBounds_toArray, List.set_cons_zero, List.set_cons_succ, i64_w, i32_w]
     rfl
    refine last_ (i := 4) (N := none) #[true, true, true, true, true, false] rfl rfl kr (by decide) (fun K hK => ?_)
    refine skip_ (w1 := ?_) (by rfl) rfl ?_ ?_
    rotate_left
    ·go_simp
     rfl
    refine hK.out _ _ (name_any fun wq BXq => ?_)
    clear hK K BX
    have BX := BXq
    clear BXq
    refine last_ (i := 5) (N := none) #[true, true, true, true, true, true] rfl rfl kr (by decide) (fun K hK => ?_)
    refine skip_ (w1 := ?_) (by rfl) rfl ?_ ?_
    rotate_left
    ·go_simp
     rfl
    refine hK.out _ _ (name_any fun wq BXq => ?_)
    clear hK K BX
    have BX := BXq
    clear BXq
    refine done_ kr ?_
    try go_wp2_with (first | (go_at_call 32; (with_reducible refine (value_Cmp.calls k t922 t923 t924 t925 t926 t927 t928 t929 t930 t931 t932 t933 t934 _ A48.out).mono ?_); rintro e w69 ⟨rfl, hb⟩; replace BX := bx_call hb; clear hb))
    go_ret
    exact ⟨er2, bx_bl⟩
 ·rw [if_neg c5] at H
  have c5b0 : (t922 == t928) = false := beq_eq_false_iff_ne.mpr c5
  have c5b1 : (t922 != t928) = true := bne_iff_ne.mpr c5
  obtain rfl := Option.some.inj H
  go_enter Tryd.func34, Tryd.ntmps34
  try go_wp2_with (first | ((with_reducible refine gate_dst (N := 2) rfl ?_); refine bxe 2 #[.int .i64 a0_0, .int .i64 a0_1, .int .i64 a0_2, .string a0_3, .bool a0_4, .int .i64 a0_5] 25 rfl rfl gr ?_; clear BX; intro gb920 w70 GE920 BX) | ((with_reducible refine gate_dst (N := 3) rfl ?_); refine bxe 3 #[.int .i64 a1_0, .int .i64 a1_1, .int .i64 a1_2, .string a1_3, .bool a1_4, .int .i64 a1_5] 25 rfl rfl gr ?_; clear BX; intro gb921 w71 GE921 BX))
  refine startm [true, true] (n := 6) (ds := [4, 5]) #[false, false, false, false, false, false] kr rfl rfl (fun BX1 => ?_)
  clear BX
  have BX := BX1
  clear BX1
  generalize w71.drew = w72 at BX ⊢
  refine take_ (i := 0) (N := some 5) (v := ?_) (a' := ?_) #[true, false, false, false, false, false] rfl rfl kr (fun _ _ _ h => h) (Or.inl ⟨by rfl, ?_⟩) bxs ?_ ?_
  rotate_left
  ·intro w' hS
   go_simp
   with_reducible rfl
  rotate_left
  ·simp only [Act.put, List.setIfInBounds_toArray, List.set_cons_zero, List.set_cons_succ, i64_w, i32_w]
   rfl
  refine take_ (i := 2) (N := some 7) (v := ?_) (a' := ?_) #[true, false, true, false, false, false] rfl rfl kr (fun _ _ _ h => h) (Or.inl ⟨by rfl, ?_⟩) bxs ?_ ?_
  rotate_left
  ·intro w' hS
   go_simp
   with_reducible rfl
  rotate_left
  ·simp only [Act.put, List.setIfInBounds_toArray, List.set_cons_zero, List.set_cons_succ, i64_w, i32_w]
   rfl
  refine one_ (i := 1) (N := some 6) #[true, true, true, false, false, false] rfl rfl kr (by decide) (fun K hK => ?_)
  refine goes_ Tryd.func59 kr rfl #[.agg #[.int .i64 a0_0, .int .i64 a0_1, .int .i64 a0_2, .string a0_3, .bool a0_4, .int .i64 a0_5]] (by rfl) rfl rfl ga ?_
  with_reducible refine (value_taken.calls k a0_0 a0_1 a0_2 a0_3 a0_4 a0_5 t922 t923 t924 t925 t926 t927 _ A3.out).mono ?_
  rintro e w73 ⟨rfl, hb⟩
  refine ⟨_, rfl, ?_⟩
  replace BX := bx_call hb
  clear hb
  refine hK.out _ _ bxs (fun hHeld => ?_)
  clear hK K hHeld
  refine norm_ (a' := ?_) ?_ ?_
  rotate_left
  ·show Act.put _ (some 6) _ = _
   simp only [Act.put, List.setIfInBounds_toArray, List.set_cons_zero, List.set_cons_succ, i64_w, i32_w]
   rfl
  refine one_ (i := 3) (N := some 8) #[true, true, true, true, false, false] rfl rfl kr (by decide) (fun K hK => ?_)
  refine goes_ Tryd.func59 kr rfl #[.agg #[.int .i64 a1_0, .int .i64 a1_1, .int .i64 a1_2, .string a1_3, .bool a1_4, .int .i64 a1_5]] (by rfl) rfl rfl ga ?_
  with_reducible refine (value_taken.calls k a1_0 a1_1 a1_2 a1_3 a1_4 a1_5 t928 t929 t930 t931 t932 t933 _ A4.out).mono ?_
  rintro e w74 ⟨rfl, hb⟩
  refine ⟨_, rfl, ?_⟩
  replace BX := bx_call hb
  clear hb
  refine hK.out _ _ bxs (fun hHeld => ?_)
  clear hK K hHeld
  refine norm_ (a' := ?_) ?_ ?_
  rotate_left
  ·show Act.put _ (some 8) _ = _
   simp only [Act.put, List.setIfInBounds_toArray, List.set_cons_zero, List.set_cons_succ, i64_w, i32_w]
   rfl
  refine last_ (i := 4) (N := none) #[true, true, true, true, true, false] rfl rfl kr (by decide) (fun K hK => ?_)
  refine skip_ (w1 := ?_) (by rfl) rfl ?_ ?_
  rotate_left
  ·go_simp
   rfl
  refine hK.out _ _ (name_any fun wq BXq => ?_)
  clear hK K BX
  have BX := BXq
  clear BXq
  refine last_ (i := 5) (N := none) #[true, true, true, true, true, true] rfl rfl kr (by decide) (fun K hK => ?_)
  refine skip_ (w1 := ?_) (by rfl) rfl ?_ ?_
  rotate_left
  ·go_simp
   rfl
  refine hK.out _ _ (name_any fun wq BXq => ?_)
  clear hK K BX
  have BX := BXq
  clear BXq
  refine done_ kr ?_
  try go_wp2
  go_ret
  exact ⟨er2, bx_bl⟩
end
section
/-! ### value_AsTruth: function 41 -/
def value_AsTruth.j0 : Nat → Bool → Int → Int → Int → ByteArray → Bool → Int → Option (Bool × Int × Int × Int × ByteArray × Bool × Int)
 | 0, _, _, _, _, _, _, _ => none
 | k + 1, x29, x1092000, x1092001, x1092002, x1092003, x1092004, x1092005 => if x29 = true then ((value_Fault.f 2).bind fun bt1107 => (some (false, bt1107.1, bt1107.2.1, bt1107.2.2.1, bt1107.2.2.2.1, bt1107.2.2.2.2.1, bt1107.2.2.2.2.2))) else ((value_word.f true).bind fun t1113 => ((value_Blank.f).bind fun bt1114 => (some ((x1092003.toList == t1113.toList), bt1114.1, bt1114.2.1, bt1114.2.2.1, bt1114.2.2.2.1, bt1114.2.2.2.2.1, bt1114.2.2.2.2.2))))
def value_AsTruth.f (k : Nat) (a0_0 : Int) (a0_1 : Int) (a0_2 : Int) (a0_3 : ByteArray) (a0_4 : Bool) (a0_5 : Int) : Option (Bool × Int × Int × Int × ByteArray × Bool × Int) := (value_taken.f k a0_0 a0_1 a0_2 a0_3 a0_4 a0_5).bind fun bt1093 => (if bt1093.1 = 4 then (some (false, bt1093.1, bt1093.2.1, bt1093.2.2.1, bt1093.2.2.2.1, bt1093.2.2.2.2.1, bt1093.2.2.2.2.2)) else (if bt1093.1 = 1 then ((value_Blank.f).bind fun bt1099 => (some ((bt1093.2.1 != 0), bt1099.1, bt1099.2.1, bt1099.2.2.1, bt1099.2.2.2.1, bt1099.2.2.2.2.1, bt1099.2.2.2.2.2))) else (if bt1093.1 = 2 then ((value_word.f true).bind fun t1105 => (if bt1093.2.2.2.1.toList = t1105.toList then (value_AsTruth.j0 k false bt1093.1 bt1093.2.1 bt1093.2.2.1 bt1093.2.2.2.1 bt1093.2.2.2.2.1 bt1093.2.2.2.2.2) else ((value_word.f false).bind fun t1106 => (value_AsTruth.j0 k (bt1093.2.2.2.1.toList != t1106.toList) bt1093.1 bt1093.2.1 bt1093.2.2.1 bt1093.2.2.2.1 bt1093.2.2.2.2.1 bt1093.2.2.2.2.2)))) else ((value_Blank.f).bind fun bt1120 => (some (bt1093.2.2.2.2.1, bt1120.1, bt1120.2.1, bt1120.2.2.1, bt1120.2.2.2.1, bt1120.2.2.2.2.1, bt1120.2.2.2.2.2))))))
theorem value_AsTruth.mono_l : ∀ k, (∀ y0 y1 y2 y3 y4 y5 y6, LeO (value_AsTruth.j0 k y0 y1 y2 y3 y4 y5 y6) (value_AsTruth.j0 (k + 1) y0 y1 y2 y3 y4 y5 y6))
 | 0 => fun _ _ _ _ _ _ _ r h => by simp [value_AsTruth.j0] at h
 | k + 1 => by
  have ih0 := value_AsTruth.mono_l k
  ·intro y0 y1 y2 y3 y4 y5 y6
   unfold value_AsTruth.j0
   repeat' first
   | (with_reducible exact ih0 _ _ _ _ _ _ _)
   | (with_reducible exact value_taken.mono _ _ _ _ _ _ _)
   | (with_reducible exact LeO.refl _)
   | (with_reducible exact LeO.none _)
   | (with_reducible refine LeO.ite ?_ ?_)
   | (with_reducible refine LeO.bind ?_ (fun _ => ?_))
   | exact ih0 _ _ _ _ _ _ _
   | exact value_taken.mono _ _ _ _ _ _ _
   | exact LeO.none _
   | refine LeO.ite ?_ ?_
   | refine LeO.bind ?_ (fun _ => ?_)
theorem value_AsTruth.mono : ∀ a0 a1 a2 a3 a4 a5 k, LeO (value_AsTruth.f k a0 a1 a2 a3 a4 a5) (value_AsTruth.f (k + 1) a0 a1 a2 a3 a4 a5) := by
 intro a0 a1 a2 a3 a4 a5 k
 have ih0 := value_AsTruth.mono_l k
 unfold value_AsTruth.f
 repeat' first
   | (with_reducible exact ih0 _ _ _ _ _ _ _)
   | (with_reducible exact value_taken.mono _ _ _ _ _ _ _)
   | (with_reducible exact LeO.refl _)
   | (with_reducible exact LeO.none _)
   | (with_reducible refine LeO.ite ?_ ?_)
   | (with_reducible refine LeO.bind ?_ (fun _ => ?_))
   | exact ih0 _ _ _ _ _ _ _
   | exact value_taken.mono _ _ _ _ _ _ _
   | exact LeO.none _
   | refine LeO.ite ?_ ?_
   | refine LeO.bind ?_ (fun _ => ?_)
def value_AsTruth.T8 : Bool × List (List Nat × List Nat) := (true, [([], []), ([0], [0]), ([], []), ([1, 2], [1, 2]), ([3, 2], [3]), ([4], [4]), ([5, 4], [4, 5]), ([4, 4], [4]), ([6, 7, 4], [4, 6, 7]), ([4, 8], [4, 8])])
def value_AsTruth.B8 : List Nat := [0, 1, 0, 7, 15, 31, 63, 31, 255, 511]
theorem value_AsTruth.tab8 : rtab .any (opsOf Tryd.f41 8) = value_AsTruth.T8 := by kernel_rfl
theorem value_AsTruth.bits8 : waitsOk value_AsTruth.T8.2 value_AsTruth.B8 = true := by kernel_rfl
set_option maxHeartbeats 8000000 in
set_option maxRecDepth 100000 in
theorem value_AsTruth.calls (k : Nat) (a0_0 : Int) (a0_1 : Int) (a0_2 : Int) (a0_3 : ByteArray) (a0_4 : Bool) (a0_5 : Int) (r1 : Bool) (r2 : Int) (r3 : Int) (r4 : Int) (r5 : ByteArray) (r6 : Bool) (r7 : Int) (w : World) (h : value_AsTruth.f k a0_0 a0_1 a0_2 a0_3 a0_4 a0_5 = some (r1, r2, r3, r4, r5, r6, r7)) :
  Calls Tryd.prog 41 #[.agg #[.int .i64 a0_0, .int .i64 a0_1, .int .i64 a0_2, .string a0_3, .bool a0_4, .int .i64 a0_5]] w fun e w' => e = .returned (.tuple #[.bool r1, .agg #[.int .i64 r2, .int .i64 r3, .int .i64 r4, .string r5, .bool r6, .int .i64 r7]]) ∧ Below w.heap.size w w' := by
 have hu25 := Tryd.underlying25
 have BX := Bx.start w
 have H : ((value_taken.f k a0_0 a0_1 a0_2 a0_3 a0_4 a0_5).bind fun bt1093 => (if bt1093.1 = 4 then (some (false, bt1093.1, bt1093.2.1, bt1093.2.2.1, bt1093.2.2.2.1, bt1093.2.2.2.2.1, bt1093.2.2.2.2.2)) else (if bt1093.1 = 1 then ((value_Blank.f).bind fun bt1099 => (some ((bt1093.2.1 != 0), bt1099.1, bt1099.2.1, bt1099.2.2.1, bt1099.2.2.2.1, bt1099.2.2.2.2.1, bt1099.2.2.2.2.2))) else (if bt1093.1 = 2 then ((value_word.f true).bind fun t1105 => (if bt1093.2.2.2.1.toList = t1105.toList then (value_AsTruth.j0 k false bt1093.1 bt1093.2.1 bt1093.2.2.1 bt1093.2.2.2.1 bt1093.2.2.2.2.1 bt1093.2.2.2.2.2) else ((value_word.f false).bind fun t1106 => (value_AsTruth.j0 k (bt1093.2.2.2.1.toList != t1106.toList) bt1093.1 bt1093.2.1 bt1093.2.2.1 bt1093.2.2.2.1 bt1093.2.2.2.2.1 bt1093.2.2.2.2.2)))) else ((value_Blank.f).bind fun bt1120 => (some (bt1093.2.2.2.2.1, bt1120.1, bt1120.2.1, bt1120.2.2.1, bt1120.2.2.2.1, bt1120.2.2.2.2.1, bt1120.2.2.2.2.2))))))) = some (r1, r2, r3, r4, r5, r6, r7) := h
 clear h
 replace H := Option.bind_eq_some_iff.mp H
 obtain ⟨⟨t1093, t1094, t1095, t1096, t1097, t1098⟩, A20, H⟩ := H
 replace H : (if t1093 = 4 then (some (false, t1093, t1094, t1095, t1096, t1097, t1098)) else (if t1093 = 1 then ((value_Blank.f).bind fun bt1099 => (some ((t1094 != 0), bt1099.1, bt1099.2.1, bt1099.2.2.1, bt1099.2.2.2.1, bt1099.2.2.2.2.1, bt1099.2.2.2.2.2))) else (if t1093 = 2 then ((value_word.f true).bind fun t1105 => (if t1096.toList = t1105.toList then (value_AsTruth.j0 k false t1093 t1094 t1095 t1096 t1097 t1098) else ((value_word.f false).bind fun t1106 => (value_AsTruth.j0 k (t1096.toList != t1106.toList) t1093 t1094 t1095 t1096 t1097 t1098)))) else ((value_Blank.f).bind fun bt1120 => (some (t1097, bt1120.1, bt1120.2.1, bt1120.2.2.1, bt1120.2.2.2.1, bt1120.2.2.2.2.1, bt1120.2.2.2.2.2)))))) = some (r1, r2, r3, r4, r5, r6, r7) := H
 have A2 := Aside0.mk A20
 clear A20
 by_cases c3 : t1093 = 4
 ·rw [if_pos c3] at H
  have c3b0 : (t1093 == 4) = true := beq_iff_eq.mpr c3
  have c3b1 : (t1093 != 4) = false := bne_eq_false_iff_eq.mpr c3
  clear c3
  simp only [Option.some.injEq, Prod.mk.injEq] at H
  obtain ⟨rfl, rfl, rfl, rfl, rfl, rfl, rfl⟩ := H
  go_enter Tryd.func41, Tryd.ntmps41
  try go_wp2_with (first | ((with_reducible refine gate_dst (N := 1) rfl ?_); refine bxe 1 #[.int .i64 a0_0, .int .i64 a0_1, .int .i64 a0_2, .string a0_3, .bool a0_4, .int .i64 a0_5] 25 rfl rfl gr ?_; clear BX; intro gb1091 w4 GE1091 BX) | ((with_reducible refine gate_dst (N := 3) rfl ?_); refine bxe 3 #[.int .i64 0, .int .i64 0, .int .i64 0, .string (⟨#[]⟩ : ByteArray), .bool false, .int .i64 0] 25 rfl rfl gr ?_; clear BX; intro gb1092 w5 GE1092 BX) | ((with_reducible refine gate_callee (f := 59) rfl ?_); refine goesL_ (some 5) rfl rfl Tryd.func59 kr rfl #[.agg #[.int .i64 a0_0, .int .i64 a0_1, .int .i64 a0_2, .string a0_3, .bool a0_4, .int .i64 a0_5]] rfl ga ?_; (with_reducible refine (value_taken.calls k a0_0 a0_1 a0_2 a0_3 a0_4 a0_5 t1093 t1094 t1095 t1096 t1097 t1098 _ A2.out).mono ?_); rintro e w8 ⟨rfl, hb⟩; refine ⟨_, rfl, ?_⟩; replace BX := bx_call hb; clear hb))
  replace BX : Bx w ((((((w8.setCell ⟨gb1091, 0, none⟩ (.int .i64 t1093)).setCell ⟨gb1091, 1, none⟩ (.int .i64 t1094)).setCell ⟨gb1091, 2, none⟩ (.int .i64 t1095)).setCell ⟨gb1091, 3, none⟩ (.string t1096)).setCell ⟨gb1091, 4, none⟩ (.bool t1097)).setCell ⟨gb1091, 5, none⟩ (.int .i64 t1098)) _ := bxi
  generalize ((((((w8.setCell ⟨gb1091, 0, none⟩ (.int .i64 t1093)).setCell ⟨gb1091, 1, none⟩ (.int .i64 t1094)).setCell ⟨gb1091, 2, none⟩ (.int .i64 t1095)).setCell ⟨gb1091, 3, none⟩ (.string t1096)).setCell ⟨gb1091, 4, none⟩ (.bool t1097)).setCell ⟨gb1091, 5, none⟩ (.int .i64 t1098)) = w10 at BX ⊢
  refine startm [false, true] (n := 3) (ds := []) #[false, false, false] kr rfl rfl (fun BX1 => ?_)
  clear BX
  have BX := BX1
  clear BX1
  generalize w10.drew = w11 at BX ⊢
  refine pure_ (i := 1) (N := some 2) (v := ?_) (a' := ?_) #[false, true, false] rfl rfl kr (fun _ _ _ h => h) (Or.inl ⟨by rfl, ?_⟩) ?_ ?_
  rotate_left
  ·intro w'
   go_simp
   with_reducible rfl
  rotate_left
  ·simp only [Act.put, List.setIfInBounds_toArray, List.set_cons_zero, List.set_cons_succ, i64_w, i32_w]
   rfl
  refine take_ (i := 0) (N := some 10) (v := ?_) (a' := ?_) #[true, true, false] rfl rfl kr (fun _ _ _ h => h) (Or.inl ⟨by rfl, ?_⟩) bxs ?_ ?_
  rotate_left
  ·intro w' hS
   go_simp
   with_reducible rfl
  rotate_left
  ·simp only [Act.put, List.setIfInBounds_toArray, List.set_cons_zero, List.set_cons_succ, i64_w, i32_w]
   rfl
  refine one_ (i := 2) (N := none) #[true, true, true] rfl rfl kr (by decide) (fun K hK => ?_)
  refine skip_ (w1 := ?_) (by rfl) rfl ?_ ?_
  rotate_left
  ·go_simp
   rfl
  refine hK.out _ _ bxs (fun hHeld => ?_)
  clear hK K hHeld
  refine done_ kr ?_
  try go_wp2
  refine bodyPost_ret (results_tc rfl _ _ gb1092 25 #[.int .i64 t1093, .int .i64 t1094, .int .i64 t1095, .string t1096, .bool t1097, .int .i64 t1098] (0, 0) _ rfl bx_get Tryd.underlying25 rfl kr) rfl ?_
  exact ⟨er2, bx_bl⟩
 ·rw [if_neg c3] at H
  have c3b0 : (t1093 == 4) = false := beq_eq_false_iff_ne.mpr c3
  have c3b1 : (t1093 != 4) = true := bne_iff_ne.mpr c3
  by_cases c18 : t1093 = 1
  ·rw [if_pos c18] at H
   have c18b0 : (t1093 == 1) = true := beq_iff_eq.mpr c18
   have c18b1 : (t1093 != 1) = false := bne_eq_false_iff_eq.mpr c18
   clear c18
   replace H := Option.bind_eq_some_iff.mp H
   obtain ⟨⟨t1099, t1100, t1101, t1102, t1103, t1104⟩, A190, H⟩ := H
   replace H : (some ((t1094 != 0), t1099, t1100, t1101, t1102, t1103, t1104)) = some (r1, r2, r3, r4, r5, r6, r7) := H
   have A19 := Aside0.mk A190
   clear A190
   simp only [Option.some.injEq, Prod.mk.injEq] at H
   obtain ⟨rfl, rfl, rfl, rfl, rfl, rfl, rfl⟩ := H
   go_enter Tryd.func41, Tryd.ntmps41
   try go_wp2_with (first | ((with_reducible refine gate_dst (N := 1) rfl ?_); refine bxe 1 #[.int .i64 a0_0, .int .i64 a0_1, .int .i64 a0_2, .string a0_3, .bool a0_4, .int .i64 a0_5] 25 rfl rfl gr ?_; clear BX; intro gb1091 w20 GE1091 BX) | ((with_reducible refine gate_dst (N := 3) rfl ?_); refine bxe 3 #[.int .i64 0, .int .i64 0, .int .i64 0, .string (⟨#[]⟩ : ByteArray), .bool false, .int .i64 0] 25 rfl rfl gr ?_; clear BX; intro gb1092 w21 GE1092 BX) | ((with_reducible refine gate_callee (f := 59) rfl ?_); refine goesL_ (some 5) rfl rfl Tryd.func59 kr rfl #[.agg #[.int .i64 a0_0, .int .i64 a0_1, .int .i64 a0_2, .string a0_3, .bool a0_4, .int .i64 a0_5]] rfl ga ?_; (with_reducible refine (value_taken.calls k a0_0 a0_1 a0_2 a0_3 a0_4 a0_5 t1093 t1094 t1095 t1096 t1097 t1098 _ A2.out).mono ?_); rintro e w24 ⟨rfl, hb⟩; refine ⟨_, rfl, ?_⟩; replace BX := bx_call hb; clear hb))
   replace BX : Bx w ((((((w24.setCell ⟨gb1091, 0, none⟩ (.int .i64 t1093)).setCell ⟨gb1091, 1, none⟩ (.int .i64 t1094)).setCell ⟨gb1091, 2, none⟩ (.int .i64 t1095)).setCell ⟨gb1091, 3, none⟩ (.string t1096)).setCell ⟨gb1091, 4, none⟩ (.bool t1097)).setCell ⟨gb1091, 5, none⟩ (.int .i64 t1098)) _ := bxi
   generalize ((((((w24.setCell ⟨gb1091, 0, none⟩ (.int .i64 t1093)).setCell ⟨gb1091, 1, none⟩ (.int .i64 t1094)).setCell ⟨gb1091, 2, none⟩ (.int .i64 t1095)).setCell ⟨gb1091, 3, none⟩ (.string t1096)).setCell ⟨gb1091, 4, none⟩ (.bool t1097)).setCell ⟨gb1091, 5, none⟩ (.int .i64 t1098)) = w26 at BX ⊢
   refine startm [false, true] (n := 7) (ds := []) #[false, false, false, false, false, false, false] kr rfl rfl (fun BX1 => ?_)
   clear BX
   have BX := BX1
   clear BX1
   generalize w26.drew = w27 at BX ⊢
   refine pure_ (i := 0) (N := some 13) (v := ?_) (a' := ?_) #[true, false, false, false, false, false, false] rfl rfl kr (fun _ _ _ h => h) (Or.inl ⟨by rfl, ?_⟩) ?_ ?_
   rotate_left
   ·intro w'
    go_simp
    with_reducible rfl
   rotate_left
   ·simp only [Act.put, List.setIfInBounds_toArray, List.set_cons_zero, List.set_cons_succ, i64_w, i32_w]
    rfl
   refine pure_ (i := 1) (N := some 14) (v := ?_) (a' := ?_) #[true, true, false, false, false, false, false] rfl rfl kr (fun _ _ _ h => h) (Or.inl ⟨by rfl, ?_⟩) ?_ ?_
   rotate_left
   ·intro w'
    go_simp
    with_reducible rfl
   rotate_left
   ·simp only [Act.put, List.setIfInBounds_toArray, List.set_cons_zero, List.set_cons_succ, i64_w, i32_w]
    rfl
   refine take_ (i := 2) (N := some 15) (v := ?_) (a' := ?_) #[true, true, true, false, false, false, false] rfl rfl kr (fun _ _ _ h => h) (Or.inl ⟨by rfl, ?_⟩) bxs ?_ ?_
   rotate_left
   ·intro w' hS
    go_simp
    with_reducible rfl
   rotate_left
   ·simp only [Act.put, List.setIfInBounds_toArray, List.set_cons_zero, List.set_cons_succ, i64_w, i32_w]
    rfl
   refine pure_ (i := 3) (N := some 16) (v := ?_) (a' := ?_) #[true, true, true, true, false, false, false] rfl rfl kr (fun _ _ _ h => h) (Or.inl ⟨by rfl, ?_⟩) ?_ ?_
   rotate_left
   ·intro w'
    go_simp
    with_reducible rfl
   rotate_left
   ·simp only [Act.put, List.setIfInBounds_toArray, List.set_cons_zero, List.set_cons_succ, i64_w, i32_w]
    rfl
   refine one_ (i := 4) (N := some 17) #[true, true, true, true, true, false, false] rfl rfl kr (by decide) (fun K hK => ?_)
   refine goes_ Tryd.func18 kr rfl #[] (by rfl) rfl rfl ga ?_
   with_reducible refine (value_Blank.calls  t1099 t1100 t1101 t1102 t1103 t1104 _ A19.out).mono ?_
   rintro e w28 ⟨rfl, hb⟩
   refine ⟨_, rfl, ?_⟩
   replace BX := bx_call hb
   clear hb
   refine hK.out _ _ bxs (fun hHeld => ?_)
   clear hK K hHeld
   refine norm_ (a' := ?_) ?_ ?_
   rotate_left
   ·show Act.put _ (some 17) _ = _
    simp only [Act.put, List.setIfInBounds_toArray, List.set_cons_zero, List.set_cons_succ, i64_w, i32_w]
    rfl
   refine pure_ (i := 5) (N := some 2) (v := ?_) (a' := ?_) #[true, true, true, true, true, true, false] rfl rfl kr (fun _ _ _ h => h) (Or.inl ⟨by rfl, ?_⟩) ?_ ?_
   rotate_left
   ·intro w'
    go_simp
    with_reducible rfl
   rotate_left
   ·simp only [Act.put, List.setIfInBounds_toArray, List.set_cons_zero, List.set_cons_succ, i64_w, i32_w]
    rfl
   refine one_ (i := 6) (N := none) #[true, true, true, true, true, true, true] rfl rfl kr (by decide) (fun K hK => ?_)
   refine skip_ (w1 := ?_) (by rfl) rfl ?_ ?_
   rotate_left
   ·go_simp
    rfl
   refine hK.out _ _ bxs (fun hHeld => ?_)
   clear hK K hHeld
   refine done_ kr ?_
   try go_wp2
   refine bodyPost_ret (results_tc rfl _ _ gb1092 25 #[.int .i64 t1099, .int .i64 t1100, .int .i64 t1101, .string t1102, .bool t1103, .int .i64 t1104] (0, 0) _ rfl bx_get Tryd.underlying25 rfl kr) rfl ?_
   exact ⟨er2, bx_bl⟩
  ·rw [if_neg c18] at H
   have c18b0 : (t1093 == 1) = false := beq_eq_false_iff_ne.mpr c18
   have c18b1 : (t1093 != 1) = true := bne_iff_ne.mpr c18
   by_cases c35 : t1093 = 2
   ·rw [if_pos c35] at H
    have c35b0 : (t1093 == 2) = true := beq_iff_eq.mpr c35
    have c35b1 : (t1093 != 2) = false := bne_eq_false_iff_eq.mpr c35
    clear c35
    have HC36 := Aside0.mk H
    clear H
    go_enter Tryd.func41, Tryd.ntmps41
    go_upto_region 8 with (first | ((with_reducible refine gate_dst (N := 1) rfl ?_); refine bxe 1 #[.int .i64 a0_0, .int .i64 a0_1, .int .i64 a0_2, .string a0_3, .bool a0_4, .int .i64 a0_5] 25 rfl rfl gr ?_; clear BX; intro gb1091 w37 GE1091 BX) | ((with_reducible refine gate_dst (N := 3) rfl ?_); refine bxe 3 #[.int .i64 0, .int .i64 0, .int .i64 0, .string (⟨#[]⟩ : ByteArray), .bool false, .int .i64 0] 25 rfl rfl gr ?_; clear BX; intro gb1092 w38 GE1092 BX) | ((with_reducible refine gate_callee (f := 59) rfl ?_); refine goesL_ (some 5) rfl rfl Tryd.func59 kr rfl #[.agg #[.int .i64 a0_0, .int .i64 a0_1, .int .i64 a0_2, .string a0_3, .bool a0_4, .int .i64 a0_5]] rfl ga ?_; (with_reducible refine (value_taken.calls k a0_0 a0_1 a0_2 a0_3 a0_4 a0_5 t1093 t1094 t1095 t1096 t1097 t1098 _ A2.out).mono ?_); rintro e w41 ⟨rfl, hb⟩; refine ⟨_, rfl, ?_⟩; replace BX := bx_call hb; clear hb))
    (try simp only [Act.put, List.setIfInBounds_toArray, List.set_cons_zero, List.set_cons_succ])
    go_cut [29] (fun v29 wc => ∃ (kq : Nat) (x29_35 : Bool), v29 = .bool x29_35 ∧ Aside0 (value_AsTruth.j0 kq x29_35 t1093 t1094 t1095 t1096 t1097 t1098 = some (r1, r2, r3, r4, r5, r6, r7)) ∧ Aside0 (kq ≤ k) ∧ Bx w wc [(gb1092, 25, #[.int .i64 0, .int .i64 0, .int .i64 0, .string (⟨#[]⟩ : ByteArray), .bool false, .int .i64 0]), (gb1091, 25, #[.int .i64 t1093, .int .i64 t1094, .int .i64 t1095, .string t1096, .bool t1097, .int .i64 t1098])])
    case first =>
     have H := HC36.out
     clear HC36
     replace H := Option.bind_eq_some_iff.mp H
     obtain ⟨t1105, A430, H⟩ := H
     replace H : (if t1096.toList = t1105.toList then (value_AsTruth.j0 k false t1093 t1094 t1095 t1096 t1097 t1098) else ((value_word.f false).bind fun t1106 => (value_AsTruth.j0 k (t1096.toList != t1106.toList) t1093 t1094 t1095 t1096 t1097 t1098))) = some (r1, r2, r3, r4, r5, r6, r7) := H
     have A43 := Aside0.mk A430
     clear A430
     by_cases c44 : t1096.toList = t1105.toList
     ·rw [if_pos c44] at H
      have c44b0 : (t1096.toList == t1105.toList) = true := beq_iff_eq.mpr c44
      have c44b1 : (t1096.toList != t1105.toList) = false := bne_eq_false_iff_eq.mpr c44
      clear c44
      (first | rw [c44b0] | (simp only [i64_w, i32_w]; rw [c44b0]) | skip)
      have H' := Aside0.mk H
      clear H
      try go_wp2
      replace BX : Bx w ((((((w41.setCell ⟨gb1091, 0, none⟩ (.int .i64 t1093)).setCell ⟨gb1091, 1, none⟩ (.int .i64 t1094)).setCell ⟨gb1091, 2, none⟩ (.int .i64 t1095)).setCell ⟨gb1091, 3, none⟩ (.string t1096)).setCell ⟨gb1091, 4, none⟩ (.bool t1097)).setCell ⟨gb1091, 5, none⟩ (.int .i64 t1098)) _ := bxi
      generalize ((((((w41.setCell ⟨gb1091, 0, none⟩ (.int .i64 t1093)).setCell ⟨gb1091, 1, none⟩ (.int .i64 t1094)).setCell ⟨gb1091, 2, none⟩ (.int .i64 t1095)).setCell ⟨gb1091, 3, none⟩ (.string t1096)).setCell ⟨gb1091, 4, none⟩ (.bool t1097)).setCell ⟨gb1091, 5, none⟩ (.int .i64 t1098)) = w45 at BX ⊢
      refine startm [false, true] (n := 10) (ds := []) #[false, false, false, false, false, false, false, false, false, false] kr rfl rfl (fun BX1 => ?_); refine with_tabW value_AsTruth.tab8 value_AsTruth.bits8 (fun HT_ HW_ => ?_)
      clear BX
      have BX := BX1
      clear BX1
      generalize w45.drew = w46 at BX ⊢
      refine pure_ (i := 0) (N := some 20) (v := ?_) (a' := ?_) #[true, false, false, false, false, false, false, false, false, false] rfl rfl (any_of HT_.out kr) (fun _ _ _ h => h) (Or.inl ⟨by rfl, ?_⟩) ?_ ?_
      rotate_left
      ·intro w'
       go_simp
       with_reducible rfl
      rotate_left
      ·simp only [Act.put, List.setIfInBounds_toArray, List.set_cons_zero, List.set_cons_succ, i64_w, i32_w]
       rfl
      refine take_ (i := 1) (N := some 21) (v := ?_) (a' := ?_) #[true, true, false, false, false, false, false, false, false, false] rfl rfl (take_ofW HT_.out HW_.out kr) (fun _ _ _ h => h) (Or.inl ⟨by rfl, ?_⟩) bxs ?_ ?_
      rotate_left
      ·intro w' hS
       go_simp
       with_reducible rfl
      rotate_left
      ·simp only [Act.put, List.setIfInBounds_toArray, List.set_cons_zero, List.set_cons_succ, i64_w, i32_w]
       rfl
      refine one_ (i := 2) (N := some 22) #[true, true, true, false, false, false, false, false, false, false] rfl rfl (one_of HT_.out kr) (by decide) (fun K hK => ?_)
      refine goes_ Tryd.func56 kr rfl #[.bool true] (by rfl) rfl rfl ga ?_
      with_reducible refine (value_word.calls true t1105 _ A43.out).mono ?_
      rintro e w' ⟨rfl, ⟨nd, rfl⟩⟩
      refine ⟨_, rfl, ?_⟩
      refine hK.out _ _ bxs (fun hHeld => ?_)
      clear hK K hHeld
      refine norm_ (a' := ?_) ?_ ?_
      rotate_left
      ·show Act.put _ (some 22) _ = _
       simp only [Act.put, List.setIfInBounds_toArray, List.set_cons_zero, List.set_cons_succ, i64_w, i32_w]
       rfl
      refine pure_ (i := 3) (N := some 23) (v := ?_) (a' := ?_) #[true, true, true, true, false, false, false, false, false, false] rfl rfl (any_of HT_.out kr) (fun _ _ _ h => h) (Or.inl ⟨by rfl, ?_⟩) ?_ ?_
      rotate_left
      ·intro w'
       go_simp
       with_reducible rfl
      rotate_left
      ·simp only [Act.put, List.setIfInBounds_toArray, List.set_cons_zero, List.set_cons_succ, i64_w, i32_w]
       rfl
      refine pure_ (i := 4) (N := some 24) (v := ?_) (a' := ?_) #[true, true, true, true, true, false, false, false, false, false] rfl rfl (any_of HT_.out kr) (fun _ _ _ h => h) (Or.inl ⟨by rfl, ?_⟩) ?_ ?_
      rotate_left
      ·intro w'
       go_simp
       with_reducible rfl
      rotate_left
      ·simp only [Act.put, List.setIfInBounds_toArray, List.set_cons_zero, List.set_cons_succ, i64_w, i32_w]
       rfl
      refine pure_ (i := 5) (N := some 25) (v := undef) (a' := ?_) #[true, true, true, true, true, true, false, false, false, false] rfl rfl (any_of HT_.out kr) (fun _ _ _ h => h) (Or.inr ⟨by rfl, rfl⟩) ?_ ?_
      rotate_left
      ·simp only [Act.put, List.setIfInBounds_toArray, List.set_cons_zero, List.set_cons_succ, i64_w, i32_w]
       rfl
      refine pure_ (i := 6) (N := some 26) (v := undef) (a' := ?_) #[true, true, true, true, true, true, true, false, false, false] rfl rfl (any_of HT_.out kr) (fun _ _ _ h => h) (Or.inr ⟨by rfl, rfl⟩) ?_ ?_
      rotate_left
      ·simp only [Act.put, List.setIfInBounds_toArray, List.set_cons_zero, List.set_cons_succ, i64_w, i32_w]
       rfl
      refine pure_ (i := 7) (N := some 27) (v := undef) (a' := ?_) #[true, true, true, true, true, true, true, true, false, false] rfl rfl (any_of HT_.out kr) (fun _ _ _ h => h) (Or.inr ⟨by rfl, rfl⟩) ?_ ?_
      rotate_left
      ·simp only [Act.put, List.setIfInBounds_toArray, List.set_cons_zero, List.set_cons_succ, i64_w, i32_w]
       rfl
      refine pure_ (i := 8) (N := some 28) (v := undef) (a' := ?_) #[true, true, true, true, true, true, true, true, true, false] rfl rfl (any_of HT_.out kr) (fun _ _ _ h => h) (Or.inr ⟨by rfl, rfl⟩) ?_ ?_
      rotate_left
      ·simp only [Act.put, List.setIfInBounds_toArray, List.set_cons_zero, List.set_cons_succ, i64_w, i32_w]
       rfl
      refine pure_ (i := 9) (N := some 29) (v := ?_) (a' := ?_) #[true, true, true, true, true, true, true, true, true, true] rfl rfl (any_of HT_.out kr) (fun _ _ _ h => h) (Or.inl ⟨by rfl, ?_⟩) ?_ ?_
      rotate_left
      ·intro w'
       go_simp
       with_reducible rfl
      rotate_left
      ·simp only [Act.put, List.setIfInBounds_toArray, List.set_cons_zero, List.set_cons_succ, i64_w, i32_w]
       rfl
      refine done_ (done_of HT_.out kr) ?_
      try go_wp2
      go_meet
      case rel => exact ⟨_, (false), er, H', ⟨by first | omega | exact Nat.le_refl _⟩, bxs⟩
     ·rw [if_neg c44] at H
      have c44b0 : (t1096.toList == t1105.toList) = false := beq_eq_false_iff_ne.mpr c44
      have c44b1 : (t1096.toList != t1105.toList) = true := bne_iff_ne.mpr c44
      (first | rw [c44b0] | (simp only [i64_w, i32_w]; rw [c44b0]) | skip)
      replace H := Option.bind_eq_some_iff.mp H
      obtain ⟨t1106, A470, H⟩ := H
      replace H : (value_AsTruth.j0 k (t1096.toList != t1106.toList) t1093 t1094 t1095 t1096 t1097 t1098) = some (r1, r2, r3, r4, r5, r6, r7) := H
      have A47 := Aside0.mk A470
      clear A470
      have H' := Aside0.mk H
      clear H
      try go_wp2
      replace BX : Bx w ((((((w41.setCell ⟨gb1091, 0, none⟩ (.int .i64 t1093)).setCell ⟨gb1091, 1, none⟩ (.int .i64 t1094)).setCell ⟨gb1091, 2, none⟩ (.int .i64 t1095)).setCell ⟨gb1091, 3, none⟩ (.string t1096)).setCell ⟨gb1091, 4, none⟩ (.bool t1097)).setCell ⟨gb1091, 5, none⟩ (.int .i64 t1098)) _ := bxi
      generalize ((((((w41.setCell ⟨gb1091, 0, none⟩ (.int .i64 t1093)).setCell ⟨gb1091, 1, none⟩ (.int .i64 t1094)).setCell ⟨gb1091, 2, none⟩ (.int .i64 t1095)).setCell ⟨gb1091, 3, none⟩ (.string t1096)).setCell ⟨gb1091, 4, none⟩ (.bool t1097)).setCell ⟨gb1091, 5, none⟩ (.int .i64 t1098)) = w48 at BX ⊢
      refine startm [false, true] (n := 10) (ds := []) #[false, false, false, false, false, false, false, false, false, false] kr rfl rfl (fun BX1 => ?_); refine with_tabW value_AsTruth.tab8 value_AsTruth.bits8 (fun HT_ HW_ => ?_)
      clear BX
      have BX := BX1
      clear BX1
      generalize w48.drew = w49 at BX ⊢
      refine pure_ (i := 0) (N := some 20) (v := ?_) (a' := ?_) #[true, false, false, false, false, false, false, false, false, false] rfl rfl (any_of HT_.out kr) (fun _ _ _ h => h) (Or.inl ⟨by rfl, ?_⟩) ?_ ?_
      rotate_left
      ·intro w'
       go_simp
       with_reducible rfl
      rotate_left
      ·simp only [Act.put, List.setIfInBounds_toArray, List.set_cons_zero, List.set_cons_succ, i64_w, i32_w]
       rfl
      refine take_ (i := 1) (N := some 21) (v := ?_) (a' := ?_) #[true, true, false, false, false, false, false, false, false, false] rfl rfl (take_ofW HT_.out HW_.out kr) (fun _ _ _ h => h) (Or.inl ⟨by rfl, ?_⟩) bxs ?_ ?_
      rotate_left
      ·intro w' hS
       go_simp
       with_reducible rfl
      rotate_left
      ·simp only [Act.put, List.setIfInBounds_toArray, List.set_cons_zero, List.set_cons_succ, i64_w, i32_w]
       rfl
      refine one_ (i := 2) (N := some 22) #[true, true, true, false, false, false, false, false, false, false] rfl rfl (one_of HT_.out kr) (by decide) (fun K hK => ?_)
      refine goes_ Tryd.func56 kr rfl #[.bool true] (by rfl) rfl rfl ga ?_
      with_reducible refine (value_word.calls true t1105 _ A43.out).mono ?_
      rintro e w' ⟨rfl, ⟨nd, rfl⟩⟩
      refine ⟨_, rfl, ?_⟩
      refine hK.out _ _ bxs (fun hHeld => ?_)
      clear hK K hHeld
      refine norm_ (a' := ?_) ?_ ?_
      rotate_left
      ·show Act.put _ (some 22) _ = _
       simp only [Act.put, List.setIfInBounds_toArray, List.set_cons_zero, List.set_cons_succ, i64_w, i32_w]
       rfl
      refine pure_ (i := 3) (N := some 23) (v := ?_) (a' := ?_) #[true, true, true, true, false, false, false, false, false, false] rfl rfl (any_of HT_.out kr) (fun _ _ _ h => h) (Or.inl ⟨by rfl, ?_⟩) ?_ ?_
      rotate_left
      ·intro w'
       go_simp
       with_reducible rfl
      rotate_left
      ·simp only [Act.put, List.setIfInBounds_toArray, List.set_cons_zero, List.set_cons_succ, i64_w, i32_w]
       rfl
      refine pure_ (i := 4) (N := some 24) (v := ?_) (a' := ?_) #[true, true, true, true, true, false, false, false, false, false] rfl rfl (any_of HT_.out kr) (fun _ _ _ h => h) (Or.inl ⟨by rfl, ?_⟩) ?_ ?_
      rotate_left
      ·intro w'
       go_simp
       with_reducible rfl
      rotate_left
      ·simp only [Act.put, List.setIfInBounds_toArray, List.set_cons_zero, List.set_cons_succ, i64_w, i32_w]
       rfl
      refine pure_ (i := 5) (N := some 25) (v := ?_) (a' := ?_) #[true, true, true, true, true, true, false, false, false, false] rfl rfl (any_of HT_.out kr) (fun _ _ _ h => h) (Or.inl ⟨by rfl, ?_⟩) ?_ ?_
      rotate_left
      ·intro w'
       go_simp
       with_reducible rfl
      rotate_left
      ·simp only [Act.put, List.setIfInBounds_toArray, List.set_cons_zero, List.set_cons_succ, i64_w, i32_w]
       rfl
      refine take_ (i := 6) (N := some 26) (v := ?_) (a' := ?_) #[true, true, true, true, true, true, true, false, false, false] rfl rfl (take_ofW HT_.out HW_.out kr) (fun _ _ _ h => h) (Or.inl ⟨by rfl, ?_⟩) bxs ?_ ?_
      rotate_left
      ·intro w' hS
       go_simp
       with_reducible rfl
      rotate_left
      ·simp only [Act.put, List.setIfInBounds_toArray, List.set_cons_zero, List.set_cons_succ, i64_w, i32_w]
       rfl
      refine one_ (i := 7) (N := some 27) #[true, true, true, true, true, true, true, true, false, false] rfl rfl (one_of HT_.out kr) (by decide) (fun K hK => ?_)
      refine goes_ Tryd.func56 kr rfl #[.bool false] (by rfl) rfl rfl ga ?_
      with_reducible refine (value_word.calls false t1106 _ A47.out).mono ?_
      rintro e w' ⟨rfl, ⟨nd, rfl⟩⟩
      refine ⟨_, rfl, ?_⟩
      refine hK.out _ _ bxs (fun hHeld => ?_)
      clear hK K hHeld
      refine norm_ (a' := ?_) ?_ ?_
      rotate_left
      ·show Act.put _ (some 27) _ = _
       simp only [Act.put, List.setIfInBounds_toArray, List.set_cons_zero, List.set_cons_succ, i64_w, i32_w]
       rfl
      refine pure_ (i := 8) (N := some 28) (v := ?_) (a' := ?_) #[true, true, true, true, true, true, true, true, true, false] rfl rfl (any_of HT_.out kr) (fun _ _ _ h => h) (Or.inl ⟨by rfl, ?_⟩) ?_ ?_
      rotate_left
      ·intro w'
       go_simp
       with_reducible rfl
      rotate_left
      ·simp only [Act.put, List.setIfInBounds_toArray, List.set_cons_zero, List.set_cons_succ, i64_w, i32_w]
       rfl
      refine pure_ (i := 9) (N := some 29) (v := ?_) (a' := ?_) #[true, true, true, true, true, true, true, true, true, true] rfl rfl (any_of HT_.out kr) (fun _ _ _ h => h) (Or.inl ⟨by rfl, ?_⟩) ?_ ?_
      rotate_left
      ·intro w'
       go_simp
       with_reducible rfl
      rotate_left
      ·simp only [Act.put, List.setIfInBounds_toArray, List.set_cons_zero, List.set_cons_succ, i64_w, i32_w]
       rfl
      refine done_ (done_of HT_.out kr) ?_
      try go_wp2
      go_meet
      case rel => exact ⟨_, ((t1096.toList != t1106.toList)), er, H', ⟨by first | omega | exact Nat.le_refl _⟩, bxs⟩
    case rest =>
     clear HC36
     try clear c1
     try clear c2
     try clear p2
     try clear c3
     try clear c3b0
     try clear c3b1
     try clear c4
     try clear c5
     try clear c6
     try clear c18
     try clear c18b0
     try clear c18b1
     try clear c22
     try clear c35
     try clear c35b0
     try clear c35b1
     try clear c39
     try clear c41
     try clear c44
     try clear c44b0
     try clear c44b1
     obtain ⟨kq, x29_35, rfl, HA, HJ35, BX⟩ := hcut
     cases kq with
     | zero => exact absurd HA.out (by simp [value_AsTruth.j0])
     | succ kj35 =>
      have H := HA.out
      clear HA
      simp only [value_AsTruth.j0] at H
      by_cases c50 : x29_35 = true
      ·subst c50
       have H1 : ((value_Fault.f 2).bind fun bt1107 => (some (false, bt1107.1, bt1107.2.1, bt1107.2.2.1, bt1107.2.2.2.1, bt1107.2.2.2.2.1, bt1107.2.2.2.2.2))) = some (r1, r2, r3, r4, r5, r6, r7) := by rw [if_pos rfl] at H; exact H
       clear H
       have H := H1
       clear H1
       replace H := Option.bind_eq_some_iff.mp H
       obtain ⟨⟨t1107, t1108, t1109, t1110, t1111, t1112⟩, A510, H⟩ := H
       replace H : (some (false, t1107, t1108, t1109, t1110, t1111, t1112)) = some (r1, r2, r3, r4, r5, r6, r7) := H
       have A51 := Aside0.mk A510
       clear A510
       simp only [Option.some.injEq, Prod.mk.injEq] at H
       obtain ⟨rfl, rfl, rfl, rfl, rfl, rfl, rfl⟩ := H
       go_wp2_with (first | ((with_reducible refine gate_callee (f := 25) rfl ?_); refine goesL_ (some 30) rfl rfl Tryd.func25 kr rfl #[.int .i64 2] rfl ga ?_; (with_reducible refine (value_Fault.calls 2 t1107 t1108 t1109 t1110 t1111 t1112 _ A51.out).mono ?_); rintro e w52 ⟨rfl, hb⟩; refine ⟨_, rfl, ?_⟩; replace BX := bx_call hb; clear hb))
       refine bodyPost_ret (results_tc rfl _ _ gb1092 25 #[.int .i64 t1107, .int .i64 t1108, .int .i64 t1109, .string t1110, .bool t1111, .int .i64 t1112] (0, 0) _ rfl bx_get Tryd.underlying25 rfl kr) rfl ?_
       exact ⟨er2, bx_bl⟩
      ·replace c50 := Bool.eq_false_iff.mpr c50
       subst c50
       have H1 : ((value_word.f true).bind fun t1113 => ((value_Blank.f).bind fun bt1114 => (some ((t1096.toList == t1113.toList), bt1114.1, bt1114.2.1, bt1114.2.2.1, bt1114.2.2.2.1, bt1114.2.2.2.2.1, bt1114.2.2.2.2.2)))) = some (r1, r2, r3, r4, r5, r6, r7) := by rw [if_neg (show ¬ (false = true) by decide)] at H; exact H
       clear H
       have H := H1
       clear H1
       replace H := Option.bind_eq_some_iff.mp H
       obtain ⟨t1113, A550, H⟩ := H
       have A55 := Aside0.mk A550
       clear A550
       replace H := Option.bind_eq_some_iff.mp H
       obtain ⟨⟨t1114, t1115, t1116, t1117, t1118, t1119⟩, A560, H⟩ := H
       replace H : (some ((t1096.toList == t1113.toList), t1114, t1115, t1116, t1117, t1118, t1119)) = some (r1, r2, r3, r4, r5, r6, r7) := H
       have A56 := Aside0.mk A560
       clear A560
       simp only [Option.some.injEq, Prod.mk.injEq] at H
       obtain ⟨rfl, rfl, rfl, rfl, rfl, rfl, rfl⟩ := H
       try go_wp2
       refine startm [false, true] (n := 7) (ds := []) #[false, false, false, false, false, false, false] kr rfl rfl (fun BX1 => ?_)
       clear BX
       have BX := BX1
       clear BX1
       generalize wc.drew = w57 at BX ⊢
       refine pure_ (i := 0) (N := some 31) (v := ?_) (a' := ?_) #[true, false, false, false, false, false, false] rfl rfl kr (fun _ _ _ h => h) (Or.inl ⟨by rfl, ?_⟩) ?_ ?_
       rotate_left
       ·intro w'
        go_simp
        with_reducible rfl
       rotate_left
       ·simp only [Act.put, List.setIfInBounds_toArray, List.set_cons_zero, List.set_cons_succ, i64_w, i32_w]
        rfl
       refine take_ (i := 1) (N := some 32) (v := ?_) (a' := ?_) #[true, true, false, false, false, false, false] rfl rfl kr (fun _ _ _ h => h) (Or.inl ⟨by rfl, ?_⟩) bxs ?_ ?_
       rotate_left
       ·intro w' hS
        go_simp
        with_reducible rfl
       rotate_left
       ·simp only [Act.put, List.setIfInBounds_toArray, List.set_cons_zero, List.set_cons_succ, i64_w, i32_w]
        rfl
       refine one_ (i := 2) (N := some 33) #[true, true, true, false, false, false, false] rfl rfl kr (by decide) (fun K hK => ?_)
       refine goes_ Tryd.func56 kr rfl #[.bool true] (by rfl) rfl rfl ga ?_
       with_reducible refine (value_word.calls true t1113 _ A55.out).mono ?_
       rintro e w' ⟨rfl, ⟨nd, rfl⟩⟩
       refine ⟨_, rfl, ?_⟩
       refine hK.out _ _ bxs (fun hHeld => ?_)
       clear hK K hHeld
       refine norm_ (a' := ?_) ?_ ?_
       rotate_left
       ·show Act.put _ (some 33) _ = _
        simp only [Act.put, List.setIfInBounds_toArray, List.set_cons_zero, List.set_cons_succ, i64_w, i32_w]
        rfl
       refine pure_ (i := 3) (N := some 34) (v := ?_) (a' := ?_) #[true, true, true, true, false, false, false] rfl rfl kr (fun _ _ _ h => h) (Or.inl ⟨by rfl, ?_⟩) ?_ ?_
       rotate_left
       ·intro w'
        go_simp
        with_reducible rfl
       rotate_left
       ·simp only [Act.put, List.setIfInBounds_toArray, List.set_cons_zero, List.set_cons_succ, i64_w, i32_w]
        rfl
       refine one_ (i := 4) (N := some 35) #[true, true, true, true, true, false, false] rfl rfl kr (by decide) (fun K hK => ?_)
       refine goes_ Tryd.func18 kr rfl #[] (by rfl) rfl rfl ga ?_
       with_reducible refine (value_Blank.calls  t1114 t1115 t1116 t1117 t1118 t1119 _ A56.out).mono ?_
       rintro e w58 ⟨rfl, hb⟩
       refine ⟨_, rfl, ?_⟩
       replace BX := bx_call hb
       clear hb
       refine hK.out _ _ bxs (fun hHeld => ?_)
       clear hK K hHeld
       refine norm_ (a' := ?_) ?_ ?_
       rotate_left
       ·show Act.put _ (some 35) _ = _
        simp only [Act.put, List.setIfInBounds_toArray, List.set_cons_zero, List.set_cons_succ, i64_w, i32_w]
        rfl
       refine pure_ (i := 5) (N := some 2) (v := ?_) (a' := ?_) #[true, true, true, true, true, true, false] rfl rfl kr (fun _ _ _ h => h) (Or.inl ⟨by rfl, ?_⟩) ?_ ?_
       rotate_left
       ·intro w'
        go_simp
        with_reducible rfl
       rotate_left
       ·simp only [Act.put, List.setIfInBounds_toArray, List.set_cons_zero, List.set_cons_succ, i64_w, i32_w]
        rfl
       refine one_ (i := 6) (N := none) #[true, true, true, true, true, true, true] rfl rfl kr (by decide) (fun K hK => ?_)
       refine skip_ (w1 := ?_) (by rfl) rfl ?_ ?_
       rotate_left
       ·go_simp
        rfl
       refine hK.out _ _ bxs (fun hHeld => ?_)
       clear hK K hHeld
       refine done_ kr ?_
       try go_wp2
       refine bodyPost_ret (results_tc rfl _ _ gb1092 25 #[.int .i64 t1114, .int .i64 t1115, .int .i64 t1116, .string t1117, .bool t1118, .int .i64 t1119] (0, 0) _ rfl bx_get Tryd.underlying25 rfl kr) rfl ?_
       exact ⟨er2, bx_bl⟩
   ·rw [if_neg c35] at H
    have c35b0 : (t1093 == 2) = false := beq_eq_false_iff_ne.mpr c35
    have c35b1 : (t1093 != 2) = true := bne_iff_ne.mpr c35
    replace H := Option.bind_eq_some_iff.mp H
    obtain ⟨⟨t1120, t1121, t1122, t1123, t1124, t1125⟩, A650, H⟩ := H
    replace H : (some (t1097, t1120, t1121, t1122, t1123, t1124, t1125)) = some (r1, r2, r3, r4, r5, r6, r7) := H
    have A65 := Aside0.mk A650
    clear A650
    simp only [Option.some.injEq, Prod.mk.injEq] at H
    obtain ⟨rfl, rfl, rfl, rfl, rfl, rfl, rfl⟩ := H
    go_enter Tryd.func41, Tryd.ntmps41
    try go_wp2_with (first | ((with_reducible refine gate_dst (N := 1) rfl ?_); refine bxe 1 #[.int .i64 a0_0, .int .i64 a0_1, .int .i64 a0_2, .string a0_3, .bool a0_4, .int .i64 a0_5] 25 rfl rfl gr ?_; clear BX; intro gb1091 w66 GE1091 BX) | ((with_reducible refine gate_dst (N := 3) rfl ?_); refine bxe 3 #[.int .i64 0, .int .i64 0, .int .i64 0, .string (⟨#[]⟩ : ByteArray), .bool false, .int .i64 0] 25 rfl rfl gr ?_; clear BX; intro gb1092 w67 GE1092 BX) | ((with_reducible refine gate_callee (f := 59) rfl ?_); refine goesL_ (some 5) rfl rfl Tryd.func59 kr rfl #[.agg #[.int .i64 a0_0, .int .i64 a0_1, .int .i64 a0_2, .string a0_3, .bool a0_4, .int .i64 a0_5]] rfl ga ?_; (with_reducible refine (value_taken.calls k a0_0 a0_1 a0_2 a0_3 a0_4 a0_5 t1093 t1094 t1095 t1096 t1097 t1098 _ A2.out).mono ?_); rintro e w70 ⟨rfl, hb⟩; refine ⟨_, rfl, ?_⟩; replace BX := bx_call hb; clear hb))
    replace BX : Bx w ((((((w70.setCell ⟨gb1091, 0, none⟩ (.int .i64 t1093)).setCell ⟨gb1091, 1, none⟩ (.int .i64 t1094)).setCell ⟨gb1091, 2, none⟩ (.int .i64 t1095)).setCell ⟨gb1091, 3, none⟩ (.string t1096)).setCell ⟨gb1091, 4, none⟩ (.bool t1097)).setCell ⟨gb1091, 5, none⟩ (.int .i64 t1098)) _ := bxi
    generalize ((((((w70.setCell ⟨gb1091, 0, none⟩ (.int .i64 t1093)).setCell ⟨gb1091, 1, none⟩ (.int .i64 t1094)).setCell ⟨gb1091, 2, none⟩ (.int .i64 t1095)).setCell ⟨gb1091, 3, none⟩ (.string t1096)).setCell ⟨gb1091, 4, none⟩ (.bool t1097)).setCell ⟨gb1091, 5, none⟩ (.int .i64 t1098)) = w72 at BX ⊢
    refine startm [false, true] (n := 5) (ds := []) #[false, false, false, false, false] kr rfl rfl (fun BX1 => ?_)
    clear BX
    have BX := BX1
    clear BX1
    generalize w72.drew = w73 at BX ⊢
    refine pure_ (i := 0) (N := some 36) (v := ?_) (a' := ?_) #[true, false, false, false, false] rfl rfl kr (fun _ _ _ h => h) (Or.inl ⟨by rfl, ?_⟩) ?_ ?_
    rotate_left
    ·intro w'
     go_simp
     with_reducible rfl
    rotate_left
    ·simp only [Act.put, List.setIfInBounds_toArray, List.set_cons_zero, List.set_cons_succ, i64_w, i32_w]
     rfl
    refine take_ (i := 1) (N := some 37) (v := ?_) (a' := ?_) #[true, true, false, false, false] rfl rfl kr (fun _ _ _ h => h) (Or.inl ⟨by rfl, ?_⟩) bxs ?_ ?_
    rotate_left
    ·intro w' hS
     go_simp
     with_reducible rfl
    rotate_left
    ·simp only [Act.put, List.setIfInBounds_toArray, List.set_cons_zero, List.set_cons_succ, i64_w, i32_w]
     rfl
    refine one_ (i := 2) (N := some 38) #[true, true, true, false, false] rfl rfl kr (by decide) (fun K hK => ?_)
    refine goes_ Tryd.func18 kr rfl #[] (by rfl) rfl rfl ga ?_
    with_reducible refine (value_Blank.calls  t1120 t1121 t1122 t1123 t1124 t1125 _ A65.out).mono ?_
    rintro e w74 ⟨rfl, hb⟩
    refine ⟨_, rfl, ?_⟩
    replace BX := bx_call hb
    clear hb
    refine hK.out _ _ bxs (fun hHeld => ?_)
    clear hK K hHeld
    refine norm_ (a' := ?_) ?_ ?_
    rotate_left
    ·show Act.put _ (some 38) _ = _
     simp only [Act.put, List.setIfInBounds_toArray, List.set_cons_zero, List.set_cons_succ, i64_w, i32_w]
     rfl
    refine pure_ (i := 3) (N := some 2) (v := ?_) (a' := ?_) #[true, true, true, true, false] rfl rfl kr (fun _ _ _ h => h) (Or.inl ⟨by rfl, ?_⟩) ?_ ?_
    rotate_left
    ·intro w'
     go_simp
     with_reducible rfl
    rotate_left
    ·simp only [Act.put, List.setIfInBounds_toArray, List.set_cons_zero, List.set_cons_succ, i64_w, i32_w]
     rfl
    refine one_ (i := 4) (N := none) #[true, true, true, true, true] rfl rfl kr (by decide) (fun K hK => ?_)
    refine skip_ (w1 := ?_) (by rfl) rfl ?_ ?_
    rotate_left
    ·go_simp
     rfl
    refine hK.out _ _ bxs (fun hHeld => ?_)
    clear hK K hHeld
    refine done_ kr ?_
    try go_wp2
    refine bodyPost_ret (results_tc rfl _ _ gb1092 25 #[.int .i64 t1120, .int .i64 t1121, .int .i64 t1122, .string t1123, .bool t1124, .int .i64 t1125] (0, 0) _ rfl bx_get Tryd.underlying25 rfl kr) rfl ?_
    exact ⟨er2, bx_bl⟩
end
section
/-! ### value_Un: function 43 -/
def value_Un.j0 : Nat → Int → Bool → Int → Int → Int → ByteArray → Bool → Int → Option (Int × Int × Int × ByteArray × Bool × Int)
 | 0, _, _, _, _, _, _, _, _ => none
 | k + 1, x0, x9, x1195000, x1195001, x1195002, x1195003, x1195004, x1195005 => if x9 = true then ((value_Fault.f 2).bind fun bt1202 => (some (bt1202.1, bt1202.2.1, bt1202.2.2.1, bt1202.2.2.2.1, bt1202.2.2.2.2.1, bt1202.2.2.2.2.2))) else (if x1195000 = 4 then (some (x1195000, x1195001, x1195002, x1195003, x1195004, x1195005)) else (if x0 = 2 then (some (x1195000, x1195001, x1195002, x1195003, x1195004, x1195005)) else ((value_AsNumber.f k x1195000 x1195001 x1195002 x1195003 x1195004 x1195005).bind fun bt1208 => (if bt1208.2.2.1 = 4 then (some (bt1208.2.2.1, bt1208.2.2.2.1, bt1208.2.2.2.2.1, bt1208.2.2.2.2.2.1, bt1208.2.2.2.2.2.2.1, bt1208.2.2.2.2.2.2.2)) else (if x0 = 1 then ((num_Neg.f k bt1208.1 bt1208.2.1).bind fun bt1218 => ((value_Number.f k bt1218.1 bt1218.2).bind fun bt1220 => (some (bt1220.1, bt1220.2.1, bt1220.2.2.1, bt1220.2.2.2.1, bt1220.2.2.2.2.1, bt1220.2.2.2.2.2)))) else ((value_number.f 100).bind fun bt1226 => ((num_Div.f k bt1208.1 bt1208.2.1 bt1226.1 bt1226.2).bind fun bt1228 => ((value_told.f k bt1228.1 bt1228.2.1 bt1228.2.2).bind fun bt1231 => (some (bt1231.1, bt1231.2.1, bt1231.2.2.1, bt1231.2.2.2.1, bt1231.2.2.2.2.1, bt1231.2.2.2.2.2))))))))))
def value_Un.f (k : Nat) (a0 : Int) (a1_0 : Int) (a1_1 : Int) (a1_2 : Int) (a1_3 : ByteArray) (a1_4 : Bool) (a1_5 : Int) : Option (Int × Int × Int × ByteArray × Bool × Int) := (value_taken.f k a1_0 a1_1 a1_2 a1_3 a1_4 a1_5).bind fun bt1196 => (if a0 = 1 then (value_Un.j0 k a0 false bt1196.1 bt1196.2.1 bt1196.2.2.1 bt1196.2.2.2.1 bt1196.2.2.2.2.1 bt1196.2.2.2.2.2) else (if a0 = 2 then (value_Un.j0 k a0 false bt1196.1 bt1196.2.1 bt1196.2.2.1 bt1196.2.2.2.1 bt1196.2.2.2.2.1 bt1196.2.2.2.2.2) else (value_Un.j0 k a0 (a0 != 3) bt1196.1 bt1196.2.1 bt1196.2.2.1 bt1196.2.2.2.1 bt1196.2.2.2.2.1 bt1196.2.2.2.2.2)))
theorem value_Un.mono_l : ∀ k, (∀ y0 y1 y2 y3 y4 y5 y6 y7, LeO (value_Un.j0 k y0 y1 y2 y3 y4 y5 y6 y7) (value_Un.j0 (k + 1) y0 y1 y2 y3 y4 y5 y6 y7))
 | 0 => fun _ _ _ _ _ _ _ _ r h => by simp [value_Un.j0] at h
 | k + 1 => by
  have ih0 := value_Un.mono_l k
  ·intro y0 y1 y2 y3 y4 y5 y6 y7
   unfold value_Un.j0
   repeat' first
   | (with_reducible exact ih0 _ _ _ _ _ _ _ _)
   | (with_reducible exact num_Div.mono _ _ _ _ _)
   | (with_reducible exact num_Neg.mono _ _ _)
   | (with_reducible exact value_AsNumber.mono _ _ _ _ _ _ _)
   | (with_reducible exact value_Number.mono _ _ _)
   | (with_reducible exact value_taken.mono _ _ _ _ _ _ _)
   | (with_reducible exact value_told.mono _ _ _ _)
   | (with_reducible exact LeO.refl _)
   | (with_reducible exact LeO.none _)
   | (with_reducible refine LeO.ite ?_ ?_)
   | (with_reducible refine LeO.bind ?_ (fun _ => ?_))
   | exact ih0 _ _ _ _ _ _ _ _
   | exact num_Div.mono _ _ _ _ _
   | exact num_Neg.mono _ _ _
   | exact value_AsNumber.mono _ _ _ _ _ _ _
   | exact value_Number.mono _ _ _
   | exact value_taken.mono _ _ _ _ _ _ _
   | exact value_told.mono _ _ _ _
   | exact LeO.none _
   | refine LeO.ite ?_ ?_
   | refine LeO.bind ?_ (fun _ => ?_)
theorem value_Un.mono : ∀ a0 a1 a2 a3 a4 a5 a6 k, LeO (value_Un.f k a0 a1 a2 a3 a4 a5 a6) (value_Un.f (k + 1) a0 a1 a2 a3 a4 a5 a6) := by
 intro a0 a1 a2 a3 a4 a5 a6 k
 have ih0 := value_Un.mono_l k
 unfold value_Un.f
 repeat' first
   | (with_reducible exact ih0 _ _ _ _ _ _ _ _)
   | (with_reducible exact num_Div.mono _ _ _ _ _)
   | (with_reducible exact num_Neg.mono _ _ _)
   | (with_reducible exact value_AsNumber.mono _ _ _ _ _ _ _)
   | (with_reducible exact value_Number.mono _ _ _)
   | (with_reducible exact value_taken.mono _ _ _ _ _ _ _)
   | (with_reducible exact value_told.mono _ _ _ _)
   | (with_reducible exact LeO.refl _)
   | (with_reducible exact LeO.none _)
   | (with_reducible refine LeO.ite ?_ ?_)
   | (with_reducible refine LeO.bind ?_ (fun _ => ?_))
   | exact ih0 _ _ _ _ _ _ _ _
   | exact num_Div.mono _ _ _ _ _
   | exact num_Neg.mono _ _ _
   | exact value_AsNumber.mono _ _ _ _ _ _ _
   | exact value_Number.mono _ _ _
   | exact value_taken.mono _ _ _ _ _ _ _
   | exact value_told.mono _ _ _ _
   | exact LeO.none _
   | refine LeO.ite ?_ ?_
   | refine LeO.bind ?_ (fun _ => ?_)
set_option maxHeartbeats 8000000 in
set_option maxRecDepth 100000 in
theorem value_Un.calls (k : Nat) (a0 : Int) (a1_0 : Int) (a1_1 : Int) (a1_2 : Int) (a1_3 : ByteArray) (a1_4 : Bool) (a1_5 : Int) (r1 : Int) (r2 : Int) (r3 : Int) (r4 : ByteArray) (r5 : Bool) (r6 : Int) (w : World) (h : value_Un.f k a0 a1_0 a1_1 a1_2 a1_3 a1_4 a1_5 = some (r1, r2, r3, r4, r5, r6)) :
  Calls Tryd.prog 43 #[.int .i64 a0, .agg #[.int .i64 a1_0, .int .i64 a1_1, .int .i64 a1_2, .string a1_3, .bool a1_4, .int .i64 a1_5]] w fun e w' => e = .returned (.agg #[.int .i64 r1, .int .i64 r2, .int .i64 r3, .string r4, .bool r5, .int .i64 r6]) ∧ Below w.heap.size w w' := by
 have hu25 := Tryd.underlying25
 have hu23 := Tryd.underlying23
 have BX := Bx.start w
 have H : ((value_taken.f k a1_0 a1_1 a1_2 a1_3 a1_4 a1_5).bind fun bt1196 => (if a0 = 1 then (value_Un.j0 k a0 false bt1196.1 bt1196.2.1 bt1196.2.2.1 bt1196.2.2.2.1 bt1196.2.2.2.2.1 bt1196.2.2.2.2.2) else (if a0 = 2 then (value_Un.j0 k a0 false bt1196.1 bt1196.2.1 bt1196.2.2.1 bt1196.2.2.2.1 bt1196.2.2.2.2.1 bt1196.2.2.2.2.2) else (value_Un.j0 k a0 (a0 != 3) bt1196.1 bt1196.2.1 bt1196.2.2.1 bt1196.2.2.2.1 bt1196.2.2.2.2.1 bt1196.2.2.2.2.2)))) = some (r1, r2, r3, r4, r5, r6) := h
 clear h
 replace H := Option.bind_eq_some_iff.mp H
 obtain ⟨⟨t1196, t1197, t1198, t1199, t1200, t1201⟩, A30, H⟩ := H
 replace H : (if a0 = 1 then (value_Un.j0 k a0 false t1196 t1197 t1198 t1199 t1200 t1201) else (if a0 = 2 then (value_Un.j0 k a0 false t1196 t1197 t1198 t1199 t1200 t1201) else (value_Un.j0 k a0 (a0 != 3) t1196 t1197 t1198 t1199 t1200 t1201))) = some (r1, r2, r3, r4, r5, r6) := H
 have A3 := Aside0.mk A30
 clear A30
 have HC4 := Aside0.mk H
 clear H
 go_enter Tryd.func43, Tryd.ntmps43
 go_upto_region 2 with (first | ((with_reducible refine gate_dst (N := 3) rfl ?_); refine bxe 3 #[.int .i64 a1_0, .int .i64 a1_1, .int .i64 a1_2, .string a1_3, .bool a1_4, .int .i64 a1_5] 25 rfl rfl gr ?_; clear BX; intro gb1194 w5 GE1194 BX) | ((with_reducible refine gate_dst (N := 4) rfl ?_); refine bxe 4 #[.int .i64 0, .int .i64 0, .int .i64 0, .string (⟨#[]⟩ : ByteArray), .bool false, .int .i64 0] 25 rfl rfl gr ?_; clear BX; intro gb1195 w6 GE1195 BX) | ((with_reducible refine gate_callee (f := 59) rfl ?_); refine goesL_ (some 8) rfl rfl Tryd.func59 kr rfl #[.agg #[.int .i64 a1_0, .int .i64 a1_1, .int .i64 a1_2, .string a1_3, .bool a1_4, .int .i64 a1_5]] rfl ga ?_; (with_reducible refine (value_taken.calls k a1_0 a1_1 a1_2 a1_3 a1_4 a1_5 t1196 t1197 t1198 t1199 t1200 t1201 _ A3.out).mono ?_); rintro e w9 ⟨rfl, hb⟩; refine ⟨_, rfl, ?_⟩; replace BX := bx_call hb; clear hb))
 (try simp only [Act.put, List.setIfInBounds_toArray, List.set_cons_zero, List.set_cons_succ])
 go_cut [9] (fun v9 wc => ∃ (kq : Nat) (x9_3 : Bool), v9 = .bool x9_3 ∧ Aside0 (value_Un.j0 kq a0 x9_3 t1196 t1197 t1198 t1199 t1200 t1201 = some (r1, r2, r3, r4, r5, r6)) ∧ Aside0 (kq ≤ k) ∧ Bx w wc [(gb1195, 25, #[.int .i64 0, .int .i64 0, .int .i64 0, .string (⟨#[]⟩ : ByteArray), .bool false, .int .i64 0]), (gb1194, 25, #[.int .i64 t1196, .int .i64 t1197, .int .i64 t1198, .string t1199, .bool t1200, .int .i64 t1201])])
 case first =>
  have H := HC4.out
  clear HC4
  by_cases c11 : a0 = 1
  ·rw [if_pos c11] at H
   have c11b0 : (a0 == 1) = true := beq_iff_eq.mpr c11
   have c11b1 : (a0 != 1) = false := bne_eq_false_iff_eq.mpr c11
   clear c11
   (first | rw [c11b0] | (simp only [i64_w, i32_w]; rw [c11b0]) | skip)
   have H' := Aside0.mk H
   clear H
   go_wp2
   go_meet
   case rel => exact ⟨_, (false), er, H', ⟨by first | omega | exact Nat.le_refl _⟩, bxs⟩
  ·rw [if_neg c11] at H
   have c11b0 : (a0 == 1) = false := beq_eq_false_iff_ne.mpr c11
   have c11b1 : (a0 != 1) = true := bne_iff_ne.mpr c11
   (first | rw [c11b0] | (simp only [i64_w, i32_w]; rw [c11b0]) | skip)
   by_cases c12 : a0 = 2
   ·rw [if_pos c12] at H
    have c12b0 : (a0 == 2) = true := beq_iff_eq.mpr c12
    have c12b1 : (a0 != 2) = false := bne_eq_false_iff_eq.mpr c12
    clear c12
    have H' := Aside0.mk H
    clear H
    go_wp2
    go_meet
    case rel => exact ⟨_, (false), er, H', ⟨by first | omega | exact Nat.le_refl _⟩, bxs⟩
   ·rw [if_neg c12] at H
    have c12b0 : (a0 == 2) = false := beq_eq_false_iff_ne.mpr c12
    have c12b1 : (a0 != 2) = true := bne_iff_ne.mpr c12
    have H' := Aside0.mk H
    clear H
    go_wp2
    go_meet
    case rel => exact ⟨_, ((a0 != 3)), er, H', ⟨by first | omega | exact Nat.le_refl _⟩, bxs⟩
 case rest =>
  clear HC4
  try clear c1
  try clear p2
  try clear c4
  try clear c5
  try clear c7
  try clear c11
  try clear c11b0
  try clear c11b1
  try clear c12
  try clear c12b0
  try clear c12b1
  obtain ⟨kq, x9_3, rfl, HA, HJ3, BX⟩ := hcut
  cases kq with
  | zero => exact absurd HA.out (by simp [value_Un.j0])
  | succ kj3 =>
   have H := HA.out
   clear HA
   simp only [value_Un.j0] at H
   by_cases c13 : x9_3 = true
   ·subst c13
    have H1 : ((value_Fault.f 2).bind fun bt1202 => (some (bt1202.1, bt1202.2.1, bt1202.2.2.1, bt1202.2.2.2.1, bt1202.2.2.2.2.1, bt1202.2.2.2.2.2))) = some (r1, r2, r3, r4, r5, r6) := by rw [if_pos rfl] at H; exact H
    clear H
    have H := H1
    clear H1
    replace H := Option.bind_eq_some_iff.mp H
    obtain ⟨⟨t1202, t1203, t1204, t1205, t1206, t1207⟩, A140, H⟩ := H
    replace H : (some (t1202, t1203, t1204, t1205, t1206, t1207)) = some (r1, r2, r3, r4, r5, r6) := H
    have A14 := Aside0.mk A140
    clear A140
    simp only [Option.some.injEq, Prod.mk.injEq] at H
    obtain ⟨rfl, rfl, rfl, rfl, rfl, rfl⟩ := H
    go_wp2_with (first | ((with_reducible refine gate_callee (f := 25) rfl ?_); refine goesL_ (some 20) rfl rfl Tryd.func25 kr rfl #[.int .i64 2] rfl ga ?_; (with_reducible refine (value_Fault.calls 2 t1202 t1203 t1204 t1205 t1206 t1207 _ A14.out).mono ?_); rintro e w15 ⟨rfl, hb⟩; refine ⟨_, rfl, ?_⟩; replace BX := bx_call hb; clear hb))
    refine bodyPost_ret (results_cell_row rfl _ _ gb1195 25 #[.int .i64 t1202, .int .i64 t1203, .int .i64 t1204, .string t1205, .bool t1206, .int .i64 t1207] (0, 0) _ rfl bx_get Tryd.underlying25 rfl kr) rfl ?_
    exact ⟨er2, bx_bl⟩
   ·replace c13 := Bool.eq_false_iff.mpr c13
    subst c13
    have H1 : (if t1196 = 4 then (some (t1196, t1197, t1198, t1199, t1200, t1201)) else (if a0 = 2 then (some (t1196, t1197, t1198, t1199, t1200, t1201)) else ((value_AsNumber.f kj3 t1196 t1197 t1198 t1199 t1200 t1201).bind fun bt1208 => (if bt1208.2.2.1 = 4 then (some (bt1208.2.2.1, bt1208.2.2.2.1, bt1208.2.2.2.2.1, bt1208.2.2.2.2.2.1, bt1208.2.2.2.2.2.2.1, bt1208.2.2.2.2.2.2.2)) else (if a0 = 1 then ((num_Neg.f kj3 bt1208.1 bt1208.2.1).bind fun bt1218 => ((value_Number.f kj3 bt1218.1 bt1218.2).bind fun bt1220 => (some (bt1220.1, bt1220.2.1, bt1220.2.2.1, bt1220.2.2.2.1, bt1220.2.2.2.2.1, bt1220.2.2.2.2.2)))) else ((value_number.f 100).bind fun bt1226 => ((num_Div.f kj3 bt1208.1 bt1208.2.1 bt1226.1 bt1226.2).bind fun bt1228 => ((value_told.f kj3 bt1228.1 bt1228.2.1 bt1228.2.2).bind fun bt1231 => (some (bt1231.1, bt1231.2.1, bt1231.2.2.1, bt1231.2.2.2.1, bt1231.2.2.2.2.1, bt1231.2.2.2.2.2)))))))))) = some (r1, r2, r3, r4, r5, r6) := by rw [if_neg (show ¬ (false = true) by decide)] at H; exact H
    clear H
    have H := H1
    clear H1
    by_cases c18 : t1196 = 4
    ·rw [if_pos c18] at H
     have c18b0 : (t1196 == 4) = true := beq_iff_eq.mpr c18
     have c18b1 : (t1196 != 4) = false := bne_eq_false_iff_eq.mpr c18
     clear c18
     simp only [Option.some.injEq, Prod.mk.injEq] at H
     obtain ⟨rfl, rfl, rfl, rfl, rfl, rfl⟩ := H
     go_wp2
     refine bodyPost_ret (results_cell_row rfl _ _ gb1195 25 #[.int .i64 t1196, .int .i64 t1197, .int .i64 t1198, .string t1199, .bool t1200, .int .i64 t1201] (0, 0) _ rfl bx_get Tryd.underlying25 rfl kr) rfl ?_
     exact ⟨er2, bx_bl⟩
    ·rw [if_neg c18] at H
     have c18b0 : (t1196 == 4) = false := beq_eq_false_iff_ne.mpr c18
     have c18b1 : (t1196 != 4) = true := bne_iff_ne.mpr c18
     by_cases c22 : a0 = 2
     ·rw [if_pos c22] at H
      have c22b0 : (a0 == 2) = true := beq_iff_eq.mpr c22
      have c22b1 : (a0 != 2) = false := bne_eq_false_iff_eq.mpr c22
      clear c22
      simp only [Option.some.injEq, Prod.mk.injEq] at H
      obtain ⟨rfl, rfl, rfl, rfl, rfl, rfl⟩ := H
      go_wp2
      refine bodyPost_ret (results_cell_row rfl _ _ gb1195 25 #[.int .i64 t1196, .int .i64 t1197, .int .i64 t1198, .string t1199, .bool t1200, .int .i64 t1201] (0, 0) _ rfl bx_get Tryd.underlying25 rfl kr) rfl ?_
      exact ⟨er2, bx_bl⟩
     ·rw [if_neg c22] at H
      have c22b0 : (a0 == 2) = false := beq_eq_false_iff_ne.mpr c22
      have c22b1 : (a0 != 2) = true := bne_iff_ne.mpr c22
      replace H := Option.bind_eq_some_iff.mp H
      obtain ⟨⟨t1208, t1209, t1210, t1211, t1212, t1213, t1214, t1215⟩, A260, H⟩ := H
      replace H : (if t1210 = 4 then (some (t1210, t1211, t1212, t1213, t1214, t1215)) else (if a0 = 1 then ((num_Neg.f kj3 t1208 t1209).bind fun bt1218 => ((value_Number.f kj3 bt1218.1 bt1218.2).bind fun bt1220 => (some (bt1220.1, bt1220.2.1, bt1220.2.2.1, bt1220.2.2.2.1, bt1220.2.2.2.2.1, bt1220.2.2.2.2.2)))) else ((value_number.f 100).bind fun bt1226 => ((num_Div.f kj3 t1208 t1209 bt1226.1 bt1226.2).bind fun bt1228 => ((value_told.f kj3 bt1228.1 bt1228.2.1 bt1228.2.2).bind fun bt1231 => (some (bt1231.1, bt1231.2.1, bt1231.2.2.1, bt1231.2.2.2.1, bt1231.2.2.2.2.1, bt1231.2.2.2.2.2))))))) = some (r1, r2, r3, r4, r5, r6) := H
      have A26 := Aside0.mk A260
      clear A260
      by_cases c27 : t1210 = 4
      ·rw [if_pos c27] at H
       have c27b0 : (t1210 == 4) = true := beq_iff_eq.mpr c27
       have c27b1 : (t1210 != 4) = false := bne_eq_false_iff_eq.mpr c27
       clear c27
       simp only [Option.some.injEq, Prod.mk.injEq] at H
       obtain ⟨rfl, rfl, rfl, rfl, rfl, rfl⟩ := H
       go_wp2_with (first | ((with_reducible refine gate_callee (f := 37) rfl ?_); refine goesL_ (some 32) rfl rfl Tryd.func37 kr rfl #[.agg #[.int .i64 t1196, .int .i64 t1197, .int .i64 t1198, .string t1199, .bool t1200, .int .i64 t1201]] rfl ga ?_; (with_reducible refine (value_AsNumber.calls kj3 t1196 t1197 t1198 t1199 t1200 t1201 t1208 t1209 t1210 t1211 t1212 t1213 t1214 t1215 _ A26.out).mono ?_); rintro e w30 ⟨rfl, hb⟩; refine ⟨_, rfl, ?_⟩; replace BX := bx_call hb; clear hb) | ((with_reducible refine gate_dst (N := 5) rfl ?_); refine bxe 5 #[.int .i64 0, .int .i64 0] 23 rfl rfl gr ?_; clear BX; intro gb1216 w31 GE1216 BX) | ((with_reducible refine gate_dst (N := 6) rfl ?_); refine bxe 6 #[.int .i64 0, .int .i64 0, .int .i64 0, .string (⟨#[]⟩ : ByteArray), .bool false, .int .i64 0] 25 rfl rfl gr ?_; clear BX; intro gb1217 w32 GE1217 BX))
       refine bodyPost_ret (results_cell_row rfl _ _ gb1195 25 #[.int .i64 t1210, .int .i64 t1211, .int .i64 t1212, .string t1213, .bool t1214, .int .i64 t1215] (0, 0) _ rfl bx_get Tryd.underlying25 rfl kr) rfl ?_
       exact ⟨er2, bx_bl⟩
      ·rw [if_neg c27] at H
       have c27b0 : (t1210 == 4) = false := beq_eq_false_iff_ne.mpr c27
       have c27b1 : (t1210 != 4) = true := bne_iff_ne.mpr c27
       by_cases c41 : a0 = 1
       ·rw [if_pos c41] at H
        have c41b0 : (a0 == 1) = true := beq_iff_eq.mpr c41
        have c41b1 : (a0 != 1) = false := bne_eq_false_iff_eq.mpr c41
        clear c41
        replace H := Option.bind_eq_some_iff.mp H
        obtain ⟨⟨t1218, t1219⟩, A420, H⟩ := H
        have A42 := Aside0.mk A420
        clear A420
        replace H := Option.bind_eq_some_iff.mp H
        obtain ⟨⟨t1220, t1221, t1222, t1223, t1224, t1225⟩, A430, H⟩ := H
        replace H : (some (t1220, t1221, t1222, t1223, t1224, t1225)) = some (r1, r2, r3, r4, r5, r6) := H
        have A43 := Aside0.mk A430
        clear A430
        simp only [Option.some.injEq, Prod.mk.injEq] at H
        obtain ⟨rfl, rfl, rfl, rfl, rfl, rfl⟩ := H
        go_wp2_with (first | ((with_reducible refine gate_callee (f := 37) rfl ?_); refine goesL_ (some 32) rfl rfl Tryd.func37 kr rfl #[.agg #[.int .i64 t1196, .int .i64 t1197, .int .i64 t1198, .string t1199, .bool t1200, .int .i64 t1201]] rfl ga ?_; (with_reducible refine (value_AsNumber.calls kj3 t1196 t1197 t1198 t1199 t1200 t1201 t1208 t1209 t1210 t1211 t1212 t1213 t1214 t1215 _ A26.out).mono ?_); rintro e w46 ⟨rfl, hb⟩; refine ⟨_, rfl, ?_⟩; replace BX := bx_call hb; clear hb) | ((with_reducible refine gate_dst (N := 5) rfl ?_); refine bxe 5 #[.int .i64 0, .int .i64 0] 23 rfl rfl gr ?_; clear BX; intro gb1216 w47 GE1216 BX) | ((with_reducible refine gate_dst (N := 6) rfl ?_); refine bxe 6 #[.int .i64 0, .int .i64 0, .int .i64 0, .string (⟨#[]⟩ : ByteArray), .bool false, .int .i64 0] 25 rfl rfl gr ?_; clear BX; intro gb1217 w48 GE1217 BX) | ((with_reducible refine gate_callee (f := 48) rfl ?_); refine goesL_ (some 44) rfl rfl Tryd.func48 kr rfl #[.agg #[.int .i64 t1208, .int .i64 t1209]] rfl ga ?_; (with_reducible refine (num_Neg.calls kj3 t1208 t1209 t1218 t1219 _ A42.out).mono ?_); rintro e w56 ⟨rfl, hb⟩; refine ⟨_, rfl, ?_⟩; replace BX := bx_call hb; clear hb) | ((with_reducible refine gate_callee (f := 19) rfl ?_); refine goesL_ (some 45) rfl rfl Tryd.func19 kr rfl #[.agg #[.int .i64 t1218, .int .i64 t1219]] rfl ga ?_; (with_reducible refine (value_Number.calls kj3 t1218 t1219 t1220 t1221 t1222 t1223 t1224 t1225 _ A43.out).mono ?_); rintro e w57 ⟨rfl, hb⟩; refine ⟨_, rfl, ?_⟩; replace BX := bx_call hb; clear hb))
        refine bodyPost_ret (results_cell_row rfl _ _ gb1195 25 #[.int .i64 t1220, .int .i64 t1221, .int .i64 t1222, .string t1223, .bool t1224, .int .i64 t1225] (0, 0) _ rfl bx_get Tryd.underlying25 rfl kr) rfl ?_
        exact ⟨er2, bx_bl⟩
       ·rw [if_neg c41] at H
        have c41b0 : (a0 == 1) = false := beq_eq_false_iff_ne.mpr c41
        have c41b1 : (a0 != 1) = true := bne_iff_ne.mpr c41
        replace H := Option.bind_eq_some_iff.mp H
        obtain ⟨⟨t1226, t1227⟩, A590, H⟩ := H
        have A59 := Aside0.mk A590
        clear A590
        replace H := Option.bind_eq_some_iff.mp H
        obtain ⟨⟨t1228, t1229, t1230⟩, A600, H⟩ := H
        have A60 := Aside0.mk A600
        clear A600
        replace H := Option.bind_eq_some_iff.mp H
        obtain ⟨⟨t1231, t1232, t1233, t1234, t1235, t1236⟩, A610, H⟩ := H
        replace H : (some (t1231, t1232, t1233, t1234, t1235, t1236)) = some (r1, r2, r3, r4, r5, r6) := H
        have A61 := Aside0.mk A610
        clear A610
        simp only [Option.some.injEq, Prod.mk.injEq] at H
        obtain ⟨rfl, rfl, rfl, rfl, rfl, rfl⟩ := H
        try go_wp2_with (first | ((with_reducible refine gate_callee (f := 37) rfl ?_); refine goesL_ (some 32) rfl rfl Tryd.func37 kr rfl #[.agg #[.int .i64 t1196, .int .i64 t1197, .int .i64 t1198, .string t1199, .bool t1200, .int .i64 t1201]] rfl ga ?_; (with_reducible refine (value_AsNumber.calls kj3 t1196 t1197 t1198 t1199 t1200 t1201 t1208 t1209 t1210 t1211 t1212 t1213 t1214 t1215 _ A26.out).mono ?_); rintro e w64 ⟨rfl, hb⟩; refine ⟨_, rfl, ?_⟩; replace BX := bx_call hb; clear hb) | ((with_reducible refine gate_dst (N := 5) rfl ?_); refine bxe 5 #[.int .i64 0, .int .i64 0] 23 rfl rfl gr ?_; clear BX; intro gb1216 w65 GE1216 BX) | ((with_reducible refine gate_dst (N := 6) rfl ?_); refine bxe 6 #[.int .i64 0, .int .i64 0, .int .i64 0, .string (⟨#[]⟩ : ByteArray), .bool false, .int .i64 0] 25 rfl rfl gr ?_; clear BX; intro gb1217 w66 GE1217 BX))
        replace BX : Bx w ((((((((w66.setCell ⟨gb1216, 0, none⟩ (.int .i64 t1208)).setCell ⟨gb1216, 1, none⟩ (.int .i64 t1209)).setCell ⟨gb1217, 0, none⟩ (.int .i64 t1210)).setCell ⟨gb1217, 1, none⟩ (.int .i64 t1211)).setCell ⟨gb1217, 2, none⟩ (.int .i64 t1212)).setCell ⟨gb1217, 3, none⟩ (.string t1213)).setCell ⟨gb1217, 4, none⟩ (.bool t1214)).setCell ⟨gb1217, 5, none⟩ (.int .i64 t1215)) _ := bxi
        generalize ((((((((w66.setCell ⟨gb1216, 0, none⟩ (.int .i64 t1208)).setCell ⟨gb1216, 1, none⟩ (.int .i64 t1209)).setCell ⟨gb1217, 0, none⟩ (.int .i64 t1210)).setCell ⟨gb1217, 1, none⟩ (.int .i64 t1211)).setCell ⟨gb1217, 2, none⟩ (.int .i64 t1212)).setCell ⟨gb1217, 3, none⟩ (.string t1213)).setCell ⟨gb1217, 4, none⟩ (.bool t1214)).setCell ⟨gb1217, 5, none⟩ (.int .i64 t1215)) = w74 at BX ⊢
        refine startm [false, true] (n := 7) (ds := []) #[false, false, false, false, false, false, false] kr rfl rfl (fun BX1 => ?_)
        clear BX
        have BX := BX1
        clear BX1
        generalize w74.drew = w75 at BX ⊢
        refine take_ (i := 0) (N := some 46) (v := ?_) (a' := ?_) #[true, false, false, false, false, false, false] rfl rfl kr (fun _ _ _ h => h) (Or.inl ⟨by rfl, ?_⟩) bxs ?_ ?_
        rotate_left
        ·intro w' hS
         go_simp
         with_reducible rfl
        rotate_left
        ·simp only [Act.put, List.setIfInBounds_toArray, List.set_cons_zero, List.set_cons_succ, i64_w, i32_w]
         rfl
        refine one_ (i := 1) (N := some 47) #[true, true, false, false, false, false, false] rfl rfl kr (by decide) (fun K hK => ?_)
        refine goes_ Tryd.func72 kr rfl #[.int .i64 100] (by rfl) rfl rfl ga ?_
        with_reducible refine (value_number.calls 100 t1226 t1227 _ A59.out).mono ?_
        rintro e w76 ⟨rfl, hb⟩
        refine ⟨_, rfl, ?_⟩
        replace BX := bx_call hb
        clear hb
        refine hK.out _ _ bxs (fun hHeld => ?_)
        clear hK K hHeld
        refine norm_ (a' := ?_) ?_ ?_
        rotate_left
        ·show Act.put _ (some 47) _ = _
         simp only [Act.put, List.setIfInBounds_toArray, List.set_cons_zero, List.set_cons_succ, i64_w, i32_w]
         rfl
        refine one_ (i := 2) (N := some 48) #[true, true, true, false, false, false, false] rfl rfl kr (by decide) (fun K hK => ?_)
        refine goes_ Tryd.func75 kr rfl #[.agg #[.int .i64 t1208, .int .i64 t1209], .agg #[.int .i64 t1226, .int .i64 t1227]] (by rfl) rfl rfl ga ?_
        with_reducible refine (num_Div.calls kj3 t1208 t1209 t1226 t1227 t1228 t1229 t1230 _ A60.out).mono ?_
        rintro e w77 ⟨rfl, hb⟩
        refine ⟨_, rfl, ?_⟩
        replace BX := bx_call hb
        clear hb
        refine hK.out _ _ bxs (fun hHeld => ?_)
        clear hK K hHeld
        refine norm_ (a' := ?_) ?_ ?_
        rotate_left
        ·show Act.put _ (some 48) _ = _
         simp only [Act.put, List.setIfInBounds_toArray, List.set_cons_zero, List.set_cons_succ, i64_w, i32_w]
         rfl
        refine pure_ (i := 3) (N := some 49) (v := ?_) (a' := ?_) #[true, true, true, true, false, false, false] rfl rfl kr (fun _ _ _ h => h) (Or.inl ⟨by rfl, ?_⟩) ?_ ?_
        rotate_left
        ·intro w'
         go_simp
         with_reducible rfl
        rotate_left
        ·simp only [Act.put, List.setIfInBounds_toArray, List.set_cons_zero, List.set_cons_succ, i64_w, i32_w]
         rfl
        refine pure_ (i := 4) (N := some 50) (v := ?_) (a' := ?_) #[true, true, true, true, true, false, false] rfl rfl kr (fun _ _ _ h => h) (Or.inl ⟨by rfl, ?_⟩) ?_ ?_
        rotate_left
        ·intro w'
         go_simp
         with_reducible rfl
        rotate_left
        ·simp only [Act.put, List.setIfInBounds_toArray, List.set_cons_zero, List.set_cons_succ, i64_w, i32_w]
         rfl
        refine one_ (i := 5) (N := some 51) #[true, true, true, true, true, true, false] rfl rfl kr (by decide) (fun K hK => ?_)
        refine goes_ Tryd.func74 kr rfl #[.agg #[.int .i64 t1228, .int .i64 t1229], .bool t1230] (by rfl) rfl rfl ga ?_
        with_reducible refine (value_told.calls kj3 t1228 t1229 t1230 t1231 t1232 t1233 t1234 t1235 t1236 _ A61.out).mono ?_
        rintro e w78 ⟨rfl, hb⟩
        refine ⟨_, rfl, ?_⟩
        replace BX := bx_call hb
        clear hb
        refine hK.out _ _ bxs (fun hHeld => ?_)
        clear hK K hHeld
        refine norm_ (a' := ?_) ?_ ?_
        rotate_left
        ·show Act.put _ (some 51) _ = _
         simp only [Act.put, List.setIfInBounds_toArray, List.set_cons_zero, List.set_cons_succ, i64_w, i32_w]
         rfl
        refine one_ (i := 6) (N := none) #[true, true, true, true, true, true, true] rfl rfl kr (by decide) (fun K hK => ?_)
        refine skip_ (w1 := ?_) (by rfl) rfl ?_ ?_
        rotate_left
        ·go_simp
         rfl
        refine hK.out _ _ bxs (fun hHeld => ?_)
        clear hK K hHeld
        refine done_ kr ?_
        try go_wp2
        refine bodyPost_ret (results_cell_row rfl _ _ gb1195 25 #[.int .i64 t1231, .int .i64 t1232, .int .i64 t1233, .string t1234, .bool t1235, .int .i64 t1236] (0, 0) _ rfl bx_get Tryd.underlying25 rfl kr) rfl ?_
        exact ⟨er2, bx_bl⟩
end
end Go.Proofs.YtmakkdlkgfgaoaaDoor.F
