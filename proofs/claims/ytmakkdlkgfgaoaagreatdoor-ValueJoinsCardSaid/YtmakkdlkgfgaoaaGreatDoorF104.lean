-- Laid by program (wip/tools/genv.sh, pack.py, merge.py of this repo) out of the translation; Lean checks it.
import Derived.Test.YtmakkdlkgfgaoaaGreatDoorF0
import Derived.Test.YtmakkdlkgfgaoaaGreatDoorC0
import Derived.Test.YtmakkdlkgfgaoaaGreatDoorF102
import Derived.Test.YtmakkdlkgfgaoaaGreatDoorF103
namespace Go.Proofs.YtmakkdlkgfgaoaaGreatDoor.F
open Go.RowKit Go.Proofs.YtmakkdlkgfgaoaaGreatDoorW.PrintWords Go.Proofs.YtmakkdlkgfgaoaaGreatDoorW.PrintLast Go.Proofs.YtmakkdlkgfgaoaaGreatDoorW.PrintMore
attribute [local go_sem] max2_int min2_int max_two min_two max_three min_three max_four min_four
attribute [local go_sem high] bx_cell bx_frozen
set_option linter.unusedVariables false
set_option linter.unusedSimpArgs false

section
/-! ### value_Cmp: function 19 -/
mutual
def value_Cmp.j0 : Nat → Int → Int → Int → ByteArray → Bool → Int → Int → Int → Int → ByteArray → Bool → Int → Option (Int)
 | 0, _, _, _, _, _, _, _, _, _, _, _, _ => none
 | k + 1, x174000, x174001, x174002, x174003, x174004, x174005, x175000, x175001, x175002, x175003, x175004, x175005 => if x175000 = 0 then ((value_beside.f k x174000).bind fun bt193 => (value_Cmp.j1 k x174000 x174001 x174002 x174003 x174004 x174005 bt193.1 bt193.2.1 bt193.2.2.1 bt193.2.2.2.1 bt193.2.2.2.2.1 bt193.2.2.2.2.2)) else (value_Cmp.j1 k x174000 x174001 x174002 x174003 x174004 x174005 x175000 x175001 x175002 x175003 x175004 x175005)
def value_Cmp.j1 : Nat → Int → Int → Int → ByteArray → Bool → Int → Int → Int → Int → ByteArray → Bool → Int → Option (Int)
 | 0, _, _, _, _, _, _, _, _, _, _, _, _ => none
 | k + 1, x174000, x174001, x174002, x174003, x174004, x174005, x175000, x175001, x175002, x175003, x175004, x175005 => if x174000 < x175000 then (some (-1)) else (if x174000 > x175000 then (some 1) else (if x174000 = 1 then ((num_Cmp.f k x174001 x174002 x175001 x175002).bind fun t199 => (some t199)) else (if x174000 = 2 then ((strings_Compare.f x174003 x175003).bind fun t200 => (some t200)) else (if x174000 = 4 then (some (mx (-1) (mn 1 (wrap64 (x174005 - x175005))))) else (if (x174004 == x175004) = true then (some 0) else (if x175004 = true then (some (-1)) else (some 1)))))))
end
def value_Cmp.f (k : Nat) (a0_0 : Int) (a0_1 : Int) (a0_2 : Int) (a0_3 : ByteArray) (a0_4 : Bool) (a0_5 : Int) (a1_0 : Int) (a1_1 : Int) (a1_2 : Int) (a1_3 : ByteArray) (a1_4 : Bool) (a1_5 : Int) : Option (Int) := (value_taken.f k a0_0 a0_1 a0_2 a0_3 a0_4 a0_5).bind fun bt175 => ((value_taken.f k a1_0 a1_1 a1_2 a1_3 a1_4 a1_5).bind fun bt181 => (if bt175.1 = 0 then ((value_beside.f k bt181.1).bind fun bt187 => (value_Cmp.j0 k bt187.1 bt187.2.1 bt187.2.2.1 bt187.2.2.2.1 bt187.2.2.2.2.1 bt187.2.2.2.2.2 bt181.1 bt181.2.1 bt181.2.2.1 bt181.2.2.2.1 bt181.2.2.2.2.1 bt181.2.2.2.2.2)) else (value_Cmp.j0 k bt175.1 bt175.2.1 bt175.2.2.1 bt175.2.2.2.1 bt175.2.2.2.2.1 bt175.2.2.2.2.2 bt181.1 bt181.2.1 bt181.2.2.1 bt181.2.2.2.1 bt181.2.2.2.2.1 bt181.2.2.2.2.2)))
theorem value_Cmp.mono_l : ∀ k, (∀ y0 y1 y2 y3 y4 y5 y6 y7 y8 y9 y10 y11, LeO (value_Cmp.j0 k y0 y1 y2 y3 y4 y5 y6 y7 y8 y9 y10 y11) (value_Cmp.j0 (k + 1) y0 y1 y2 y3 y4 y5 y6 y7 y8 y9 y10 y11)) ∧ (∀ y0 y1 y2 y3 y4 y5 y6 y7 y8 y9 y10 y11, LeO (value_Cmp.j1 k y0 y1 y2 y3 y4 y5 y6 y7 y8 y9 y10 y11) (value_Cmp.j1 (k + 1) y0 y1 y2 y3 y4 y5 y6 y7 y8 y9 y10 y11))
 | 0 => ⟨fun _ _ _ _ _ _ _ _ _ _ _ _ r h => by simp [value_Cmp.j0] at h, fun _ _ _ _ _ _ _ _ _ _ _ _ r h => by simp [value_Cmp.j1] at h⟩
 | k + 1 => by
  obtain ⟨ih0, ih1⟩ := value_Cmp.mono_l k
  refine ⟨?_, ?_⟩
  ·intro y0 y1 y2 y3 y4 y5 y6 y7 y8 y9 y10 y11
   unfold value_Cmp.j0
   repeat' first
   | (with_reducible exact ih0 _ _ _ _ _ _ _ _ _ _ _ _)
   | (with_reducible exact ih1 _ _ _ _ _ _ _ _ _ _ _ _)
   | (with_reducible exact num_Cmp.mono _ _ _ _ _)
   | (with_reducible exact value_beside.mono _ _)
   | (with_reducible exact value_taken.mono _ _ _ _ _ _ _)
   | (with_reducible exact LeO.refl _)
   | (with_reducible exact LeO.none _)
   | (with_reducible refine LeO.ite ?_ ?_)
   | (with_reducible refine LeO.bind ?_ (fun _ => ?_))
   | exact ih0 _ _ _ _ _ _ _ _ _ _ _ _
   | exact ih1 _ _ _ _ _ _ _ _ _ _ _ _
   | exact num_Cmp.mono _ _ _ _ _
   | exact value_beside.mono _ _
   | exact value_taken.mono _ _ _ _ _ _ _
   | exact LeO.none _
   | refine LeO.ite ?_ ?_
   | refine LeO.bind ?_ (fun _ => ?_)
  ·intro y0 y1 y2 y3 y4 y5 y6 y7 y8 y9 y10 y11
   unfold value_Cmp.j1
   repeat' first
   | (with_reducible exact ih0 _ _ _ _ _ _ _ _ _ _ _ _)
   | (with_reducible exact ih1 _ _ _ _ _ _ _ _ _ _ _ _)
   | (with_reducible exact num_Cmp.mono _ _ _ _ _)
   | (with_reducible exact value_beside.mono _ _)
   | (with_reducible exact value_taken.mono _ _ _ _ _ _ _)
   | (with_reducible exact LeO.refl _)
   | (with_reducible exact LeO.none _)
   | (with_reducible refine LeO.ite ?_ ?_)
   | (with_reducible refine LeO.bind ?_ (fun _ => ?_))
   | exact ih0 _ _ _ _ _ _ _ _ _ _ _ _
   | exact ih1 _ _ _ _ _ _ _ _ _ _ _ _
   | exact num_Cmp.mono _ _ _ _ _
   | exact value_beside.mono _ _
   | exact value_taken.mono _ _ _ _ _ _ _
   | exact LeO.none _
   | refine LeO.ite ?_ ?_
   | refine LeO.bind ?_ (fun _ => ?_)
theorem value_Cmp.mono : ∀ a0 a1 a2 a3 a4 a5 a6 a7 a8 a9 a10 a11 k, LeO (value_Cmp.f k a0 a1 a2 a3 a4 a5 a6 a7 a8 a9 a10 a11) (value_Cmp.f (k + 1) a0 a1 a2 a3 a4 a5 a6 a7 a8 a9 a10 a11) := by
 intro a0 a1 a2 a3 a4 a5 a6 a7 a8 a9 a10 a11 k
 obtain ⟨ih0, ih1⟩ := value_Cmp.mono_l k
 unfold value_Cmp.f
 repeat' first
   | (with_reducible exact ih0 _ _ _ _ _ _ _ _ _ _ _ _)
   | (with_reducible exact ih1 _ _ _ _ _ _ _ _ _ _ _ _)
   | (with_reducible exact num_Cmp.mono _ _ _ _ _)
   | (with_reducible exact value_beside.mono _ _)
   | (with_reducible exact value_taken.mono _ _ _ _ _ _ _)
   | (with_reducible exact LeO.refl _)
   | (with_reducible exact LeO.none _)
   | (with_reducible refine LeO.ite ?_ ?_)
   | (with_reducible refine LeO.bind ?_ (fun _ => ?_))
   | exact ih0 _ _ _ _ _ _ _ _ _ _ _ _
   | exact ih1 _ _ _ _ _ _ _ _ _ _ _ _
   | exact num_Cmp.mono _ _ _ _ _
   | exact value_beside.mono _ _
   | exact value_taken.mono _ _ _ _ _ _ _
   | exact LeO.none _
   | refine LeO.ite ?_ ?_
   | refine LeO.bind ?_ (fun _ => ?_)
set_option maxHeartbeats 8000000 in
set_option maxRecDepth 100000 in
theorem value_Cmp.calls (k : Nat) (a0_0 : Int) (a0_1 : Int) (a0_2 : Int) (a0_3 : ByteArray) (a0_4 : Bool) (a0_5 : Int) (a1_0 : Int) (a1_1 : Int) (a1_2 : Int) (a1_3 : ByteArray) (a1_4 : Bool) (a1_5 : Int) (r : Int) (w : World) (h : value_Cmp.f k a0_0 a0_1 a0_2 a0_3 a0_4 a0_5 a1_0 a1_1 a1_2 a1_3 a1_4 a1_5 = some r) :
  Calls Tryz.prog 19 #[.agg #[.int .i64 a0_0, .int .i64 a0_1, .int .i64 a0_2, .string a0_3, .bool a0_4, .int .i64 a0_5], .agg #[.int .i64 a1_0, .int .i64 a1_1, .int .i64 a1_2, .string a1_3, .bool a1_4, .int .i64 a1_5]] w fun e w' => e = .returned (.int .i64 r) ∧ Below w.heap.size w w' := by
 have hu25 := Tryz.underlying25
 have hu23 := Tryz.underlying23
 have BX := Bx.start w
 have H : ((value_taken.f k a0_0 a0_1 a0_2 a0_3 a0_4 a0_5).bind fun bt175 => ((value_taken.f k a1_0 a1_1 a1_2 a1_3 a1_4 a1_5).bind fun bt181 => (if bt175.1 = 0 then ((value_beside.f k bt181.1).bind fun bt187 => (value_Cmp.j0 k bt187.1 bt187.2.1 bt187.2.2.1 bt187.2.2.2.1 bt187.2.2.2.2.1 bt187.2.2.2.2.2 bt181.1 bt181.2.1 bt181.2.2.1 bt181.2.2.2.1 bt181.2.2.2.2.1 bt181.2.2.2.2.2)) else (value_Cmp.j0 k bt175.1 bt175.2.1 bt175.2.2.1 bt175.2.2.2.1 bt175.2.2.2.2.1 bt175.2.2.2.2.2 bt181.1 bt181.2.1 bt181.2.2.1 bt181.2.2.2.1 bt181.2.2.2.2.1 bt181.2.2.2.2.2)))) = some r := h
 clear h
 replace H := Option.bind_eq_some_iff.mp H
 obtain ⟨⟨t175, t176, t177, t178, t179, t180⟩, A30, H⟩ := H
 have A3 := Aside0.mk A30
 clear A30
 replace H := Option.bind_eq_some_iff.mp H
 obtain ⟨⟨t181, t182, t183, t184, t185, t186⟩, A40, H⟩ := H
 replace H : (if t175 = 0 then ((value_beside.f k t181).bind fun bt187 => (value_Cmp.j0 k bt187.1 bt187.2.1 bt187.2.2.1 bt187.2.2.2.1 bt187.2.2.2.2.1 bt187.2.2.2.2.2 t181 t182 t183 t184 t185 t186)) else (value_Cmp.j0 k t175 t176 t177 t178 t179 t180 t181 t182 t183 t184 t185 t186)) = some r := H
 have A4 := Aside0.mk A40
 clear A40
 have HC5 := Aside0.mk H
 clear H
 go_enter Tryz.func19, Tryz.ntmps19
 try go_wp2_with (first | ((with_reducible refine gate_dst (N := 2) rfl ?_); refine bxe 2 #[.int .i64 a0_0, .int .i64 a0_1, .int .i64 a0_2, .string a0_3, .bool a0_4, .int .i64 a0_5] 25 rfl rfl gr ?_; clear BX; intro gb173 w6 GE173 BX) | ((with_reducible refine gate_dst (N := 3) rfl ?_); refine bxe 3 #[.int .i64 a1_0, .int .i64 a1_1, .int .i64 a1_2, .string a1_3, .bool a1_4, .int .i64 a1_5] 25 rfl rfl gr ?_; clear BX; intro gb174 w7 GE174 BX))
 refine startm [true, true] (n := 6) (ds := [4, 5]) #[false, false, false, false, false, false] kr rfl rfl (fun BX1 => ?_)
 clear BX
 have BX := BX1
 clear BX1
 generalize w7.drew = w8 at BX ⊢
 refine take_ (i := 0) (N := some 5) (v := ?_) (a' := ?_) #[true, false, false, false, false, false] rfl rfl kr (fun _ _ _ h => h) (Or.inl ⟨by rfl, ?_⟩) bxs ?_ ?_
 rotate_left
 ·intro w' hS
  go_simp
  with_reducible rfl
 rotate_left
 ·simp only [Act.put, List.setIfInBounds_toArray, List.set_cons_zero, List.set_cons_succ, i64_w, i32_w]
  rfl
 refine take_ (i := 2) (N := some 7) (v := ?_) (a' := ?_) #[true, false, true, false, false, false] rfl rfl kr (fun _ _ _ h => h) (Or.inl ⟨by rfl, ?_⟩) bxs ?_ ?_
 rotate_left
 ·intro w' hS
  go_simp
  with_reducible rfl
 rotate_left
 ·simp only [Act.put, List.setIfInBounds_toArray, List.set_cons_zero, List.set_cons_succ, i64_w, i32_w]
  rfl
 refine one_ (i := 1) (N := some 6) #[true, true, true, false, false, false] rfl rfl kr (by decide) (fun K hK => ?_)
 refine goes_ Tryz.func15 kr rfl #[.agg #[.int .i64 a0_0, .int .i64 a0_1, .int .i64 a0_2, .string a0_3, .bool a0_4, .int .i64 a0_5]] (by rfl) rfl rfl ga ?_
 with_reducible refine (value_taken.calls k a0_0 a0_1 a0_2 a0_3 a0_4 a0_5 t175 t176 t177 t178 t179 t180 _ A3.out).mono ?_
 rintro e w9 ⟨rfl, hb⟩
 refine ⟨_, rfl, ?_⟩
 replace BX := bx_call hb
 clear hb
 refine hK.out _ _ bxs (fun hHeld => ?_)
 clear hK K hHeld
 refine norm_ (a' := ?_) ?_ ?_
 rotate_left
 ·show Act.put _ (some 6) _ = _
  simp only [Act.put, List.setIfInBounds_toArray, List.set_cons_zero, List.set_cons_succ, i64_w, i32_w]
  rfl
 refine one_ (i := 3) (N := some 8) #[true, true, true, true, false, false] rfl rfl kr (by decide) (fun K hK => ?_)
 refine goes_ Tryz.func15 kr rfl #[.agg #[.int .i64 a1_0, .int .i64 a1_1, .int .i64 a1_2, .string a1_3, .bool a1_4, .int .i64 a1_5]] (by rfl) rfl rfl ga ?_
 with_reducible refine (value_taken.calls k a1_0 a1_1 a1_2 a1_3 a1_4 a1_5 t181 t182 t183 t184 t185 t186 _ A4.out).mono ?_
 rintro e w10 ⟨rfl, hb⟩
 refine ⟨_, rfl, ?_⟩
 replace BX := bx_call hb
 clear hb
 refine hK.out _ _ bxs (fun hHeld => ?_)
 clear hK K hHeld
 refine norm_ (a' := ?_) ?_ ?_
 rotate_left
 ·show Act.put _ (some 8) _ = _
  simp only [Act.put, List.setIfInBounds_toArray, List.set_cons_zero, List.set_cons_succ, i64_w, i32_w]
  rfl
 refine last_ (i := 4) (N := none) #[true, true, true, true, true, false] rfl rfl kr (by decide) (fun K hK => ?_)
 refine skip_ (w1 := ?_) (by rfl) rfl ?_ ?_
 rotate_left
 ·go_simp
  rfl
 refine hK.out _ _ ?_
 clear hK K
 refine last_ (i := 5) (N := none) #[true, true, true, true, true, true] rfl rfl kr (by decide) (fun K hK => ?_)
 refine skip_ (w1 := ?_) (by rfl) rfl ?_ ?_
 rotate_left
 ·go_simp
  rfl
 refine hK.out _ _ ?_
 clear hK K
 refine done_ kr ?_
 go_upto_if 11 with (fail)
 go_cut [] (fun wc => ∃ (kq : Nat) (x174000_4 : Int) (x174001_4 : Int) (x174002_4 : Int) (x174003_4 : ByteArray) (x174004_4 : Bool) (x174005_4 : Int), Aside0 (value_Cmp.j0 kq x174000_4 x174001_4 x174002_4 x174003_4 x174004_4 x174005_4 t181 t182 t183 t184 t185 t186 = some r) ∧ Aside0 (kq ≤ k) ∧ Bx w wc [(gb174, 25, #[.int .i64 t181, .int .i64 t182, .int .i64 t183, .string t184, .bool t185, .int .i64 t186]), (gb173, 25, #[.int .i64 x174000_4, .int .i64 x174001_4, .int .i64 x174002_4, .string x174003_4, .bool x174004_4, .int .i64 x174005_4])])
 case first =>
  have H := HC5.out
  clear HC5
  by_cases c25 : t175 = 0
  ·rw [if_pos c25] at H
   have c25b0 : (t175 == 0) = true := beq_iff_eq.mpr c25
   have c25b1 : (t175 != 0) = false := bne_eq_false_iff_eq.mpr c25
   clear c25
   (first | rw [c25b0] | (simp only [i64_w, i32_w]; rw [c25b0]) | skip)
   replace H := Option.bind_eq_some_iff.mp H
   obtain ⟨⟨t187, t188, t189, t190, t191, t192⟩, A260, H⟩ := H
   replace H : (value_Cmp.j0 k t187 t188 t189 t190 t191 t192 t181 t182 t183 t184 t185 t186) = some r := H
   have A26 := Aside0.mk A260
   clear A260
   have H' := Aside0.mk H
   clear H
   go_wp2_with (first | ((with_reducible refine gate_callee (f := 37) rfl ?_); refine goesL_ (some 14) rfl rfl Tryz.func37 kr rfl #[.int .i64 t181] rfl ga ?_; (with_reducible refine (value_beside.calls k t181 t187 t188 t189 t190 t191 t192 _ A26.out).mono ?_); rintro e w29 ⟨rfl, hb⟩; refine ⟨_, rfl, ?_⟩; replace BX := bx_call hb; clear hb))
   go_meet
   case rel => exact ⟨_, (t187), (t188), (t189), (t190), (t191), (t192), H', ⟨by first | omega | exact Nat.le_refl _⟩, bxs⟩
  ·rw [if_neg c25] at H
   have c25b0 : (t175 == 0) = false := beq_eq_false_iff_ne.mpr c25
   have c25b1 : (t175 != 0) = true := bne_iff_ne.mpr c25
   (first | rw [c25b0] | (simp only [i64_w, i32_w]; rw [c25b0]) | skip)
   have H' := Aside0.mk H
   clear H
   go_wp2
   go_meet
   case rel => exact ⟨_, (t175), (t176), (t177), (t178), (t179), (t180), H', ⟨by first | omega | exact Nat.le_refl _⟩, bxs⟩
 case rest =>
  clear HC5
  try clear c1
  try clear c2
  try clear p2
  try clear c3
  try clear c15
  try clear c19
  try clear c23
  try clear c25
  try clear c25b0
  try clear c25b1
  try clear c27
  obtain ⟨kq, x174000_4, x174001_4, x174002_4, x174003_4, x174004_4, x174005_4, HA, HJ4, BX⟩ := hcut
  cases kq with
  | zero => exact absurd HA.out (by simp [value_Cmp.j0])
  | succ kj4 =>
   have H := HA.out
   clear HA
   simp only [value_Cmp.j0] at H
   have HC31 := Aside0.mk H
   clear H
   go_upto_if 17 with (fail)
   go_cut [] (fun wc => ∃ (kq : Nat) (x175000_30 : Int) (x175001_30 : Int) (x175002_30 : Int) (x175003_30 : ByteArray) (x175004_30 : Bool) (x175005_30 : Int), Aside0 (value_Cmp.j1 kq x174000_4 x174001_4 x174002_4 x174003_4 x174004_4 x174005_4 x175000_30 x175001_30 x175002_30 x175003_30 x175004_30 x175005_30 = some r) ∧ Aside0 (kq ≤ kj4) ∧ Bx w wc [(gb174, 25, #[.int .i64 x175000_30, .int .i64 x175001_30, .int .i64 x175002_30, .string x175003_30, .bool x175004_30, .int .i64 x175005_30]), (gb173, 25, #[.int .i64 x174000_4, .int .i64 x174001_4, .int .i64 x174002_4, .string x174003_4, .bool x174004_4, .int .i64 x174005_4])])
   case first =>
    have H := HC31.out
    clear HC31
    by_cases c34 : t181 = 0
    ·rw [if_pos c34] at H
     have c34b0 : (t181 == 0) = true := beq_iff_eq.mpr c34
     have c34b1 : (t181 != 0) = false := bne_eq_false_iff_eq.mpr c34
     clear c34
     (first | rw [c34b0] | (simp only [i64_w, i32_w]; rw [c34b0]) | skip)
     replace H := Option.bind_eq_some_iff.mp H
     obtain ⟨⟨t193, t194, t195, t196, t197, t198⟩, A350, H⟩ := H
     replace H : (value_Cmp.j1 kj4 x174000_4 x174001_4 x174002_4 x174003_4 x174004_4 x174005_4 t193 t194 t195 t196 t197 t198) = some r := H
     have A35 := Aside0.mk A350
     clear A350
     have H' := Aside0.mk H
     clear H
     go_wp2_with (first | ((with_reducible refine gate_callee (f := 37) rfl ?_); refine goesL_ (some 20) rfl rfl Tryz.func37 kr rfl #[.int .i64 x174000_4] rfl ga ?_; (with_reducible refine (value_beside.calls kj4 x174000_4 t193 t194 t195 t196 t197 t198 _ A35.out).mono ?_); rintro e w38 ⟨rfl, hb⟩; refine ⟨_, rfl, ?_⟩; replace BX := bx_call hb; clear hb))
     go_meet
     case rel => exact ⟨_, (t193), (t194), (t195), (t196), (t197), (t198), H', ⟨by have := HJ4.out; first | omega | exact Nat.le_refl _⟩, bxs⟩
    ·rw [if_neg c34] at H
     have c34b0 : (t181 == 0) = false := beq_eq_false_iff_ne.mpr c34
     have c34b1 : (t181 != 0) = true := bne_iff_ne.mpr c34
     (first | rw [c34b0] | (simp only [i64_w, i32_w]; rw [c34b0]) | skip)
     have H' := Aside0.mk H
     clear H
     go_wp2
     go_meet
     case rel => exact ⟨_, (t181), (t182), (t183), (t184), (t185), (t186), H', ⟨by have := HJ4.out; first | omega | exact Nat.le_refl _⟩, bxs⟩
   case rest =>
    clear HC31
    try clear c1
    try clear c2
    try clear p2
    try clear c3
    try clear c15
    try clear c19
    try clear c23
    try clear c25
    try clear c25b0
    try clear c25b1
    try clear c27
    try clear c32
    try clear c34
    try clear c34b0
    try clear c34b1
    try clear c36
    try clear c37
    try clear p2
    obtain ⟨kq, x175000_30, x175001_30, x175002_30, x175003_30, x175004_30, x175005_30, HA, HJ30, BX⟩ := hcut
    cases kq with
    | zero => exact absurd HA.out (by simp [value_Cmp.j1])
    | succ kj30 =>
     have H := HA.out
     clear HA
     simp only [value_Cmp.j1] at H
     by_cases c40 : x174000_4 < x175000_30
     ·rw [if_pos c40] at H
      have c40b0 : decide (x174000_4 < x175000_30) = true := decide_eq_true c40
      clear c40
      obtain rfl := Option.some.inj H
      go_wp2
      go_ret
      exact ⟨er2, bx_bl⟩
     ·rw [if_neg c40] at H
      have c40b0 : decide (x174000_4 < x175000_30) = false := decide_eq_false c40
      clear c40
      by_cases c44 : x174000_4 > x175000_30
      ·rw [if_pos c44] at H
       have c44b0 : decide (x175000_30 < x174000_4) = true := decide_eq_true c44
       clear c44
       obtain rfl := Option.some.inj H
       go_wp2
       go_ret
       exact ⟨er2, bx_bl⟩
      ·rw [if_neg c44] at H
       have c44b0 : decide (x175000_30 < x174000_4) = false := decide_eq_false c44
       clear c44
       by_cases c48 : x174000_4 = 1
       ·rw [if_pos c48] at H
        have c48b0 : (x174000_4 == 1) = true := beq_iff_eq.mpr c48
        have c48b1 : (x174000_4 != 1) = false := bne_eq_false_iff_eq.mpr c48
        clear c48
        replace H := Option.bind_eq_some_iff.mp H
        obtain ⟨t199, A490, H⟩ := H
        replace H : (some t199) = some r := H
        have A49 := Aside0.mk A490
        clear A490
        obtain rfl := Option.some.inj H
        go_wp2_with (first | ((with_reducible refine gate_callee (f := 38) rfl ?_); refine goesL_ (some 41) rfl rfl Tryz.func38 kr rfl #[.agg #[.int .i64 x174001_4, .int .i64 x174002_4], .agg #[.int .i64 x175001_30, .int .i64 x175002_30]] rfl ga ?_; (with_reducible refine (num_Cmp.calls kj30 x174001_4 x174002_4 x175001_30 x175002_30 t199 _ A49.out).mono ?_); rintro e w53 ⟨rfl, hb⟩; refine ⟨_, rfl, ?_⟩; replace BX := bx_call hb; clear hb))
        go_ret
        exact ⟨er2, bx_bl⟩
       ·rw [if_neg c48] at H
        have c48b0 : (x174000_4 == 1) = false := beq_eq_false_iff_ne.mpr c48
        have c48b1 : (x174000_4 != 1) = true := bne_iff_ne.mpr c48
        by_cases c54 : x174000_4 = 2
        ·rw [if_pos c54] at H
         have c54b0 : (x174000_4 == 2) = true := beq_iff_eq.mpr c54
         have c54b1 : (x174000_4 != 2) = false := bne_eq_false_iff_eq.mpr c54
         clear c54
         replace H := Option.bind_eq_some_iff.mp H
         obtain ⟨t200, A550, H⟩ := H
         replace H : (some t200) = some r := H
         have A55 := Aside0.mk A550
         clear A550
         obtain rfl := Option.some.inj H
         go_wp2_with (first | ((with_reducible refine gate_callee (f := 39) rfl ?_); refine goesL_ (some 50) rfl rfl Tryz.func39 kr rfl #[.string x174003_4, .string x175003_30] rfl ga ?_; (with_reducible refine (strings_Compare.calls x174003_4 x175003_30 t200 _ A55.out).mono ?_); rintro e w' ⟨rfl, ⟨nd, rfl⟩⟩; refine ⟨_, rfl, ?_⟩))
         go_ret
         exact ⟨er2, bx_bl⟩
        ·rw [if_neg c54] at H
         have c54b0 : (x174000_4 == 2) = false := beq_eq_false_iff_ne.mpr c54
         have c54b1 : (x174000_4 != 2) = true := bne_iff_ne.mpr c54
         by_cases c59 : x174000_4 = 4
         ·rw [if_pos c59] at H
          have c59b0 : (x174000_4 == 4) = true := beq_iff_eq.mpr c59
          have c59b1 : (x174000_4 != 4) = false := bne_eq_false_iff_eq.mpr c59
          clear c59
          obtain ⟨ji60, hji60⟩ : ∃ j_ : Int, (mn 1 (wrap64 (x174005_4 - x175005_30))) = j_ := ⟨_, rfl⟩
          replace H : (some (mx (-1) (ji60))) = some r := by first | (rw [hji60] at H; exact H) | (simp only [hji60] at H ⊢; exact H)
          have hji60_ : (if (wrap64 (x174005_4 - x175005_30)) < 1 then (wrap64 (x174005_4 - x175005_30)) else 1) = ji60 := hji60
          obtain ⟨ji61, hji61⟩ : ∃ j_ : Int, (mx (-1) (ji60)) = j_ := ⟨_, rfl⟩
          replace H : (some ji61) = some r := by first | (rw [hji61] at H; exact H) | (simp only [hji61] at H ⊢; exact H)
          have hji61_ : (if (-1) < (ji60) then (ji60) else (-1)) = ji61 := hji61
          obtain rfl := Option.some.inj H
          go_wp2
          go_ret
          exact ⟨by first | rfl | (simp [errW_none, errW_some] <;> rfl) | (simp only [← hji60, ← hji61]; first | rfl | (simp [errW_none, errW_some] <;> rfl)) | (simp [*, errW_none, errW_some] <;> rfl), bx_bl⟩
         ·rw [if_neg c59] at H
          have c59b0 : (x174000_4 == 4) = false := beq_eq_false_iff_ne.mpr c59
          have c59b1 : (x174000_4 != 4) = true := bne_iff_ne.mpr c59
          by_cases c65 : (x174004_4 == x175004_30) = true
          ·rw [if_pos c65] at H
           have c65b0 : (x174004_4 == x175004_30) = true := c65
           (try (have c65b1 : decide (x174004_4 = x175004_30) = true := by simpa using c65))
           (try (have c65b2 : (x174004_4 == x175004_30) = true := by simpa using c65))
           clear c65
           obtain rfl := Option.some.inj H
           go_wp2
           go_ret
           exact ⟨er2, bx_bl⟩
          ·rw [if_neg c65] at H
           have c65b0 : (x174004_4 == x175004_30) = false := by simpa using c65
           (try (have c65b1 : decide (x174004_4 = x175004_30) = false := by simpa using c65))
           (try (have c65b2 : (x174004_4 == x175004_30) = false := by simpa using c65))
           (try (have c65b3 : ¬ (x174004_4 = x175004_30) := by simpa using c65))
           clear c65
           by_cases c69 : x175004_30 = true
           ·subst c69
            have H1 : (some (-1)) = some r := by rw [if_pos rfl] at H; exact H
            clear H
            have H := H1
            clear H1
            obtain rfl := Option.some.inj H
            go_wp2
            go_ret
            exact ⟨er2, bx_bl⟩
           ·replace c69 := Bool.eq_false_iff.mpr c69
            subst c69
            have H1 : (some 1) = some r := by rw [if_neg (show ¬ (false = true) by decide)] at H; exact H
            clear H
            have H := H1
            clear H1
            obtain rfl := Option.some.inj H
            go_wp2
            go_ret
            exact ⟨er2, bx_bl⟩
end
section
/-! ### value_AsText: function 20 -/
def value_AsText.f (k : Nat) (a0_0 : Int) (a0_1 : Int) (a0_2 : Int) (a0_3 : ByteArray) (a0_4 : Bool) (a0_5 : Int) : Option (ByteArray × Int × Int × Int × ByteArray × Bool × Int) := (value_taken.f k a0_0 a0_1 a0_2 a0_3 a0_4 a0_5).bind fun bt212 => (if bt212.1 = 4 then (some ((⟨#[]⟩ : ByteArray), bt212.1, bt212.2.1, bt212.2.2.1, bt212.2.2.2.1, bt212.2.2.2.2.1, bt212.2.2.2.2.2)) else (if bt212.1 = 1 then ((num_Text.f k bt212.2.1 bt212.2.2.1).bind fun t218 => ((value_Blank.f).bind fun bt219 => (some (t218, bt219.1, bt219.2.1, bt219.2.2.1, bt219.2.2.2.1, bt219.2.2.2.2.1, bt219.2.2.2.2.2)))) else (if bt212.1 = 3 then ((value_word.f bt212.2.2.2.2.1).bind fun t225 => ((value_Blank.f).bind fun bt226 => (some (t225, bt226.1, bt226.2.1, bt226.2.2.1, bt226.2.2.2.1, bt226.2.2.2.2.1, bt226.2.2.2.2.2)))) else ((value_Blank.f).bind fun bt232 => (some (bt212.2.2.2.1, bt232.1, bt232.2.1, bt232.2.2.1, bt232.2.2.2.1, bt232.2.2.2.2.1, bt232.2.2.2.2.2))))))
theorem value_AsText.mono : ∀ a0 a1 a2 a3 a4 a5 k, LeO (value_AsText.f k a0 a1 a2 a3 a4 a5) (value_AsText.f (k + 1) a0 a1 a2 a3 a4 a5) := by
 intro a0 a1 a2 a3 a4 a5 k
 unfold value_AsText.f
 repeat' first
   | (with_reducible exact num_Text.mono _ _ _)
   | (with_reducible exact value_taken.mono _ _ _ _ _ _ _)
   | (with_reducible exact LeO.refl _)
   | (with_reducible exact LeO.none _)
   | (with_reducible refine LeO.ite ?_ ?_)
   | (with_reducible refine LeO.bind ?_ (fun _ => ?_))
   | exact num_Text.mono _ _ _
   | exact value_taken.mono _ _ _ _ _ _ _
   | exact LeO.none _
   | refine LeO.ite ?_ ?_
   | refine LeO.bind ?_ (fun _ => ?_)
set_option maxHeartbeats 8000000 in
set_option maxRecDepth 100000 in
theorem value_AsText.calls (k : Nat) (a0_0 : Int) (a0_1 : Int) (a0_2 : Int) (a0_3 : ByteArray) (a0_4 : Bool) (a0_5 : Int) (r1 : ByteArray) (r2 : Int) (r3 : Int) (r4 : Int) (r5 : ByteArray) (r6 : Bool) (r7 : Int) (w : World) (HT0 : TabAt w) (h : value_AsText.f k a0_0 a0_1 a0_2 a0_3 a0_4 a0_5 = some (r1, r2, r3, r4, r5, r6, r7)) :
  Calls Tryz.prog 20 #[.agg #[.int .i64 a0_0, .int .i64 a0_1, .int .i64 a0_2, .string a0_3, .bool a0_4, .int .i64 a0_5]] w fun e w' => e = .returned (.tuple #[.string r1, .agg #[.int .i64 r2, .int .i64 r3, .int .i64 r4, .string r5, .bool r6, .int .i64 r7]]) ∧ Below w.heap.size w w' := by
 have hu25 := Tryz.underlying25
 have hu23 := Tryz.underlying23
 have HT := Aside0.mk HT0
 clear HT0
 have BX := Bx.start w
 have H : ((value_taken.f k a0_0 a0_1 a0_2 a0_3 a0_4 a0_5).bind fun bt212 => (if bt212.1 = 4 then (some ((⟨#[]⟩ : ByteArray), bt212.1, bt212.2.1, bt212.2.2.1, bt212.2.2.2.1, bt212.2.2.2.2.1, bt212.2.2.2.2.2)) else (if bt212.1 = 1 then ((num_Text.f k bt212.2.1 bt212.2.2.1).bind fun t218 => ((value_Blank.f).bind fun bt219 => (some (t218, bt219.1, bt219.2.1, bt219.2.2.1, bt219.2.2.2.1, bt219.2.2.2.2.1, bt219.2.2.2.2.2)))) else (if bt212.1 = 3 then ((value_word.f bt212.2.2.2.2.1).bind fun t225 => ((value_Blank.f).bind fun bt226 => (some (t225, bt226.1, bt226.2.1, bt226.2.2.1, bt226.2.2.2.1, bt226.2.2.2.2.1, bt226.2.2.2.2.2)))) else ((value_Blank.f).bind fun bt232 => (some (bt212.2.2.2.1, bt232.1, bt232.2.1, bt232.2.2.1, bt232.2.2.2.1, bt232.2.2.2.2.1, bt232.2.2.2.2.2))))))) = some (r1, r2, r3, r4, r5, r6, r7) := h
 clear h
 replace H := Option.bind_eq_some_iff.mp H
 obtain ⟨⟨t212, t213, t214, t215, t216, t217⟩, A20, H⟩ := H
 replace H : (if t212 = 4 then (some ((⟨#[]⟩ : ByteArray), t212, t213, t214, t215, t216, t217)) else (if t212 = 1 then ((num_Text.f k t213 t214).bind fun t218 => ((value_Blank.f).bind fun bt219 => (some (t218, bt219.1, bt219.2.1, bt219.2.2.1, bt219.2.2.2.1, bt219.2.2.2.2.1, bt219.2.2.2.2.2)))) else (if t212 = 3 then ((value_word.f t216).bind fun t225 => ((value_Blank.f).bind fun bt226 => (some (t225, bt226.1, bt226.2.1, bt226.2.2.1, bt226.2.2.2.1, bt226.2.2.2.2.1, bt226.2.2.2.2.2)))) else ((value_Blank.f).bind fun bt232 => (some (t215, bt232.1, bt232.2.1, bt232.2.2.1, bt232.2.2.2.1, bt232.2.2.2.2.1, bt232.2.2.2.2.2)))))) = some (r1, r2, r3, r4, r5, r6, r7) := H
 have A2 := Aside0.mk A20
 clear A20
 by_cases c3 : t212 = 4
 ·rw [if_pos c3] at H
  have c3b0 : (t212 == 4) = true := beq_iff_eq.mpr c3
  have c3b1 : (t212 != 4) = false := bne_eq_false_iff_eq.mpr c3
  clear c3
  simp only [Option.some.injEq, Prod.mk.injEq] at H
  obtain ⟨rfl, rfl, rfl, rfl, rfl, rfl, rfl⟩ := H
  go_enter Tryz.func20, Tryz.ntmps20
  try go_wp2_with (first | ((with_reducible refine gate_dst (N := 1) rfl ?_); refine bxe 1 #[.int .i64 a0_0, .int .i64 a0_1, .int .i64 a0_2, .string a0_3, .bool a0_4, .int .i64 a0_5] 25 rfl rfl gr ?_; clear BX; intro gb210 w4 GE210 BX) | ((with_reducible refine gate_dst (N := 3) rfl ?_); refine bxe 3 #[.int .i64 0, .int .i64 0, .int .i64 0, .string (⟨#[]⟩ : ByteArray), .bool false, .int .i64 0] 25 rfl rfl gr ?_; clear BX; intro gb211 w5 GE211 BX) | ((with_reducible refine gate_callee (f := 15) rfl ?_); refine goesL_ (some 5) rfl rfl Tryz.func15 kr rfl #[.agg #[.int .i64 a0_0, .int .i64 a0_1, .int .i64 a0_2, .string a0_3, .bool a0_4, .int .i64 a0_5]] rfl ga ?_; (with_reducible refine (value_taken.calls k a0_0 a0_1 a0_2 a0_3 a0_4 a0_5 t212 t213 t214 t215 t216 t217 _ A2.out).mono ?_); rintro e w8 ⟨rfl, hb⟩; refine ⟨_, rfl, ?_⟩; replace BX := bx_call hb; clear hb))
  replace BX : Bx w ((((((w8.setCell ⟨gb210, 0, none⟩ (.int .i64 t212)).setCell ⟨gb210, 1, none⟩ (.int .i64 t213)).setCell ⟨gb210, 2, none⟩ (.int .i64 t214)).setCell ⟨gb210, 3, none⟩ (.string t215)).setCell ⟨gb210, 4, none⟩ (.bool t216)).setCell ⟨gb210, 5, none⟩ (.int .i64 t217)) _ := bxi
  generalize ((((((w8.setCell ⟨gb210, 0, none⟩ (.int .i64 t212)).setCell ⟨gb210, 1, none⟩ (.int .i64 t213)).setCell ⟨gb210, 2, none⟩ (.int .i64 t214)).setCell ⟨gb210, 3, none⟩ (.string t215)).setCell ⟨gb210, 4, none⟩ (.bool t216)).setCell ⟨gb210, 5, none⟩ (.int .i64 t217)) = w10 at BX ⊢
  refine startm [false, true] (n := 3) (ds := []) #[false, false, false] kr rfl rfl (fun BX1 => ?_)
  clear BX
  have BX := BX1
  clear BX1
  generalize w10.drew = w11 at BX ⊢
  refine pure_ (i := 1) (N := some 2) (v := ?_) (a' := ?_) #[false, true, false] rfl rfl kr (fun _ _ _ h => h) (Or.inl ⟨by rfl, ?_⟩) ?_ ?_
  rotate_left
  ·intro w'
   go_simp
   with_reducible rfl
  rotate_left
  ·simp only [Act.put, List.setIfInBounds_toArray, List.set_cons_zero, List.set_cons_succ, i64_w, i32_w]
   rfl
  refine take_ (i := 0) (N := some 10) (v := ?_) (a' := ?_) #[true, true, false] rfl rfl kr (fun _ _ _ h => h) (Or.inl ⟨by rfl, ?_⟩) bxs ?_ ?_
  rotate_left
  ·intro w' hS
   go_simp
   with_reducible rfl
  rotate_left
  ·simp only [Act.put, List.setIfInBounds_toArray, List.set_cons_zero, List.set_cons_succ, i64_w, i32_w]
   rfl
  refine one_ (i := 2) (N := none) #[true, true, true] rfl rfl kr (by decide) (fun K hK => ?_)
  refine skip_ (w1 := ?_) (by rfl) rfl ?_ ?_
  rotate_left
  ·go_simp
   rfl
  refine hK.out _ _ bxs (fun hHeld => ?_)
  clear hK K hHeld
  refine done_ kr ?_
  try go_wp2
  refine bodyPost_ret (results_tc rfl _ _ gb211 25 #[.int .i64 t212, .int .i64 t213, .int .i64 t214, .string t215, .bool t216, .int .i64 t217] (0, 0) _ rfl bx_get Tryz.underlying25 rfl kr) rfl ?_
  exact ⟨er2, bx_bl⟩
 ·rw [if_neg c3] at H
  have c3b0 : (t212 == 4) = false := beq_eq_false_iff_ne.mpr c3
  have c3b1 : (t212 != 4) = true := bne_iff_ne.mpr c3
  by_cases c18 : t212 = 1
  ·rw [if_pos c18] at H
   have c18b0 : (t212 == 1) = true := beq_iff_eq.mpr c18
   have c18b1 : (t212 != 1) = false := bne_eq_false_iff_eq.mpr c18
   clear c18
   replace H := Option.bind_eq_some_iff.mp H
   obtain ⟨t218, A190, H⟩ := H
   have A19 := Aside0.mk A190
   clear A190
   replace H := Option.bind_eq_some_iff.mp H
   obtain ⟨⟨t219, t220, t221, t222, t223, t224⟩, A200, H⟩ := H
   replace H : (some (t218, t219, t220, t221, t222, t223, t224)) = some (r1, r2, r3, r4, r5, r6, r7) := H
   have A20 := Aside0.mk A200
   clear A200
   simp only [Option.some.injEq, Prod.mk.injEq] at H
   obtain ⟨rfl, rfl, rfl, rfl, rfl, rfl, rfl⟩ := H
   go_enter Tryz.func20, Tryz.ntmps20
   go_wp2_with (first | ((with_reducible refine gate_dst (N := 1) rfl ?_); refine bxe 1 #[.int .i64 a0_0, .int .i64 a0_1, .int .i64 a0_2, .string a0_3, .bool a0_4, .int .i64 a0_5] 25 rfl rfl gr ?_; clear BX; intro gb210 w21 GE210 BX) | ((with_reducible refine gate_dst (N := 3) rfl ?_); refine bxe 3 #[.int .i64 0, .int .i64 0, .int .i64 0, .string (⟨#[]⟩ : ByteArray), .bool false, .int .i64 0] 25 rfl rfl gr ?_; clear BX; intro gb211 w22 GE211 BX) | ((with_reducible refine gate_callee (f := 15) rfl ?_); refine goesL_ (some 5) rfl rfl Tryz.func15 kr rfl #[.agg #[.int .i64 a0_0, .int .i64 a0_1, .int .i64 a0_2, .string a0_3, .bool a0_4, .int .i64 a0_5]] rfl ga ?_; (with_reducible refine (value_taken.calls k a0_0 a0_1 a0_2 a0_3 a0_4 a0_5 t212 t213 t214 t215 t216 t217 _ A2.out).mono ?_); rintro e w25 ⟨rfl, hb⟩; refine ⟨_, rfl, ?_⟩; replace BX := bx_call hb; clear hb) | ((with_reducible refine gate_callee (f := 40) rfl ?_); refine goesL_ (some 15) rfl rfl Tryz.func40 kr rfl #[.agg #[.int .i64 t213, .int .i64 t214]] rfl ga ?_; (with_reducible refine (num_Text.calls k t213 t214 t218 _ ?side1 A19.out).mono ?_); (case side1 => exact HT.out.on bx_bl); rintro e w27 ⟨rfl, hb⟩; refine ⟨_, rfl, ?_⟩; replace BX := bx_call hb; clear hb) | ((with_reducible refine gate_callee (f := 35) rfl ?_); refine goesL_ (some 16) rfl rfl Tryz.func35 kr rfl #[] rfl ga ?_; (with_reducible refine (value_Blank.calls  t219 t220 t221 t222 t223 t224 _ A20.out).mono ?_); rintro e w28 ⟨rfl, hb⟩; refine ⟨_, rfl, ?_⟩; replace BX := bx_call hb; clear hb))
   refine bodyPost_ret (results_tc rfl _ _ gb211 25 #[.int .i64 t219, .int .i64 t220, .int .i64 t221, .string t222, .bool t223, .int .i64 t224] (0, 0) _ rfl bx_get Tryz.underlying25 rfl kr) rfl ?_
   exact ⟨er2, bx_bl⟩
  ·rw [if_neg c18] at H
   have c18b0 : (t212 == 1) = false := beq_eq_false_iff_ne.mpr c18
   have c18b1 : (t212 != 1) = true := bne_iff_ne.mpr c18
   by_cases c30 : t212 = 3
   ·rw [if_pos c30] at H
    have c30b0 : (t212 == 3) = true := beq_iff_eq.mpr c30
    have c30b1 : (t212 != 3) = false := bne_eq_false_iff_eq.mpr c30
    clear c30
    replace H := Option.bind_eq_some_iff.mp H
    obtain ⟨t225, A310, H⟩ := H
    have A31 := Aside0.mk A310
    clear A310
    replace H := Option.bind_eq_some_iff.mp H
    obtain ⟨⟨t226, t227, t228, t229, t230, t231⟩, A320, H⟩ := H
    replace H : (some (t225, t226, t227, t228, t229, t230, t231)) = some (r1, r2, r3, r4, r5, r6, r7) := H
    have A32 := Aside0.mk A320
    clear A320
    simp only [Option.some.injEq, Prod.mk.injEq] at H
    obtain ⟨rfl, rfl, rfl, rfl, rfl, rfl, rfl⟩ := H
    go_enter Tryz.func20, Tryz.ntmps20
    go_wp2_with (first | ((with_reducible refine gate_dst (N := 1) rfl ?_); refine bxe 1 #[.int .i64 a0_0, .int .i64 a0_1, .int .i64 a0_2, .string a0_3, .bool a0_4, .int .i64 a0_5] 25 rfl rfl gr ?_; clear BX; intro gb210 w33 GE210 BX) | ((with_reducible refine gate_dst (N := 3) rfl ?_); refine bxe 3 #[.int .i64 0, .int .i64 0, .int .i64 0, .string (⟨#[]⟩ : ByteArray), .bool false, .int .i64 0] 25 rfl rfl gr ?_; clear BX; intro gb211 w34 GE211 BX) | ((with_reducible refine gate_callee (f := 15) rfl ?_); refine goesL_ (some 5) rfl rfl Tryz.func15 kr rfl #[.agg #[.int .i64 a0_0, .int .i64 a0_1, .int .i64 a0_2, .string a0_3, .bool a0_4, .int .i64 a0_5]] rfl ga ?_; (with_reducible refine (value_taken.calls k a0_0 a0_1 a0_2 a0_3 a0_4 a0_5 t212 t213 t214 t215 t216 t217 _ A2.out).mono ?_); rintro e w37 ⟨rfl, hb⟩; refine ⟨_, rfl, ?_⟩; replace BX := bx_call hb; clear hb) | ((with_reducible refine gate_callee (f := 36) rfl ?_); refine goesL_ (some 21) rfl rfl Tryz.func36 kr rfl #[.bool t216] rfl ga ?_; (with_reducible refine (value_word.calls t216 t225 _ A31.out).mono ?_); rintro e w' ⟨rfl, ⟨nd, rfl⟩⟩; refine ⟨_, rfl, ?_⟩) | ((with_reducible refine gate_callee (f := 35) rfl ?_); refine goesL_ (some 22) rfl rfl Tryz.func35 kr rfl #[] rfl ga ?_; (with_reducible refine (value_Blank.calls  t226 t227 t228 t229 t230 t231 _ A32.out).mono ?_); rintro e w39 ⟨rfl, hb⟩; refine ⟨_, rfl, ?_⟩; replace BX := bx_call hb; clear hb))
    refine bodyPost_ret (results_tc rfl _ _ gb211 25 #[.int .i64 t226, .int .i64 t227, .int .i64 t228, .string t229, .bool t230, .int .i64 t231] (0, 0) _ rfl bx_get Tryz.underlying25 rfl kr) rfl ?_
    exact ⟨er2, bx_bl⟩
   ·rw [if_neg c30] at H
    have c30b0 : (t212 == 3) = false := beq_eq_false_iff_ne.mpr c30
    have c30b1 : (t212 != 3) = true := bne_iff_ne.mpr c30
    replace H := Option.bind_eq_some_iff.mp H
    obtain ⟨⟨t232, t233, t234, t235, t236, t237⟩, A410, H⟩ := H
    replace H : (some (t215, t232, t233, t234, t235, t236, t237)) = some (r1, r2, r3, r4, r5, r6, r7) := H
    have A41 := Aside0.mk A410
    clear A410
    simp only [Option.some.injEq, Prod.mk.injEq] at H
    obtain ⟨rfl, rfl, rfl, rfl, rfl, rfl, rfl⟩ := H
    go_enter Tryz.func20, Tryz.ntmps20
    try go_wp2_with (first | ((with_reducible refine gate_dst (N := 1) rfl ?_); refine bxe 1 #[.int .i64 a0_0, .int .i64 a0_1, .int .i64 a0_2, .string a0_3, .bool a0_4, .int .i64 a0_5] 25 rfl rfl gr ?_; clear BX; intro gb210 w42 GE210 BX) | ((with_reducible refine gate_dst (N := 3) rfl ?_); refine bxe 3 #[.int .i64 0, .int .i64 0, .int .i64 0, .string (⟨#[]⟩ : ByteArray), .bool false, .int .i64 0] 25 rfl rfl gr ?_; clear BX; intro gb211 w43 GE211 BX) | ((with_reducible refine gate_callee (f := 15) rfl ?_); refine goesL_ (some 5) rfl rfl Tryz.func15 kr rfl #[.agg #[.int .i64 a0_0, .int .i64 a0_1, .int .i64 a0_2, .string a0_3, .bool a0_4, .int .i64 a0_5]] rfl ga ?_; (with_reducible refine (value_taken.calls k a0_0 a0_1 a0_2 a0_3 a0_4 a0_5 t212 t213 t214 t215 t216 t217 _ A2.out).mono ?_); rintro e w46 ⟨rfl, hb⟩; refine ⟨_, rfl, ?_⟩; replace BX := bx_call hb; clear hb))
    replace BX : Bx w ((((((w46.setCell ⟨gb210, 0, none⟩ (.int .i64 t212)).setCell ⟨gb210, 1, none⟩ (.int .i64 t213)).setCell ⟨gb210, 2, none⟩ (.int .i64 t214)).setCell ⟨gb210, 3, none⟩ (.string t215)).setCell ⟨gb210, 4, none⟩ (.bool t216)).setCell ⟨gb210, 5, none⟩ (.int .i64 t217)) _ := bxi
    generalize ((((((w46.setCell ⟨gb210, 0, none⟩ (.int .i64 t212)).setCell ⟨gb210, 1, none⟩ (.int .i64 t213)).setCell ⟨gb210, 2, none⟩ (.int .i64 t214)).setCell ⟨gb210, 3, none⟩ (.string t215)).setCell ⟨gb210, 4, none⟩ (.bool t216)).setCell ⟨gb210, 5, none⟩ (.int .i64 t217)) = w48 at BX ⊢
    refine startm [false, true] (n := 5) (ds := []) #[false, false, false, false, false] kr rfl rfl (fun BX1 => ?_)
    clear BX
    have BX := BX1
    clear BX1
    generalize w48.drew = w49 at BX ⊢
    refine pure_ (i := 0) (N := some 23) (v := ?_) (a' := ?_) #[true, false, false, false, false] rfl rfl kr (fun _ _ _ h => h) (Or.inl ⟨by rfl, ?_⟩) ?_ ?_
    rotate_left
    ·intro w'
     go_simp
     with_reducible rfl
    rotate_left
    ·simp only [Act.put, List.setIfInBounds_toArray, List.set_cons_zero, List.set_cons_succ, i64_w, i32_w]
     rfl
    refine take_ (i := 1) (N := some 24) (v := ?_) (a' := ?_) #[true, true, false, false, false] rfl rfl kr (fun _ _ _ h => h) (Or.inl ⟨by rfl, ?_⟩) bxs ?_ ?_
    rotate_left
    ·intro w' hS
     go_simp
     with_reducible rfl
    rotate_left
    ·simp only [Act.put, List.setIfInBounds_toArray, List.set_cons_zero, List.set_cons_succ, i64_w, i32_w]
     rfl
    refine one_ (i := 2) (N := some 25) #[true, true, true, false, false] rfl rfl kr (by decide) (fun K hK => ?_)
    refine goes_ Tryz.func35 kr rfl #[] (by rfl) rfl rfl ga ?_
    with_reducible refine (value_Blank.calls  t232 t233 t234 t235 t236 t237 _ A41.out).mono ?_
    rintro e w50 ⟨rfl, hb⟩
    refine ⟨_, rfl, ?_⟩
    replace BX := bx_call hb
    clear hb
    refine hK.out _ _ bxs (fun hHeld => ?_)
    clear hK K hHeld
    refine norm_ (a' := ?_) ?_ ?_
    rotate_left
    ·show Act.put _ (some 25) _ = _
     simp only [Act.put, List.setIfInBounds_toArray, List.set_cons_zero, List.set_cons_succ, i64_w, i32_w]
     rfl
    refine pure_ (i := 3) (N := some 2) (v := ?_) (a' := ?_) #[true, true, true, true, false] rfl rfl kr (fun _ _ _ h => h) (Or.inl ⟨by rfl, ?_⟩) ?_ ?_
    rotate_left
    ·intro w'
     go_simp
     with_reducible rfl
    rotate_left
    ·simp only [Act.put, List.setIfInBounds_toArray, List.set_cons_zero, List.set_cons_succ, i64_w, i32_w]
     rfl
    refine one_ (i := 4) (N := none) #[true, true, true, true, true] rfl rfl kr (by decide) (fun K hK => ?_)
    refine skip_ (w1 := ?_) (by rfl) rfl ?_ ?_
    rotate_left
    ·go_simp
     rfl
    refine hK.out _ _ bxs (fun hHeld => ?_)
    clear hK K hHeld
    refine done_ kr ?_
    try go_wp2
    refine bodyPost_ret (results_tc rfl _ _ gb211 25 #[.int .i64 t232, .int .i64 t233, .int .i64 t234, .string t235, .bool t236, .int .i64 t237] (0, 0) _ rfl bx_get Tryz.underlying25 rfl kr) rfl ?_
    exact ⟨er2, bx_bl⟩
end
section
/-! ### value_AsNumber: function 21 -/
def value_AsNumber.f (k : Nat) (a0_0 : Int) (a0_1 : Int) (a0_2 : Int) (a0_3 : ByteArray) (a0_4 : Bool) (a0_5 : Int) : Option (Int × Int × Int × Int × Int × ByteArray × Bool × Int) := (value_taken.f k a0_0 a0_1 a0_2 a0_3 a0_4 a0_5).bind fun bt277 => (if bt277.1 = 1 then ((value_Blank.f).bind fun bt283 => (some (bt277.2.1, bt277.2.2.1, bt283.1, bt283.2.1, bt283.2.2.1, bt283.2.2.2.1, bt283.2.2.2.2.1, bt283.2.2.2.2.2))) else (if bt277.1 = 3 then (if bt277.2.2.2.2.1 = true then ((value_number.f 1).bind fun bt297 => ((value_Blank.f).bind fun bt299 => (some (bt297.1, bt297.2, bt299.1, bt299.2.1, bt299.2.2.1, bt299.2.2.2.1, bt299.2.2.2.2.1, bt299.2.2.2.2.2)))) else ((value_number.f 0).bind fun bt305 => ((value_Blank.f).bind fun bt307 => (some (bt305.1, bt305.2, bt307.1, bt307.2.1, bt307.2.2.1, bt307.2.2.2.1, bt307.2.2.2.2.1, bt307.2.2.2.2.2))))) else (if bt277.1 = 0 then ((value_number.f 0).bind fun bt289 => ((value_Blank.f).bind fun bt291 => (some (bt289.1, bt289.2, bt291.1, bt291.2.1, bt291.2.2.1, bt291.2.2.2.1, bt291.2.2.2.2.1, bt291.2.2.2.2.2)))) else (if bt277.1 = 2 then ((num_Read.f k bt277.2.2.2.1).bind fun bt313 => (if bt313.2.2 = true then ((value_Blank.f).bind fun bt317 => (some (bt313.1, bt313.2.1, bt317.1, bt317.2.1, bt317.2.2.1, bt317.2.2.2.1, bt317.2.2.2.2.1, bt317.2.2.2.2.2))) else ((value_Fault.f 2).bind fun bt323 => (some (0, 0, bt323.1, bt323.2.1, bt323.2.2.1, bt323.2.2.2.1, bt323.2.2.2.2.1, bt323.2.2.2.2.2))))) else (some (0, 0, bt277.1, bt277.2.1, bt277.2.2.1, bt277.2.2.2.1, bt277.2.2.2.2.1, bt277.2.2.2.2.2))))))
theorem value_AsNumber.mono : ∀ a0 a1 a2 a3 a4 a5 k, LeO (value_AsNumber.f k a0 a1 a2 a3 a4 a5) (value_AsNumber.f (k + 1) a0 a1 a2 a3 a4 a5) := by
 intro a0 a1 a2 a3 a4 a5 k
 unfold value_AsNumber.f
 repeat' first
   | (with_reducible exact num_Read.mono _ _)
   | (with_reducible exact value_taken.mono _ _ _ _ _ _ _)
   | (with_reducible exact LeO.refl _)
   | (with_reducible exact LeO.none _)
   | (with_reducible refine LeO.ite ?_ ?_)
   | (with_reducible refine LeO.bind ?_ (fun _ => ?_))
   | exact num_Read.mono _ _
   | exact value_taken.mono _ _ _ _ _ _ _
   | exact LeO.none _
   | refine LeO.ite ?_ ?_
   | refine LeO.bind ?_ (fun _ => ?_)
set_option maxHeartbeats 8000000 in
set_option maxRecDepth 100000 in
theorem value_AsNumber.calls (k : Nat) (a0_0 : Int) (a0_1 : Int) (a0_2 : Int) (a0_3 : ByteArray) (a0_4 : Bool) (a0_5 : Int) (r1 : Int) (r2 : Int) (r3 : Int) (r4 : Int) (r5 : Int) (r6 : ByteArray) (r7 : Bool) (r8 : Int) (w : World) (h : value_AsNumber.f k a0_0 a0_1 a0_2 a0_3 a0_4 a0_5 = some (r1, r2, r3, r4, r5, r6, r7, r8)) :
  Calls Tryz.prog 21 #[.agg #[.int .i64 a0_0, .int .i64 a0_1, .int .i64 a0_2, .string a0_3, .bool a0_4, .int .i64 a0_5]] w fun e w' => e = .returned (.tuple #[.agg #[.int .i64 r1, .int .i64 r2], .agg #[.int .i64 r3, .int .i64 r4, .int .i64 r5, .string r6, .bool r7, .int .i64 r8]]) ∧ Below w.heap.size w w' := by
 have hu25 := Tryz.underlying25
 have hu23 := Tryz.underlying23
 have BX := Bx.start w
 have H : ((value_taken.f k a0_0 a0_1 a0_2 a0_3 a0_4 a0_5).bind fun bt277 => (if bt277.1 = 1 then ((value_Blank.f).bind fun bt283 => (some (bt277.2.1, bt277.2.2.1, bt283.1, bt283.2.1, bt283.2.2.1, bt283.2.2.2.1, bt283.2.2.2.2.1, bt283.2.2.2.2.2))) else (if bt277.1 = 3 then (if bt277.2.2.2.2.1 = true then ((value_number.f 1).bind fun bt297 => ((value_Blank.f).bind fun bt299 => (some (bt297.1, bt297.2, bt299.1, bt299.2.1, bt299.2.2.1, bt299.2.2.2.1, bt299.2.2.2.2.1, bt299.2.2.2.2.2)))) else ((value_number.f 0).bind fun bt305 => ((value_Blank.f).bind fun bt307 => (some (bt305.1, bt305.2, bt307.1, bt307.2.1, bt307.2.2.1, bt307.2.2.2.1, bt307.2.2.2.2.1, bt307.2.2.2.2.2))))) else (if bt277.1 = 0 then ((value_number.f 0).bind fun bt289 => ((value_Blank.f).bind fun bt291 => (some (bt289.1, bt289.2, bt291.1, bt291.2.1, bt291.2.2.1, bt291.2.2.2.1, bt291.2.2.2.2.1, bt291.2.2.2.2.2)))) else (if bt277.1 = 2 then ((num_Read.f k bt277.2.2.2.1).bind fun bt313 => (if bt313.2.2 = true then ((value_Blank.f).bind fun bt317 => (some (bt313.1, bt313.2.1, bt317.1, bt317.2.1, bt317.2.2.1, bt317.2.2.2.1, bt317.2.2.2.2.1, bt317.2.2.2.2.2))) else ((value_Fault.f 2).bind fun bt323 => (some (0, 0, bt323.1, bt323.2.1, bt323.2.2.1, bt323.2.2.2.1, bt323.2.2.2.2.1, bt323.2.2.2.2.2))))) else (some (0, 0, bt277.1, bt277.2.1, bt277.2.2.1, bt277.2.2.2.1, bt277.2.2.2.2.1, bt277.2.2.2.2.2))))))) = some (r1, r2, r3, r4, r5, r6, r7, r8) := h
 clear h
 replace H := Option.bind_eq_some_iff.mp H
 obtain ⟨⟨t277, t278, t279, t280, t281, t282⟩, A20, H⟩ := H
 replace H : (if t277 = 1 then ((value_Blank.f).bind fun bt283 => (some (t278, t279, bt283.1, bt283.2.1, bt283.2.2.1, bt283.2.2.2.1, bt283.2.2.2.2.1, bt283.2.2.2.2.2))) else (if t277 = 3 then (if t281 = true then ((value_number.f 1).bind fun bt297 => ((value_Blank.f).bind fun bt299 => (some (bt297.1, bt297.2, bt299.1, bt299.2.1, bt299.2.2.1, bt299.2.2.2.1, bt299.2.2.2.2.1, bt299.2.2.2.2.2)))) else ((value_number.f 0).bind fun bt305 => ((value_Blank.f).bind fun bt307 => (some (bt305.1, bt305.2, bt307.1, bt307.2.1, bt307.2.2.1, bt307.2.2.2.1, bt307.2.2.2.2.1, bt307.2.2.2.2.2))))) else (if t277 = 0 then ((value_number.f 0).bind fun bt289 => ((value_Blank.f).bind fun bt291 => (some (bt289.1, bt289.2, bt291.1, bt291.2.1, bt291.2.2.1, bt291.2.2.2.1, bt291.2.2.2.2.1, bt291.2.2.2.2.2)))) else (if t277 = 2 then ((num_Read.f k t280).bind fun bt313 => (if bt313.2.2 = true then ((value_Blank.f).bind fun bt317 => (some (bt313.1, bt313.2.1, bt317.1, bt317.2.1, bt317.2.2.1, bt317.2.2.2.1, bt317.2.2.2.2.1, bt317.2.2.2.2.2))) else ((value_Fault.f 2).bind fun bt323 => (some (0, 0, bt323.1, bt323.2.1, bt323.2.2.1, bt323.2.2.2.1, bt323.2.2.2.2.1, bt323.2.2.2.2.2))))) else (some (0, 0, t277, t278, t279, t280, t281, t282)))))) = some (r1, r2, r3, r4, r5, r6, r7, r8) := H
 have A2 := Aside0.mk A20
 clear A20
 by_cases c3 : t277 = 1
 ·rw [if_pos c3] at H
  have c3b0 : (t277 == 1) = true := beq_iff_eq.mpr c3
  have c3b1 : (t277 != 1) = false := bne_eq_false_iff_eq.mpr c3
  clear c3
  replace H := Option.bind_eq_some_iff.mp H
  obtain ⟨⟨t283, t284, t285, t286, t287, t288⟩, A40, H⟩ := H
  replace H : (some (t278, t279, t283, t284, t285, t286, t287, t288)) = some (r1, r2, r3, r4, r5, r6, r7, r8) := H
  have A4 := Aside0.mk A40
  clear A40
  simp only [Option.some.injEq, Prod.mk.injEq] at H
  obtain ⟨rfl, rfl, rfl, rfl, rfl, rfl, rfl, rfl⟩ := H
  go_enter Tryz.func21, Tryz.ntmps21
  try go_wp2_with (first | ((with_reducible refine gate_dst (N := 1) rfl ?_); refine bxe 1 #[.int .i64 a0_0, .int .i64 a0_1, .int .i64 a0_2, .string a0_3, .bool a0_4, .int .i64 a0_5] 25 rfl rfl gr ?_; clear BX; intro gb274 w5 GE274 BX) | ((with_reducible refine gate_dst (N := 2) rfl ?_); refine bxe 2 #[.int .i64 0, .int .i64 0] 23 rfl rfl gr ?_; clear BX; intro gb275 w6 GE275 BX) | ((with_reducible refine gate_dst (N := 3) rfl ?_); refine bxe 3 #[.int .i64 0, .int .i64 0, .int .i64 0, .string (⟨#[]⟩ : ByteArray), .bool false, .int .i64 0] 25 rfl rfl gr ?_; clear BX; intro gb276 w7 GE276 BX) | ((with_reducible refine gate_callee (f := 15) rfl ?_); refine goesL_ (some 7) rfl rfl Tryz.func15 kr rfl #[.agg #[.int .i64 a0_0, .int .i64 a0_1, .int .i64 a0_2, .string a0_3, .bool a0_4, .int .i64 a0_5]] rfl ga ?_; (with_reducible refine (value_taken.calls k a0_0 a0_1 a0_2 a0_3 a0_4 a0_5 t277 t278 t279 t280 t281 t282 _ A2.out).mono ?_); rintro e w11 ⟨rfl, hb⟩; refine ⟨_, rfl, ?_⟩; replace BX := bx_call hb; clear hb))
  replace BX : Bx w ((((((w11.setCell ⟨gb274, 0, none⟩ (.int .i64 t277)).setCell ⟨gb274, 1, none⟩ (.int .i64 t278)).setCell ⟨gb274, 2, none⟩ (.int .i64 t279)).setCell ⟨gb274, 3, none⟩ (.string t280)).setCell ⟨gb274, 4, none⟩ (.bool t281)).setCell ⟨gb274, 5, none⟩ (.int .i64 t282)) _ := bxi
  generalize ((((((w11.setCell ⟨gb274, 0, none⟩ (.int .i64 t277)).setCell ⟨gb274, 1, none⟩ (.int .i64 t278)).setCell ⟨gb274, 2, none⟩ (.int .i64 t279)).setCell ⟨gb274, 3, none⟩ (.string t280)).setCell ⟨gb274, 4, none⟩ (.bool t281)).setCell ⟨gb274, 5, none⟩ (.int .i64 t282)) = w13 at BX ⊢
  refine startm [false, false, true] (n := 5) (ds := []) #[false, false, false, false, false] kr rfl rfl (fun BX1 => ?_)
  clear BX
  have BX := BX1
  clear BX1
  generalize w13.drew = w14 at BX ⊢
  refine pure_ (i := 0) (N := some 18) (v := ?_) (a' := ?_) #[true, false, false, false, false] rfl rfl kr (fun _ _ _ h => h) (Or.inl ⟨by rfl, ?_⟩) ?_ ?_
  rotate_left
  ·intro w'
   go_simp
   with_reducible rfl
  rotate_left
  ·simp only [Act.put, List.setIfInBounds_toArray, List.set_cons_zero, List.set_cons_succ, i64_w, i32_w]
   rfl
  refine take_ (i := 1) (N := some 19) (v := ?_) (a' := ?_) #[true, true, false, false, false] rfl rfl kr (fun _ _ _ h => h) (Or.inl ⟨by rfl, ?_⟩) bxs ?_ ?_
  rotate_left
  ·intro w' hS
   go_simp
   with_reducible rfl
  rotate_left
  ·simp only [Act.put, List.setIfInBounds_toArray, List.set_cons_zero, List.set_cons_succ, i64_w, i32_w]
   rfl
  refine one_ (i := 2) (N := some 20) #[true, true, true, false, false] rfl rfl kr (by decide) (fun K hK => ?_)
  refine goes_ Tryz.func35 kr rfl #[] (by rfl) rfl rfl ga ?_
  with_reducible refine (value_Blank.calls  t283 t284 t285 t286 t287 t288 _ A4.out).mono ?_
  rintro e w15 ⟨rfl, hb⟩
  refine ⟨_, rfl, ?_⟩
  replace BX := bx_call hb
  clear hb
  refine hK.out _ _ bxs (fun hHeld => ?_)
  clear hK K hHeld
  refine norm_ (a' := ?_) ?_ ?_
  rotate_left
  ·show Act.put _ (some 20) _ = _
   simp only [Act.put, List.setIfInBounds_toArray, List.set_cons_zero, List.set_cons_succ, i64_w, i32_w]
   rfl
  refine one_ (i := 3) (N := none) #[true, true, true, true, false] rfl rfl kr (by decide) (fun K hK => ?_)
  refine skip_ (w1 := ?_) (by rfl) rfl ?_ ?_
  rotate_left
  ·go_simp
   rfl
  refine hK.out _ _ bxs (fun hHeld => ?_)
  clear hK K hHeld
  refine one_ (i := 4) (N := none) #[true, true, true, true, true] rfl rfl kr (by decide) (fun K hK => ?_)
  refine skip_ (w1 := ?_) (by rfl) rfl ?_ ?_
  rotate_left
  ·go_simp
   rfl
  refine hK.out _ _ bxs (fun hHeld => ?_)
  clear hK K hHeld
  refine done_ kr ?_
  try go_wp2
  refine bodyPost_ret (results_cc rfl _ _ gb275 gb276 23 25 #[.int .i64 t278, .int .i64 t279] #[.int .i64 t283, .int .i64 t284, .int .i64 t285, .string t286, .bool t287, .int .i64 t288] (0, 0) (0, 0) _ _ rfl bx_get Tryz.underlying23 rfl kr rfl bx_get Tryz.underlying25 rfl kr) rfl ?_
  exact ⟨er2, bx_bl⟩
 ·rw [if_neg c3] at H
  have c3b0 : (t277 == 1) = false := beq_eq_false_iff_ne.mpr c3
  have c3b1 : (t277 != 1) = true := bne_iff_ne.mpr c3
  by_cases c24 : t277 = 3
  ·rw [if_pos c24] at H
   have c24b0 : (t277 == 3) = true := beq_iff_eq.mpr c24
   have c24b1 : (t277 != 3) = false := bne_eq_false_iff_eq.mpr c24
   clear c24
   by_cases c25 : t281 = true
   ·subst c25
    have H1 : ((value_number.f 1).bind fun bt297 => ((value_Blank.f).bind fun bt299 => (some (bt297.1, bt297.2, bt299.1, bt299.2.1, bt299.2.2.1, bt299.2.2.2.1, bt299.2.2.2.2.1, bt299.2.2.2.2.2)))) = some (r1, r2, r3, r4, r5, r6, r7, r8) := by rw [if_pos rfl] at H; exact H
    clear H
    have H := H1
    clear H1
    replace H := Option.bind_eq_some_iff.mp H
    obtain ⟨⟨t297, t298⟩, A260, H⟩ := H
    have A26 := Aside0.mk A260
    clear A260
    replace H := Option.bind_eq_some_iff.mp H
    obtain ⟨⟨t299, t300, t301, t302, t303, t304⟩, A270, H⟩ := H
    replace H : (some (t297, t298, t299, t300, t301, t302, t303, t304)) = some (r1, r2, r3, r4, r5, r6, r7, r8) := H
    have A27 := Aside0.mk A270
    clear A270
    simp only [Option.some.injEq, Prod.mk.injEq] at H
    obtain ⟨rfl, rfl, rfl, rfl, rfl, rfl, rfl, rfl⟩ := H
    go_enter Tryz.func21, Tryz.ntmps21
    go_wp2_with (first | ((with_reducible refine gate_dst (N := 1) rfl ?_); refine bxe 1 #[.int .i64 a0_0, .int .i64 a0_1, .int .i64 a0_2, .string a0_3, .bool a0_4, .int .i64 a0_5] 25 rfl rfl gr ?_; clear BX; intro gb274 w28 GE274 BX) | ((with_reducible refine gate_dst (N := 2) rfl ?_); refine bxe 2 #[.int .i64 0, .int .i64 0] 23 rfl rfl gr ?_; clear BX; intro gb275 w29 GE275 BX) | ((with_reducible refine gate_dst (N := 3) rfl ?_); refine bxe 3 #[.int .i64 0, .int .i64 0, .int .i64 0, .string (⟨#[]⟩ : ByteArray), .bool false, .int .i64 0] 25 rfl rfl gr ?_; clear BX; intro gb276 w30 GE276 BX) | ((with_reducible refine gate_callee (f := 15) rfl ?_); refine goesL_ (some 7) rfl rfl Tryz.func15 kr rfl #[.agg #[.int .i64 a0_0, .int .i64 a0_1, .int .i64 a0_2, .string a0_3, .bool a0_4, .int .i64 a0_5]] rfl ga ?_; (with_reducible refine (value_taken.calls k a0_0 a0_1 a0_2 a0_3 a0_4 a0_5 t277 t278 t279 t280 true t282 _ A2.out).mono ?_); rintro e w34 ⟨rfl, hb⟩; refine ⟨_, rfl, ?_⟩; replace BX := bx_call hb; clear hb) | ((with_reducible refine gate_callee (f := 41) rfl ?_); refine goesL_ (some 23) rfl rfl Tryz.func41 kr rfl #[.int .i64 1] rfl ga ?_; (with_reducible refine (value_number.calls 1 t297 t298 _ A26.out).mono ?_); rintro e w36 ⟨rfl, hb⟩; refine ⟨_, rfl, ?_⟩; replace BX := bx_call hb; clear hb) | ((with_reducible refine gate_callee (f := 35) rfl ?_); refine goesL_ (some 24) rfl rfl Tryz.func35 kr rfl #[] rfl ga ?_; (with_reducible refine (value_Blank.calls  t299 t300 t301 t302 t303 t304 _ A27.out).mono ?_); rintro e w37 ⟨rfl, hb⟩; refine ⟨_, rfl, ?_⟩; replace BX := bx_call hb; clear hb))
    refine bodyPost_ret (results_cc rfl _ _ gb275 gb276 23 25 #[.int .i64 t297, .int .i64 t298] #[.int .i64 t299, .int .i64 t300, .int .i64 t301, .string t302, .bool t303, .int .i64 t304] (0, 0) (0, 0) _ _ rfl bx_get Tryz.underlying23 rfl kr rfl bx_get Tryz.underlying25 rfl kr) rfl ?_
    exact ⟨er2, bx_bl⟩
   ·replace c25 := Bool.eq_false_iff.mpr c25
    subst c25
    have H1 : ((value_number.f 0).bind fun bt305 => ((value_Blank.f).bind fun bt307 => (some (bt305.1, bt305.2, bt307.1, bt307.2.1, bt307.2.2.1, bt307.2.2.2.1, bt307.2.2.2.2.1, bt307.2.2.2.2.2)))) = some (r1, r2, r3, r4, r5, r6, r7, r8) := by rw [if_neg (show ¬ (false = true) by decide)] at H; exact H
    clear H
    have H := H1
    clear H1
    replace H := Option.bind_eq_some_iff.mp H
    obtain ⟨⟨t305, t306⟩, A410, H⟩ := H
    have A41 := Aside0.mk A410
    clear A410
    replace H := Option.bind_eq_some_iff.mp H
    obtain ⟨⟨t307, t308, t309, t310, t311, t312⟩, A420, H⟩ := H
    replace H : (some (t305, t306, t307, t308, t309, t310, t311, t312)) = some (r1, r2, r3, r4, r5, r6, r7, r8) := H
    have A42 := Aside0.mk A420
    clear A420
    simp only [Option.some.injEq, Prod.mk.injEq] at H
    obtain ⟨rfl, rfl, rfl, rfl, rfl, rfl, rfl, rfl⟩ := H
    go_enter Tryz.func21, Tryz.ntmps21
    go_wp2_with (first | ((with_reducible refine gate_dst (N := 1) rfl ?_); refine bxe 1 #[.int .i64 a0_0, .int .i64 a0_1, .int .i64 a0_2, .string a0_3, .bool a0_4, .int .i64 a0_5] 25 rfl rfl gr ?_; clear BX; intro gb274 w43 GE274 BX) | ((with_reducible refine gate_dst (N := 2) rfl ?_); refine bxe 2 #[.int .i64 0, .int .i64 0] 23 rfl rfl gr ?_; clear BX; intro gb275 w44 GE275 BX) | ((with_reducible refine gate_dst (N := 3) rfl ?_); refine bxe 3 #[.int .i64 0, .int .i64 0, .int .i64 0, .string (⟨#[]⟩ : ByteArray), .bool false, .int .i64 0] 25 rfl rfl gr ?_; clear BX; intro gb276 w45 GE276 BX) | ((with_reducible refine gate_callee (f := 15) rfl ?_); refine goesL_ (some 7) rfl rfl Tryz.func15 kr rfl #[.agg #[.int .i64 a0_0, .int .i64 a0_1, .int .i64 a0_2, .string a0_3, .bool a0_4, .int .i64 a0_5]] rfl ga ?_; (with_reducible refine (value_taken.calls k a0_0 a0_1 a0_2 a0_3 a0_4 a0_5 t277 t278 t279 t280 false t282 _ A2.out).mono ?_); rintro e w49 ⟨rfl, hb⟩; refine ⟨_, rfl, ?_⟩; replace BX := bx_call hb; clear hb) | ((with_reducible refine gate_callee (f := 41) rfl ?_); refine goesL_ (some 25) rfl rfl Tryz.func41 kr rfl #[.int .i64 0] rfl ga ?_; (with_reducible refine (value_number.calls 0 t305 t306 _ A41.out).mono ?_); rintro e w51 ⟨rfl, hb⟩; refine ⟨_, rfl, ?_⟩; replace BX := bx_call hb; clear hb) | ((with_reducible refine gate_callee (f := 35) rfl ?_); refine goesL_ (some 26) rfl rfl Tryz.func35 kr rfl #[] rfl ga ?_; (with_reducible refine (value_Blank.calls  t307 t308 t309 t310 t311 t312 _ A42.out).mono ?_); rintro e w52 ⟨rfl, hb⟩; refine ⟨_, rfl, ?_⟩; replace BX := bx_call hb; clear hb))
    refine bodyPost_ret (results_cc rfl _ _ gb275 gb276 23 25 #[.int .i64 t305, .int .i64 t306] #[.int .i64 t307, .int .i64 t308, .int .i64 t309, .string t310, .bool t311, .int .i64 t312] (0, 0) (0, 0) _ _ rfl bx_get Tryz.underlying23 rfl kr rfl bx_get Tryz.underlying25 rfl kr) rfl ?_
    exact ⟨er2, bx_bl⟩
  ·rw [if_neg c24] at H
   have c24b0 : (t277 == 3) = false := beq_eq_false_iff_ne.mpr c24
   have c24b1 : (t277 != 3) = true := bne_iff_ne.mpr c24
   by_cases c56 : t277 = 0
   ·rw [if_pos c56] at H
    have c56b0 : (t277 == 0) = true := beq_iff_eq.mpr c56
    have c56b1 : (t277 != 0) = false := bne_eq_false_iff_eq.mpr c56
    clear c56
    replace H := Option.bind_eq_some_iff.mp H
    obtain ⟨⟨t289, t290⟩, A570, H⟩ := H
    have A57 := Aside0.mk A570
    clear A570
    replace H := Option.bind_eq_some_iff.mp H
    obtain ⟨⟨t291, t292, t293, t294, t295, t296⟩, A580, H⟩ := H
    replace H : (some (t289, t290, t291, t292, t293, t294, t295, t296)) = some (r1, r2, r3, r4, r5, r6, r7, r8) := H
    have A58 := Aside0.mk A580
    clear A580
    simp only [Option.some.injEq, Prod.mk.injEq] at H
    obtain ⟨rfl, rfl, rfl, rfl, rfl, rfl, rfl, rfl⟩ := H
    go_enter Tryz.func21, Tryz.ntmps21
    go_wp2_with (first | ((with_reducible refine gate_dst (N := 1) rfl ?_); refine bxe 1 #[.int .i64 a0_0, .int .i64 a0_1, .int .i64 a0_2, .string a0_3, .bool a0_4, .int .i64 a0_5] 25 rfl rfl gr ?_; clear BX; intro gb274 w59 GE274 BX) | ((with_reducible refine gate_dst (N := 2) rfl ?_); refine bxe 2 #[.int .i64 0, .int .i64 0] 23 rfl rfl gr ?_; clear BX; intro gb275 w60 GE275 BX) | ((with_reducible refine gate_dst (N := 3) rfl ?_); refine bxe 3 #[.int .i64 0, .int .i64 0, .int .i64 0, .string (⟨#[]⟩ : ByteArray), .bool false, .int .i64 0] 25 rfl rfl gr ?_; clear BX; intro gb276 w61 GE276 BX) | ((with_reducible refine gate_callee (f := 15) rfl ?_); refine goesL_ (some 7) rfl rfl Tryz.func15 kr rfl #[.agg #[.int .i64 a0_0, .int .i64 a0_1, .int .i64 a0_2, .string a0_3, .bool a0_4, .int .i64 a0_5]] rfl ga ?_; (with_reducible refine (value_taken.calls k a0_0 a0_1 a0_2 a0_3 a0_4 a0_5 t277 t278 t279 t280 t281 t282 _ A2.out).mono ?_); rintro e w65 ⟨rfl, hb⟩; refine ⟨_, rfl, ?_⟩; replace BX := bx_call hb; clear hb) | ((with_reducible refine gate_callee (f := 41) rfl ?_); refine goesL_ (some 25) rfl rfl Tryz.func41 kr rfl #[.int .i64 0] rfl ga ?_; (with_reducible refine (value_number.calls 0 t289 t290 _ A57.out).mono ?_); rintro e w67 ⟨rfl, hb⟩; refine ⟨_, rfl, ?_⟩; replace BX := bx_call hb; clear hb) | ((with_reducible refine gate_callee (f := 35) rfl ?_); refine goesL_ (some 26) rfl rfl Tryz.func35 kr rfl #[] rfl ga ?_; (with_reducible refine (value_Blank.calls  t291 t292 t293 t294 t295 t296 _ A58.out).mono ?_); rintro e w68 ⟨rfl, hb⟩; refine ⟨_, rfl, ?_⟩; replace BX := bx_call hb; clear hb))
    refine bodyPost_ret (results_cc rfl _ _ gb275 gb276 23 25 #[.int .i64 t289, .int .i64 t290] #[.int .i64 t291, .int .i64 t292, .int .i64 t293, .string t294, .bool t295, .int .i64 t296] (0, 0) (0, 0) _ _ rfl bx_get Tryz.underlying23 rfl kr rfl bx_get Tryz.underlying25 rfl kr) rfl ?_
    exact ⟨er2, bx_bl⟩
   ·rw [if_neg c56] at H
    have c56b0 : (t277 == 0) = false := beq_eq_false_iff_ne.mpr c56
    have c56b1 : (t277 != 0) = true := bne_iff_ne.mpr c56
    by_cases c72 : t277 = 2
    ·rw [if_pos c72] at H
     have c72b0 : (t277 == 2) = true := beq_iff_eq.mpr c72
     have c72b1 : (t277 != 2) = false := bne_eq_false_iff_eq.mpr c72
     clear c72
     replace H := Option.bind_eq_some_iff.mp H
     obtain ⟨⟨t313, t314, t315⟩, A730, H⟩ := H
     replace H : (if t315 = true then ((value_Blank.f).bind fun bt317 => (some (t313, t314, bt317.1, bt317.2.1, bt317.2.2.1, bt317.2.2.2.1, bt317.2.2.2.2.1, bt317.2.2.2.2.2))) else ((value_Fault.f 2).bind fun bt323 => (some (0, 0, bt323.1, bt323.2.1, bt323.2.2.1, bt323.2.2.2.1, bt323.2.2.2.2.1, bt323.2.2.2.2.2)))) = some (r1, r2, r3, r4, r5, r6, r7, r8) := H
     have A73 := Aside0.mk A730
     clear A730
     by_cases c74 : t315 = true
     ·subst c74
      have H1 : ((value_Blank.f).bind fun bt317 => (some (t313, t314, bt317.1, bt317.2.1, bt317.2.2.1, bt317.2.2.2.1, bt317.2.2.2.2.1, bt317.2.2.2.2.2))) = some (r1, r2, r3, r4, r5, r6, r7, r8) := by rw [if_pos rfl] at H; exact H
      clear H
      have H := H1
      clear H1
      replace H := Option.bind_eq_some_iff.mp H
      obtain ⟨⟨t317, t318, t319, t320, t321, t322⟩, A750, H⟩ := H
      replace H : (some (t313, t314, t317, t318, t319, t320, t321, t322)) = some (r1, r2, r3, r4, r5, r6, r7, r8) := H
      have A75 := Aside0.mk A750
      clear A750
      simp only [Option.some.injEq, Prod.mk.injEq] at H
      obtain ⟨rfl, rfl, rfl, rfl, rfl, rfl, rfl, rfl⟩ := H
      go_enter Tryz.func21, Tryz.ntmps21
      try go_wp2_with (first | ((with_reducible refine gate_dst (N := 1) rfl ?_); refine bxe 1 #[.int .i64 a0_0, .int .i64 a0_1, .int .i64 a0_2, .string a0_3, .bool a0_4, .int .i64 a0_5] 25 rfl rfl gr ?_; clear BX; intro gb274 w76 GE274 BX) | ((with_reducible refine gate_dst (N := 2) rfl ?_); refine bxe 2 #[.int .i64 0, .int .i64 0] 23 rfl rfl gr ?_; clear BX; intro gb275 w77 GE275 BX) | ((with_reducible refine gate_dst (N := 3) rfl ?_); refine bxe 3 #[.int .i64 0, .int .i64 0, .int .i64 0, .string (⟨#[]⟩ : ByteArray), .bool false, .int .i64 0] 25 rfl rfl gr ?_; clear BX; intro gb276 w78 GE276 BX) | ((with_reducible refine gate_callee (f := 15) rfl ?_); refine goesL_ (some 7) rfl rfl Tryz.func15 kr rfl #[.agg #[.int .i64 a0_0, .int .i64 a0_1, .int .i64 a0_2, .string a0_3, .bool a0_4, .int .i64 a0_5]] rfl ga ?_; (with_reducible refine (value_taken.calls k a0_0 a0_1 a0_2 a0_3 a0_4 a0_5 t277 t278 t279 t280 t281 t282 _ A2.out).mono ?_); rintro e w82 ⟨rfl, hb⟩; refine ⟨_, rfl, ?_⟩; replace BX := bx_call hb; clear hb) | ((with_reducible refine gate_callee (f := 34) rfl ?_); refine goesL_ (some 30) rfl rfl Tryz.func34 kr rfl #[.string t280] rfl ga ?_; (with_reducible refine (num_Read.calls k t280 t313 t314 true _ A73.out).mono ?_); rintro e w84 ⟨rfl, hb⟩; refine ⟨_, rfl, ?_⟩; replace BX := bx_call hb; clear hb) | ((with_reducible refine gate_dst (N := 4) rfl ?_); refine bxe 4 #[.int .i64 0, .int .i64 0] 23 rfl rfl gr ?_; clear BX; intro gb316 w85 GE316 BX))
      replace BX : Bx w ((w85.setCell ⟨gb316, 0, none⟩ (.int .i64 t313)).setCell ⟨gb316, 1, none⟩ (.int .i64 t314)) _ := bxi
      generalize ((w85.setCell ⟨gb316, 0, none⟩ (.int .i64 t313)).setCell ⟨gb316, 1, none⟩ (.int .i64 t314)) = w90 at BX ⊢
      refine startm [true] (n := 4) (ds := []) #[false, false, false, false] kr rfl rfl (fun BX1 => ?_)
      clear BX
      have BX := BX1
      clear BX1
      generalize w90.drew = w91 at BX ⊢
      refine take_ (i := 0) (N := some 34) (v := ?_) (a' := ?_) #[true, false, false, false] rfl rfl kr (fun _ _ _ h => h) (Or.inl ⟨by rfl, ?_⟩) bxs ?_ ?_
      rotate_left
      ·intro w' hS
       go_simp
       with_reducible rfl
      rotate_left
      ·simp only [Act.put, List.setIfInBounds_toArray, List.set_cons_zero, List.set_cons_succ, i64_w, i32_w]
       rfl
      refine one_ (i := 1) (N := some 35) #[true, true, false, false] rfl rfl kr (by decide) (fun K hK => ?_)
      refine goes_ Tryz.func35 kr rfl #[] (by rfl) rfl rfl ga ?_
      with_reducible refine (value_Blank.calls  t317 t318 t319 t320 t321 t322 _ A75.out).mono ?_
      rintro e w92 ⟨rfl, hb⟩
      refine ⟨_, rfl, ?_⟩
      replace BX := bx_call hb
      clear hb
      refine hK.out _ _ bxs (fun hHeld => ?_)
      clear hK K hHeld
      refine norm_ (a' := ?_) ?_ ?_
      rotate_left
      ·show Act.put _ (some 35) _ = _
       simp only [Act.put, List.setIfInBounds_toArray, List.set_cons_zero, List.set_cons_succ, i64_w, i32_w]
       rfl
      refine one_ (i := 2) (N := none) #[true, true, true, false] rfl rfl kr (by decide) (fun K hK => ?_)
      refine skip_ (w1 := ?_) (by rfl) rfl ?_ ?_
      rotate_left
      ·go_simp
       rfl
      refine hK.out _ _ bxs (fun hHeld => ?_)
      clear hK K hHeld
      refine one_ (i := 3) (N := none) #[true, true, true, true] rfl rfl kr (by decide) (fun K hK => ?_)
      refine skip_ (w1 := ?_) (by rfl) rfl ?_ ?_
      rotate_left
      ·go_simp
       rfl
      refine hK.out _ _ bxs (fun hHeld => ?_)
      clear hK K hHeld
      refine done_ kr ?_
      try go_wp2
      refine bodyPost_ret (results_cc rfl _ _ gb275 gb276 23 25 #[.int .i64 t313, .int .i64 t314] #[.int .i64 t317, .int .i64 t318, .int .i64 t319, .string t320, .bool t321, .int .i64 t322] (0, 0) (0, 0) _ _ rfl bx_get Tryz.underlying23 rfl kr rfl bx_get Tryz.underlying25 rfl kr) rfl ?_
      exact ⟨er2, bx_bl⟩
     ·replace c74 := Bool.eq_false_iff.mpr c74
      subst c74
      have H1 : ((value_Fault.f 2).bind fun bt323 => (some (0, 0, bt323.1, bt323.2.1, bt323.2.2.1, bt323.2.2.2.1, bt323.2.2.2.2.1, bt323.2.2.2.2.2))) = some (r1, r2, r3, r4, r5, r6, r7, r8) := by rw [if_neg (show ¬ (false = true) by decide)] at H; exact H
      clear H
      have H := H1
      clear H1
      replace H := Option.bind_eq_some_iff.mp H
      obtain ⟨⟨t323, t324, t325, t326, t327, t328⟩, A1010, H⟩ := H
      replace H : (some (0, 0, t323, t324, t325, t326, t327, t328)) = some (r1, r2, r3, r4, r5, r6, r7, r8) := H
      have A101 := Aside0.mk A1010
      clear A1010
      simp only [Option.some.injEq, Prod.mk.injEq] at H
      obtain ⟨rfl, rfl, rfl, rfl, rfl, rfl, rfl, rfl⟩ := H
      go_enter Tryz.func21, Tryz.ntmps21
      try go_wp2_with (first | ((with_reducible refine gate_dst (N := 1) rfl ?_); refine bxe 1 #[.int .i64 a0_0, .int .i64 a0_1, .int .i64 a0_2, .string a0_3, .bool a0_4, .int .i64 a0_5] 25 rfl rfl gr ?_; clear BX; intro gb274 w102 GE274 BX) | ((with_reducible refine gate_dst (N := 2) rfl ?_); refine bxe 2 #[.int .i64 0, .int .i64 0] 23 rfl rfl gr ?_; clear BX; intro gb275 w103 GE275 BX) | ((with_reducible refine gate_dst (N := 3) rfl ?_); refine bxe 3 #[.int .i64 0, .int .i64 0, .int .i64 0, .string (⟨#[]⟩ : ByteArray), .bool false, .int .i64 0] 25 rfl rfl gr ?_; clear BX; intro gb276 w104 GE276 BX) | ((with_reducible refine gate_callee (f := 15) rfl ?_); refine goesL_ (some 7) rfl rfl Tryz.func15 kr rfl #[.agg #[.int .i64 a0_0, .int .i64 a0_1, .int .i64 a0_2, .string a0_3, .bool a0_4, .int .i64 a0_5]] rfl ga ?_; (with_reducible refine (value_taken.calls k a0_0 a0_1 a0_2 a0_3 a0_4 a0_5 t277 t278 t279 t280 t281 t282 _ A2.out).mono ?_); rintro e w108 ⟨rfl, hb⟩; refine ⟨_, rfl, ?_⟩; replace BX := bx_call hb; clear hb) | ((with_reducible refine gate_callee (f := 34) rfl ?_); refine goesL_ (some 30) rfl rfl Tryz.func34 kr rfl #[.string t280] rfl ga ?_; (with_reducible refine (num_Read.calls k t280 t313 t314 false _ A73.out).mono ?_); rintro e w110 ⟨rfl, hb⟩; refine ⟨_, rfl, ?_⟩; replace BX := bx_call hb; clear hb) | ((with_reducible refine gate_dst (N := 4) rfl ?_); refine bxe 4 #[.int .i64 0, .int .i64 0] 23 rfl rfl gr ?_; clear BX; intro gb316 w111 GE316 BX) | ((with_reducible refine gate_callee (f := 16) rfl ?_); refine goesL_ (some 36) rfl rfl Tryz.func16 kr rfl #[.int .i64 2] rfl ga ?_; (with_reducible refine (value_Fault.calls 2 t323 t324 t325 t326 t327 t328 _ A101.out).mono ?_); rintro e w116 ⟨rfl, hb⟩; refine ⟨_, rfl, ?_⟩; replace BX := bx_call hb; clear hb))
      replace BX : Bx w ((((((w116.setCell ⟨gb274, 0, none⟩ (.int .i64 t323)).setCell ⟨gb274, 1, none⟩ (.int .i64 t324)).setCell ⟨gb274, 2, none⟩ (.int .i64 t325)).setCell ⟨gb274, 3, none⟩ (.string t326)).setCell ⟨gb274, 4, none⟩ (.bool t327)).setCell ⟨gb274, 5, none⟩ (.int .i64 t328)) _ := bxi
      generalize ((((((w116.setCell ⟨gb274, 0, none⟩ (.int .i64 t323)).setCell ⟨gb274, 1, none⟩ (.int .i64 t324)).setCell ⟨gb274, 2, none⟩ (.int .i64 t325)).setCell ⟨gb274, 3, none⟩ (.string t326)).setCell ⟨gb274, 4, none⟩ (.bool t327)).setCell ⟨gb274, 5, none⟩ (.int .i64 t328)) = w118 at BX ⊢
      refine startm [false, false, false, true] (n := 4) (ds := []) #[false, false, false, false] kr rfl rfl (fun BX1 => ?_)
      clear BX
      have BX := BX1
      clear BX1
      generalize w118.drew = w119 at BX ⊢
      refine pure_ (i := 0) (N := some 37) (v := ?_) (a' := ?_) #[true, false, false, false] rfl rfl kr (fun _ _ _ h => h) (Or.inl ⟨by rfl, ?_⟩) ?_ ?_
      rotate_left
      ·intro w'
       go_simp
       with_reducible rfl
      rotate_left
      ·simp only [Act.put, List.setIfInBounds_toArray, List.set_cons_zero, List.set_cons_succ, i64_w, i32_w]
       rfl
      refine take_ (i := 1) (N := some 38) (v := ?_) (a' := ?_) #[true, true, false, false] rfl rfl kr (fun _ _ _ h => h) (Or.inl ⟨by rfl, ?_⟩) bxs ?_ ?_
      rotate_left
      ·intro w' hS
       go_simp
       with_reducible rfl
      rotate_left
      ·simp only [Act.put, List.setIfInBounds_toArray, List.set_cons_zero, List.set_cons_succ, i64_w, i32_w]
       rfl
      refine one_ (i := 2) (N := none) #[true, true, true, false] rfl rfl kr (by decide) (fun K hK => ?_)
      refine skip_ (w1 := ?_) (by rfl) rfl ?_ ?_
      rotate_left
      ·go_simp
       rfl
      refine hK.out _ _ bxs (fun hHeld => ?_)
      clear hK K hHeld
      refine one_ (i := 3) (N := none) #[true, true, true, true] rfl rfl kr (by decide) (fun K hK => ?_)
      refine skip_ (w1 := ?_) (by rfl) rfl ?_ ?_
      rotate_left
      ·go_simp
       rfl
      refine hK.out _ _ bxs (fun hHeld => ?_)
      clear hK K hHeld
      refine done_ kr ?_
      try go_wp2
      refine bodyPost_ret (results_cc rfl _ _ gb275 gb276 23 25 #[.int .i64 0, .int .i64 0] #[.int .i64 t323, .int .i64 t324, .int .i64 t325, .string t326, .bool t327, .int .i64 t328] (0, 0) (0, 0) _ _ rfl bx_get Tryz.underlying23 rfl kr rfl bx_get Tryz.underlying25 rfl kr) rfl ?_
      exact ⟨er2, bx_bl⟩
    ·rw [if_neg c72] at H
     have c72b0 : (t277 == 2) = false := beq_eq_false_iff_ne.mpr c72
     have c72b1 : (t277 != 2) = true := bne_iff_ne.mpr c72
     simp only [Option.some.injEq, Prod.mk.injEq] at H
     obtain ⟨rfl, rfl, rfl, rfl, rfl, rfl, rfl, rfl⟩ := H
     go_enter Tryz.func21, Tryz.ntmps21
     try go_wp2_with (first | ((with_reducible refine gate_dst (N := 1) rfl ?_); refine bxe 1 #[.int .i64 a0_0, .int .i64 a0_1, .int .i64 a0_2, .string a0_3, .bool a0_4, .int .i64 a0_5] 25 rfl rfl gr ?_; clear BX; intro gb274 w128 GE274 BX) | ((with_reducible refine gate_dst (N := 2) rfl ?_); refine bxe 2 #[.int .i64 0, .int .i64 0] 23 rfl rfl gr ?_; clear BX; intro gb275 w129 GE275 BX) | ((with_reducible refine gate_dst (N := 3) rfl ?_); refine bxe 3 #[.int .i64 0, .int .i64 0, .int .i64 0, .string (⟨#[]⟩ : ByteArray), .bool false, .int .i64 0] 25 rfl rfl gr ?_; clear BX; intro gb276 w130 GE276 BX) | ((with_reducible refine gate_callee (f := 15) rfl ?_); refine goesL_ (some 7) rfl rfl Tryz.func15 kr rfl #[.agg #[.int .i64 a0_0, .int .i64 a0_1, .int .i64 a0_2, .string a0_3, .bool a0_4, .int .i64 a0_5]] rfl ga ?_; (with_reducible refine (value_taken.calls k a0_0 a0_1 a0_2 a0_3 a0_4 a0_5 t277 t278 t279 t280 t281 t282 _ A2.out).mono ?_); rintro e w134 ⟨rfl, hb⟩; refine ⟨_, rfl, ?_⟩; replace BX := bx_call hb; clear hb))
     replace BX : Bx w ((((((w134.setCell ⟨gb274, 0, none⟩ (.int .i64 t277)).setCell ⟨gb274, 1, none⟩ (.int .i64 t278)).setCell ⟨gb274, 2, none⟩ (.int .i64 t279)).setCell ⟨gb274, 3, none⟩ (.string t280)).setCell ⟨gb274, 4, none⟩ (.bool t281)).setCell ⟨gb274, 5, none⟩ (.int .i64 t282)) _ := bxi
     generalize ((((((w134.setCell ⟨gb274, 0, none⟩ (.int .i64 t277)).setCell ⟨gb274, 1, none⟩ (.int .i64 t278)).setCell ⟨gb274, 2, none⟩ (.int .i64 t279)).setCell ⟨gb274, 3, none⟩ (.string t280)).setCell ⟨gb274, 4, none⟩ (.bool t281)).setCell ⟨gb274, 5, none⟩ (.int .i64 t282)) = w136 at BX ⊢
     refine startm [false, false, true] (n := 4) (ds := []) #[false, false, false, false] kr rfl rfl (fun BX1 => ?_)
     clear BX
     have BX := BX1
     clear BX1
     generalize w136.drew = w137 at BX ⊢
     refine pure_ (i := 0) (N := some 37) (v := ?_) (a' := ?_) #[true, false, false, false] rfl rfl kr (fun _ _ _ h => h) (Or.inl ⟨by rfl, ?_⟩) ?_ ?_
     rotate_left
     ·intro w'
      go_simp
      with_reducible rfl
     rotate_left
     ·simp only [Act.put, List.setIfInBounds_toArray, List.set_cons_zero, List.set_cons_succ, i64_w, i32_w]
      rfl
     refine take_ (i := 1) (N := some 38) (v := ?_) (a' := ?_) #[true, true, false, false] rfl rfl kr (fun _ _ _ h => h) (Or.inl ⟨by rfl, ?_⟩) bxs ?_ ?_
     rotate_left
     ·intro w' hS
      go_simp
      with_reducible rfl
     rotate_left
     ·simp only [Act.put, List.setIfInBounds_toArray, List.set_cons_zero, List.set_cons_succ, i64_w, i32_w]
      rfl
     refine one_ (i := 2) (N := none) #[true, true, true, false] rfl rfl kr (by decide) (fun K hK => ?_)
     refine skip_ (w1 := ?_) (by rfl) rfl ?_ ?_
     rotate_left
     ·go_simp
      rfl
     refine hK.out _ _ bxs (fun hHeld => ?_)
     clear hK K hHeld
     refine one_ (i := 3) (N := none) #[true, true, true, true] rfl rfl kr (by decide) (fun K hK => ?_)
     refine skip_ (w1 := ?_) (by rfl) rfl ?_ ?_
     rotate_left
     ·go_simp
      rfl
     refine hK.out _ _ bxs (fun hHeld => ?_)
     clear hK K hHeld
     refine done_ kr ?_
     try go_wp2
     refine bodyPost_ret (results_cc rfl _ _ gb275 gb276 23 25 #[.int .i64 0, .int .i64 0] #[.int .i64 t277, .int .i64 t278, .int .i64 t279, .string t280, .bool t281, .int .i64 t282] (0, 0) (0, 0) _ _ rfl bx_get Tryz.underlying23 rfl kr rfl bx_get Tryz.underlying25 rfl kr) rfl ?_
     exact ⟨er2, bx_bl⟩
end
end Go.Proofs.YtmakkdlkgfgaoaaGreatDoor.F
