/-
The walk of ValueJoins: Join of a copied list, with more behind it, is Join of the list; the list stays.
-/
import Derived.Test.YtmakkdlkgfgaoaaGreatDoorF121
import Derived.Test.YtmakkdlkgfgaoaaGreatDoorF100
import Derived.Test.YtmakkdlkgfgaoaaGreatDoorF112
namespace Go.Proofs.YtmakkdlkgfgaoaaGreatDoor.F
open Go.RowKit Go.Proofs.YtmakkdlkgfgaoaaGreatDoorW.PrintWords Go.Proofs.YtmakkdlkgfgaoaaGreatDoorW.PrintLast Go.Proofs.YtmakkdlkgfgaoaaGreatDoorW.PrintMore
attribute [local go_sem high] bx_cell bx_frozen eqA25
set_option linter.unusedVariables false
set_option linter.unusedSimpArgs false
def more2 : List VV := [(77, 0, 0, ⟨#[]⟩, false, 0), (78, 0, 0, ⟨#[]⟩, false, 0)]
def ValueJoins_T : Bool × List (List Nat × List Nat) := (true, [([], []), ([0, 0], [0]), ([1], [1]), ([1], [1]), ([3, 1, 1], [1, 3]), ([2, 4, 1], [1, 2, 4]), ([1, 5], [1, 5]), ([6, 4], [6]), ([7], [7]), ([7], [7]), ([9, 7], [7, 9]), ([8, 10, 7], [7, 8, 10]), ([11, 7], [7, 11]), ([12, 7], [7, 12]), ([13, 7], [7, 13]), ([7, 14], [7, 14]), ([15, 7], [15]), ([16], [16]), ([16], [16]), ([18, 16], [16, 18]), ([19, 16], [16, 19]), ([17, 20, 16], [16, 17, 20]), ([21, 16], [16, 21]), ([22, 16], [16, 22]), ([23, 16], [16, 23]), ([16, 24], [16, 24]), ([25, 16, 0, 1, 2, 3, 4, 5, 6, 7, 8, 9, 10, 11, 12, 13, 14, 15, 16, 17, 18, 19, 20, 21, 22, 23, 24, 25], [25])])
def ValueJoins_B : List Nat := [0, 1, 3, 3, 11, 31, 63, 127, 255, 255, 767, 2047, 4095, 8191, 16383, 32767, 65535, 131071, 131071, 393215, 917503, 2097151, 4194303, 8388607, 16777215, 33554431, 67108863]
theorem ValueJoins_tab : rtab .any (opsOf Tryz.f4 8) = ValueJoins_T := by kernel_rfl
theorem ValueJoins_bits : waitsOk ValueJoins_T.2 ValueJoins_B = true := by kernel_rfl
set_option maxHeartbeats 8000000 in
set_option maxRecDepth 100000 in
theorem ValueJoins_calls (k : Nat) (A0 : Option Addr) (c0 : Nat) (l0 : List VV) (w : World) (HT0 : TabAt w) (hA0 : A0 = none → c0 = 0) (hr0 : RowAt w A0 l0) (hc0 : l0.length ≤ c0) (hsz : l0.length * 56 ≤ 140737488351232) (s1 s2 s3 : Int) (s4 : ByteArray) (s5 : Bool) (s6 : Int) (r1 r2 r3 : Int) (r4 : ByteArray) (r5 : Bool) (r6 : Int)
   (ht : value_Text.f k (⟨#[]⟩ : ByteArray) = some (s1, s2, s3, s4, s5, s6)) (h1 : joinL k (s1, s2, s3, s4, s5, s6) l0 = some (r1, r2, r3, r4, r5, r6)) (h2 : joinR k (2, 0, 0, (⟨#[]⟩ : ByteArray), false, 0) l0 = some (r1, r2, r3, r4, r5, r6)) (h3 : whittlelaw2_able.f k = some true) :
  Calls Tryz.prog 4 #[.slice A0 l0.length c0] w fun e w' => e = .returned (.bool true) ∧ Below w.heap.size w w' := by
 have hu25 := Tryz.underlying25
 have HT := Aside0.mk HT0
 have HA0 := Aside0.mk hA0
 have HR0 := Aside0.mk hr0
 have HC0 := Aside0.mk hc0
 have HS := Aside0.mk ht
 have H1 := Aside0.mk h1
 have H2 := Aside0.mk h2
 have H3 := Aside0.mk h3
 have hn : (l0.length : Int) ≤ 140737488351232 := by omega
 have HZ := Aside0.mk hsz
 clear HT0 hA0 hr0 hc0 ht h1 h2 h3 hsz
 obtain ⟨ll, hll⟩ : ∃ ll, ll = l0 ++ more2 := ⟨_, rfl⟩
 have hlen : ll.length = l0.length + 2 := by rw [hll, List.length_append]; rfl
 have HLL := Aside0.mk hll
 have HLEN := Aside0.mk hlen
 have hlt : l0.length + 1 < ll.length := by omega
 clear hll hlen
 go_enter Tryz.func4, Tryz.ntmps4
 go_wp2_with (first
  | ((with_reducible refine gate_dst (N := 8) rfl ?_); refine append_any (w0 := w) rfl (.tmp 6) (.tmp 7) 29 rfl w.heap.size 25 _ 6 56 Tryz.underlying29 info25 rfl (by decide) _ 0 [] rfl (World.ownsRow_made w #[] 0 (Nat.le_refl _) (by decide) rfl) A0 l0.length c0 (rowV l0) rfl (rowV_len l0) (fun e => ⟨by have := HA0.out e; have := HC0.out; omega, HA0.out e⟩) (fun ad e j u hu => by have := HR0.out.news ad e j u hu; exact ((below_alloc (Below.refl _ _) _).cell (World.block_lt_of_cell? w _ this)).trans this) (rowV_one l0) l0.length (Nat.zero_add _) (by have := HZ.out; simp only [maxLen]; omega) (by have := HZ.out; omega) (by simp) (below_alloc (Below.refl _ _) _) ?_; intro v1 w1 hown1 hb1; have HO1 := Aside0.mk hown1; have HB1 := Aside0.mk hb1; clear hown1 hb1)
  | ((with_reducible refine gate_dst (N := 12) rfl ?_); refine append_any (w0 := w) rfl (.tmp 8) (.tmp 11) 29 rfl w.heap.size 25 _ 6 56 Tryz.underlying29 info25 rfl (by decide) v1 l0.length (rowV l0) rfl (HO1.out.alloc _) (some ⟨w1.heap.size, 0, none⟩) 2 2 (rowV more2) rfl rfl (fun e => nomatch e) (fun ad e => by cases e; exact World.news_of_block (heap_alloc_new w1 _)) (rowV_one more2) ll.length HLEN.out.symm (by have := HZ.out; have := HLEN.out; simp only [maxLen]; omega) (by have := HZ.out; have := HLEN.out; omega) (below_size (below_alloc HB1.out _)) (below_alloc HB1.out _) ?_; intro v2 w2 hown2 hb2; rw [← rowV_app, ← HLL.out] at hown2; obtain ⟨adl, cap, rfl, hcap, HL0⟩ := own_told (w := w) hown2 (by have := HLEN.out; omega); have HL := Aside0.mk HL0; have HB2 := Aside0.mk hb2; have HR2 := Aside0.mk (HR0.out.below hb2); have BX := Bx.start w2; have hcut := cut_list (some adl) ll.length cap l0.length (by omega) hcap; have HCAP := Aside0.mk hcap; clear hown2 hb2 HL0 HO1 HB1 hcap)
  | ((with_reducible refine gate_callee (f := 8) rfl ?_); refine goesL_ (some 17) rfl rfl Tryz.func8 kr rfl #[.slice (some adl) l0.length cap] rfl ga ?_; (with_reducible refine (Join_calls k (some adl) cap l0 _ (HT.out.on HB2.out) (by have := HL.out; rw [HLL.out] at this; exact RowAt.left this) (by omega) s1 s2 s3 s4 s5 s6 r1 r2 r3 r4 r5 r6 HS.out H1.out).mono ?_); rintro e w3 ⟨rfl, hb⟩; refine ⟨_, rfl, ?_⟩; replace BX := bx_call hb; clear hb)
  | ((with_reducible refine gate_dst (N := 4) rfl ?_); refine bxe 4 #[.int .i64 0, .int .i64 0, .int .i64 0, .string (⟨#[]⟩ : ByteArray), .bool false, .int .i64 0] 25 rfl rfl gr ?_; clear BX; intro g4 w4 GE4 BX))
 go_loopg [5] l0.length (fun kq v5 w' => ∃ i : Nat, v5 = .int .i64 (i : Int) ∧ Aside0 (i + kq = l0.length) ∧ Bx w2 w' [(g4, 25, #[.int .i64 r1, .int .i64 r2, .int .i64 r3, .string r4, .bool r5, .int .i64 r6])])
 case atStart => exact ⟨0, er, ⟨Nat.zero_add _⟩, bxi⟩
 case round =>
  clear BX
  obtain ⟨i, rfl, HI, BX⟩ := hrel
  cases gk with
  | zero =>
   obtain rfl : i = l0.length := by have := HI.out; omega
   have c1 : decide ((l0.length : Int) < (l0.length : Int)) = false := by simp
   have q2 : ((l0.length : Nat) : Int) < (ll.length : Int) := by omega
   have q3 : ((l0.length : Nat) : Int) + 1 < (ll.length : Int) := by omega
   obtain ⟨ad1, e1, z77, _⟩ := HL.out.get l0.length 77 0 0 ⟨#[]⟩ false 0 (by rw [HLL.out]; simp [more2])
   cases e1
   obtain ⟨ad2, e2, z78, _⟩ := HL.out.get (l0.length + 1) 78 0 0 ⟨#[]⟩ false 0 (by rw [HLL.out]; simp [more2])
   cases e2
   have wsum : IntKind.i64.wrap ((l0.length : Int) + 1) = (l0.length : Int) + 1 := IntWalk.i64_in _ (by omega)
   have tsum : ((l0.length : Int) + 1).toNat = l0.length + 1 := by omega
   have psum : 0 ≤ (l0.length : Int) + 1 := by omega
   replace q2 := eq_true q2
   replace q3 := eq_true q3
   go_wp2
   refine startb (n := 27) (ds := []) #[false, false, false, false, false, false, false, false, false, false, false, false, false, false, false, false, false, false, false, false, false, false, false, false, false, false, false] kr rfl rfl (fun BX1 => ?_)
   refine with_tabW ValueJoins_tab ValueJoins_bits (fun HT_ HW_ => ?_)
   clear BX
   have BX := BX1
   clear BX1
   generalize wr.drew = w9 at BX ⊢
   refine one_ (i := 0) (N := some 33) #[true, false, false, false, false, false, false, false, false, false, false, false, false, false, false, false, false, false, false, false, false, false, false, false, false, false, false] rfl rfl (one_of HT_.out kr) (by decide) (fun K hK => ?_)
   refine goes_ Tryz.func5 kr rfl #[] (by rfl) rfl rfl ga ?_
   with_reducible refine (whittlelaw2_able.calls k true _ ?side1 H3.out).mono ?_
   (case side1 => exact (HT.out.on HB2.out).on bx_bl)
   rintro e wc0 ⟨rfl, hb⟩
   refine ⟨_, rfl, ?_⟩
   replace BX := bx_call hb
   clear hb
   refine hK.out _ _ bxs (fun hHeld => ?_)
   clear hK K hHeld
   refine norm_ (a' := ?_) ?_ ?_
   rotate_left
   · show Act.put _ (some 33) _ = _
     simp only [Act.put, List.setIfInBounds_toArray, List.set_cons_zero, List.set_cons_succ, i64_w, i32_w]
     rfl
   refine pure_ (i := 1) (N := some 34) (v := ?_) (a' := ?_) #[true, true, false, false, false, false, false, false, false, false, false, false, false, false, false, false, false, false, false, false, false, false, false, false, false, false, false] rfl rfl (any_of HT_.out kr) (fun _ _ _ h => h) (Or.inl ⟨by rfl, ?_⟩) ?_ ?_
   rotate_left
   · intro w'
     go_simp
     with_reducible rfl
   rotate_left
   · simp only [Act.put, List.setIfInBounds_toArray, List.set_cons_zero, List.set_cons_succ, i64_w, i32_w]
     rfl
   refine pure_ (i := 3) (N := some 36) (v := ?_) (a' := ?_) #[true, true, false, true, false, false, false, false, false, false, false, false, false, false, false, false, false, false, false, false, false, false, false, false, false, false, false] rfl rfl (any_of HT_.out kr) (fun _ _ _ h => h) (Or.inl ⟨by rfl, ?_⟩) ?_ ?_
   rotate_left
   · intro w'
     go_simp
     with_reducible rfl
   rotate_left
   · simp only [Act.put, List.setIfInBounds_toArray, List.set_cons_zero, List.set_cons_succ, i64_w, i32_w]
     rfl
   refine take_ (i := 2) (N := some 35) (v := ?_) (a' := ?_) #[true, true, true, true, false, false, false, false, false, false, false, false, false, false, false, false, false, false, false, false, false, false, false, false, false, false, false] rfl rfl (take_ofW HT_.out HW_.out kr) (fun _ _ _ h => h) (Or.inl ⟨by rfl, ?_⟩) bxs ?_ ?_
   rotate_left
   · intro w' hS
     go_simp
     with_reducible rfl
   rotate_left
   · simp only [Act.put, List.setIfInBounds_toArray, List.set_cons_zero, List.set_cons_succ, i64_w, i32_w]
     rfl
   refine one_ (i := 4) (N := some 37) #[true, true, true, true, true, false, false, false, false, false, false, false, false, false, false, false, false, false, false, false, false, false, false, false, false, false, false] rfl rfl (one_of HT_.out kr) (by decide) (fun K hK => ?_)
   refine goes_ Tryz.func9 kr rfl #[.slice A0 l0.length c0] (by rfl) rfl rfl ga ?_
   with_reducible refine (JoinR_calls k A0 c0 l0 _ ?side2 (by omega) r1 r2 r3 r4 r5 r6 H2.out).mono ?_
   (case side2 => exact HR2.out.below bx_bl)
   rintro e wc4 ⟨rfl, hb⟩
   refine ⟨_, rfl, ?_⟩
   replace BX := bx_call hb
   clear hb
   refine hK.out _ _ bxs (fun hHeld => ?_)
   clear hK K hHeld
   refine norm_ (a' := ?_) ?_ ?_
   rotate_left
   · show Act.put _ (some 37) _ = _
     simp only [Act.put, List.setIfInBounds_toArray, List.set_cons_zero, List.set_cons_succ, i64_w, i32_w]
     rfl
   refine pure_ (i := 5) (N := some 38) (v := ?_) (a' := ?_) #[true, true, true, true, true, true, false, false, false, false, false, false, false, false, false, false, false, false, false, false, false, false, false, false, false, false, false] rfl rfl (any_of HT_.out kr) (fun _ _ _ h => h) (Or.inl ⟨by rfl, ?_⟩) ?_ ?_
   rotate_left
   · intro w'
     go_simp
     with_reducible rfl
   rotate_left
   · simp only [Act.put, List.setIfInBounds_toArray, List.set_cons_zero, List.set_cons_succ, i64_w, i32_w]
     rfl
   refine pure_ (i := 6) (N := some 39) (v := ?_) (a' := ?_) #[true, true, true, true, true, true, true, false, false, false, false, false, false, false, false, false, false, false, false, false, false, false, false, false, false, false, false] rfl rfl (any_of HT_.out kr) (fun _ _ _ h => h) (Or.inl ⟨by rfl, ?_⟩) ?_ ?_
   rotate_left
   · intro w'
     go_simp
     with_reducible rfl
   rotate_left
   · simp only [Act.put, List.setIfInBounds_toArray, List.set_cons_zero, List.set_cons_succ, i64_w, i32_w]
     rfl
   refine pure_ (i := 7) (N := some 40) (v := ?_) (a' := ?_) #[true, true, true, true, true, true, true, true, false, false, false, false, false, false, false, false, false, false, false, false, false, false, false, false, false, false, false] rfl rfl (any_of HT_.out kr) (fun _ _ _ h => h) (Or.inl ⟨by rfl, ?_⟩) ?_ ?_
   rotate_left
   · intro w'
     go_simp
     with_reducible rfl
   rotate_left
   · simp only [Act.put, List.setIfInBounds_toArray, List.set_cons_zero, List.set_cons_succ, i64_w, i32_w]
     rfl
   refine pure_ (i := 8) (N := some 41) (v := ?_) (a' := ?_) #[true, true, true, true, true, true, true, true, true, false, false, false, false, false, false, false, false, false, false, false, false, false, false, false, false, false, false] rfl rfl (any_of HT_.out kr) (fun _ _ _ h => h) (Or.inl ⟨by rfl, ?_⟩) ?_ ?_
   rotate_left
   · intro w'
     go_simp
     with_reducible rfl
   rotate_left
   · simp only [Act.put, List.setIfInBounds_toArray, List.set_cons_zero, List.set_cons_succ, i64_w, i32_w]
     rfl
   refine pure_ (i := 9) (N := some 42) (v := ?_) (a' := ?_) #[true, true, true, true, true, true, true, true, true, true, false, false, false, false, false, false, false, false, false, false, false, false, false, false, false, false, false] rfl rfl (any_of HT_.out kr) (fun _ _ _ h => h) (Or.inl ⟨by rfl, ?_⟩) ?_ ?_
   rotate_left
   · intro w'
     go_simp
     with_reducible rfl
   rotate_left
   · simp only [Act.put, List.setIfInBounds_toArray, List.set_cons_zero, List.set_cons_succ, i64_w, i32_w]
     rfl
   refine pure_ (i := 10) (N := some 43) (v := ?_) (a' := ?_) #[true, true, true, true, true, true, true, true, true, true, true, false, false, false, false, false, false, false, false, false, false, false, false, false, false, false, false] rfl rfl (any_of HT_.out kr) (fun _ _ _ h => h) (Or.inl ⟨by rfl, ?_⟩) ?_ ?_
   rotate_left
   · intro w'
     go_simp
     with_reducible rfl
   rotate_left
   · simp only [Act.put, List.setIfInBounds_toArray, List.set_cons_zero, List.set_cons_succ, i64_w, i32_w]
     rfl
   refine pure_ (i := 11) (N := some 44) (v := ?_) (a' := ?_) #[true, true, true, true, true, true, true, true, true, true, true, true, false, false, false, false, false, false, false, false, false, false, false, false, false, false, false] rfl rfl (any_of HT_.out kr) (fun _ _ _ h => h) (Or.inl ⟨by rfl, ?_⟩) ?_ ?_
   rotate_left
   · intro w'
     go_simp
     with_reducible rfl
   rotate_left
   · simp only [Act.put, List.setIfInBounds_toArray, List.set_cons_zero, List.set_cons_succ, i64_w, i32_w]
     rfl
   refine pure_ (i := 12) (N := some 45) (v := ?_) (a' := ?_) #[true, true, true, true, true, true, true, true, true, true, true, true, true, false, false, false, false, false, false, false, false, false, false, false, false, false, false] rfl rfl (any_of HT_.out kr) (fun _ _ _ h => h) (Or.inl ⟨by rfl, ?_⟩) ?_ ?_
   rotate_left
   · intro w'
     go_simp
     with_reducible rfl
   rotate_left
   · simp only [Act.put, List.setIfInBounds_toArray, List.set_cons_zero, List.set_cons_succ, i64_w, i32_w]
     rfl
   refine take_ (i := 13) (N := some 46) (v := ?_) (a' := ?_) #[true, true, true, true, true, true, true, true, true, true, true, true, true, true, false, false, false, false, false, false, false, false, false, false, false, false, false] rfl rfl (take_ofW HT_.out HW_.out kr) (fun _ _ _ h => h) (Or.inl ⟨by rfl, ?_⟩) bxs ?_ ?_
   rotate_left
   · intro w' hS
     have y := ((hS.bl).cell (World.block_lt_of_cell? w2 _ z77)).trans z77
     go_simp
     with_reducible rfl
   rotate_left
   · simp only [Act.put, List.setIfInBounds_toArray, List.set_cons_zero, List.set_cons_succ, i64_w, i32_w]
     rfl
   refine pure_ (i := 14) (N := some 47) (v := ?_) (a' := ?_) #[true, true, true, true, true, true, true, true, true, true, true, true, true, true, true, false, false, false, false, false, false, false, false, false, false, false, false] rfl rfl (any_of HT_.out kr) (fun _ _ _ h => h) (Or.inl ⟨by rfl, ?_⟩) ?_ ?_
   rotate_left
   · intro w'
     go_simp
     with_reducible rfl
   rotate_left
   · simp only [Act.put, List.setIfInBounds_toArray, List.set_cons_zero, List.set_cons_succ, i64_w, i32_w]
     rfl
   refine pure_ (i := 15) (N := some 48) (v := ?_) (a' := ?_) #[true, true, true, true, true, true, true, true, true, true, true, true, true, true, true, true, false, false, false, false, false, false, false, false, false, false, false] rfl rfl (any_of HT_.out kr) (fun _ _ _ h => h) (Or.inl ⟨by rfl, ?_⟩) ?_ ?_
   rotate_left
   · intro w'
     go_simp
     with_reducible rfl
   rotate_left
   · simp only [Act.put, List.setIfInBounds_toArray, List.set_cons_zero, List.set_cons_succ, i64_w, i32_w]
     rfl
   refine pure_ (i := 16) (N := some 49) (v := ?_) (a' := ?_) #[true, true, true, true, true, true, true, true, true, true, true, true, true, true, true, true, true, false, false, false, false, false, false, false, false, false, false] rfl rfl (any_of HT_.out kr) (fun _ _ _ h => h) (Or.inl ⟨by rfl, ?_⟩) ?_ ?_
   rotate_left
   · intro w'
     go_simp
     with_reducible rfl
   rotate_left
   · simp only [Act.put, List.setIfInBounds_toArray, List.set_cons_zero, List.set_cons_succ, i64_w, i32_w]
     rfl
   refine pure_ (i := 17) (N := some 50) (v := ?_) (a' := ?_) #[true, true, true, true, true, true, true, true, true, true, true, true, true, true, true, true, true, true, false, false, false, false, false, false, false, false, false] rfl rfl (any_of HT_.out kr) (fun _ _ _ h => h) (Or.inl ⟨by rfl, ?_⟩) ?_ ?_
   rotate_left
   · intro w'
     go_simp
     with_reducible rfl
   rotate_left
   · simp only [Act.put, List.setIfInBounds_toArray, List.set_cons_zero, List.set_cons_succ, i64_w, i32_w]
     rfl
   refine pure_ (i := 18) (N := some 51) (v := ?_) (a' := ?_) #[true, true, true, true, true, true, true, true, true, true, true, true, true, true, true, true, true, true, true, false, false, false, false, false, false, false, false] rfl rfl (any_of HT_.out kr) (fun _ _ _ h => h) (Or.inl ⟨by rfl, ?_⟩) ?_ ?_
   rotate_left
   · intro w'
     go_simp
     with_reducible rfl
   rotate_left
   · simp only [Act.put, List.setIfInBounds_toArray, List.set_cons_zero, List.set_cons_succ, i64_w, i32_w]
     rfl
   refine pure_ (i := 19) (N := some 52) (v := ?_) (a' := ?_) #[true, true, true, true, true, true, true, true, true, true, true, true, true, true, true, true, true, true, true, true, false, false, false, false, false, false, false] rfl rfl (any_of HT_.out kr) (fun _ _ _ h => h) (Or.inl ⟨by rfl, ?_⟩) ?_ ?_
   rotate_left
   · intro w'
     go_simp
     with_reducible rfl
   rotate_left
   · simp only [Act.put, List.setIfInBounds_toArray, List.set_cons_zero, List.set_cons_succ, i64_w, i32_w]
     rfl
   refine pure_ (i := 20) (N := some 53) (v := ?_) (a' := ?_) #[true, true, true, true, true, true, true, true, true, true, true, true, true, true, true, true, true, true, true, true, true, false, false, false, false, false, false] rfl rfl (any_of HT_.out kr) (fun _ _ _ h => h) (Or.inl ⟨by rfl, ?_⟩) ?_ ?_
   rotate_left
   · intro w'
     go_simp
     with_reducible rfl
   rotate_left
   · simp only [Act.put, List.setIfInBounds_toArray, List.set_cons_zero, List.set_cons_succ, i64_w, i32_w]
     rfl
   refine pure_ (i := 21) (N := some 54) (v := ?_) (a' := ?_) #[true, true, true, true, true, true, true, true, true, true, true, true, true, true, true, true, true, true, true, true, true, true, false, false, false, false, false] rfl rfl (any_of HT_.out kr) (fun _ _ _ h => h) (Or.inl ⟨by rfl, ?_⟩) ?_ ?_
   rotate_left
   · intro w'
     go_simp
     with_reducible rfl
   rotate_left
   · simp only [Act.put, List.setIfInBounds_toArray, List.set_cons_zero, List.set_cons_succ, i64_w, i32_w]
     rfl
   refine pure_ (i := 22) (N := some 55) (v := ?_) (a' := ?_) #[true, true, true, true, true, true, true, true, true, true, true, true, true, true, true, true, true, true, true, true, true, true, true, false, false, false, false] rfl rfl (any_of HT_.out kr) (fun _ _ _ h => h) (Or.inl ⟨by rfl, ?_⟩) ?_ ?_
   rotate_left
   · intro w'
     go_simp
     with_reducible rfl
   rotate_left
   · simp only [Act.put, List.setIfInBounds_toArray, List.set_cons_zero, List.set_cons_succ, i64_w, i32_w]
     rfl
   refine take_ (i := 23) (N := some 56) (v := ?_) (a' := ?_) #[true, true, true, true, true, true, true, true, true, true, true, true, true, true, true, true, true, true, true, true, true, true, true, true, false, false, false] rfl rfl (take_ofW HT_.out HW_.out kr) (fun _ _ _ h => h) (Or.inl ⟨by rfl, ?_⟩) bxs ?_ ?_
   rotate_left
   · intro w' hS
     have y := ((hS.bl).cell (World.block_lt_of_cell? w2 _ z78)).trans z78
     go_simp
     with_reducible rfl
   rotate_left
   · simp only [Act.put, List.setIfInBounds_toArray, List.set_cons_zero, List.set_cons_succ, i64_w, i32_w]
     rfl
   refine pure_ (i := 24) (N := some 57) (v := ?_) (a' := ?_) #[true, true, true, true, true, true, true, true, true, true, true, true, true, true, true, true, true, true, true, true, true, true, true, true, true, false, false] rfl rfl (any_of HT_.out kr) (fun _ _ _ h => h) (Or.inl ⟨by rfl, ?_⟩) ?_ ?_
   rotate_left
   · intro w'
     go_simp
     with_reducible rfl
   rotate_left
   · simp only [Act.put, List.setIfInBounds_toArray, List.set_cons_zero, List.set_cons_succ, i64_w, i32_w]
     rfl
   refine pure_ (i := 25) (N := some 58) (v := ?_) (a' := ?_) #[true, true, true, true, true, true, true, true, true, true, true, true, true, true, true, true, true, true, true, true, true, true, true, true, true, true, false] rfl rfl (any_of HT_.out kr) (fun _ _ _ h => h) (Or.inl ⟨by rfl, ?_⟩) ?_ ?_
   rotate_left
   · intro w'
     go_simp
     with_reducible rfl
   rotate_left
   · simp only [Act.put, List.setIfInBounds_toArray, List.set_cons_zero, List.set_cons_succ, i64_w, i32_w]
     rfl
   refine pure_ (i := 26) (N := some 2) (v := ?_) (a' := ?_) #[true, true, true, true, true, true, true, true, true, true, true, true, true, true, true, true, true, true, true, true, true, true, true, true, true, true, true] rfl rfl (any_of HT_.out kr) (fun _ _ _ h => h) (Or.inl ⟨by rfl, ?_⟩) ?_ ?_
   rotate_left
   · intro w'
     go_simp
     with_reducible rfl
   rotate_left
   · simp only [Act.put, List.setIfInBounds_toArray, List.set_cons_zero, List.set_cons_succ, i64_w, i32_w]
     rfl
   refine done_ (done_of HT_.out kr) ?_
   try go_wp2
   go_ret
   exact ⟨rfl, below_then HB2.out HB2.out.size bx_bl⟩
  | succ k1 =>
   have hi : i < l0.length := by have := HI.out; omega
   have c1 : decide ((i : Int) < (l0.length : Int)) = true := decide_eq_true (by omega)
   have p1 : 0 ≤ (i : Int) := by omega
   have q1 : (i : Int) < (l0.length : Int) := by omega
   have q2 : (i : Int) < (ll.length : Int) := by omega
   obtain ⟨⟨x1, x2, x3, x4, x5, x6⟩, hx⟩ : ∃ x : VV, l0[i]? = some x := ⟨_, List.getElem?_eq_getElem hi⟩
   obtain ⟨ad0, e0, y1, y2, y3, y4, y5, y6⟩ := (HR2.out.below (bx_bl (w := wr))).get i _ _ _ _ _ _ hx
   cases e0
   obtain ⟨ad1, e1, z1, z2, z3, z4, z5, z6⟩ := (HL.out.below (bx_bl (w := wr))).get i x1 x2 x3 x4 x5 x6 (by rw [HLL.out, List.getElem?_append_left hi]; exact hx)
   cases e1
   clear hx
   replace p1 := eq_true p1
   replace q1 := eq_true q1
   replace q2 := eq_true q2
   go_wp2
   go_quiet (fail)
   go_wp2
   go_roundg k1
   case measure => omega
   case rel => exact ⟨i + 1, er, ⟨by have := HI.out; omega⟩, bxi⟩
end Go.Proofs.YtmakkdlkgfgaoaaGreatDoor.F
