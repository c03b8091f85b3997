/-
The walk of ValueTexts: texts put together by Join and by OpJoin.
-/
import Derived.Test.YtmakkdlkgfgaoaaDoorF130
import Derived.Test.YtmakkdlkgfgaoaaDoorF100
import Derived.Test.YtmakkdlkgfgaoaaDoorF112
namespace Go.Proofs.YtmakkdlkgfgaoaaDoor.F
open Go.RowKit Go.Proofs.YtmakkdlkgfgaoaaDoorW.PrintWords Go.Proofs.YtmakkdlkgfgaoaaDoorW.PrintLast Go.Proofs.YtmakkdlkgfgaoaaDoorW.PrintMore
attribute [local go_sem high] bx_cell bx_frozen eqA25
set_option linter.unusedVariables false
set_option linter.unusedSimpArgs false
def VT4_T : Bool × List (List Nat × List Nat) := (true, [([], []), ([], []), ([0, 1], [0, 1]), ([2], [2]), ([], []), ([4], [4]), ([5, 3], [5]), ([], []), ([6, 7, 6], [6, 7]), ([3, 8], [3, 8]), ([9, 8], [9]), ([10], [10]), ([11, 10], [10, 11]), ([12, 10], [10, 12]), ([13, 10, 10], [10, 13]), ([14], [14]), ([14], [14]), ([15, 16, 14], [14, 15, 16]), ([17, 14, 14], [14, 17]), ([14], [14]), ([18, 19, 14], [14, 18, 19]), ([20, 18, 14], [14, 20]), ([21], [21]), ([22, 21], [21, 22]), ([23, 21], [21, 23]), ([21, 24, 14], [14, 21, 24]), ([14, 25, 10], [10, 14, 25]), ([10, 26], [10, 26])])
def VT4_B : List Nat := [0, 0, 3, 7, 0, 16, 63, 0, 255, 511, 1023, 2047, 4095, 8191, 16383, 32767, 32767, 131071, 262143, 32767, 1048575, 2097151, 4194303, 8388607, 16777215, 33554431, 67108863, 134217727]
theorem VT4_tab : rtab .any (opsOf Tryd.f10 4) = VT4_T := by kernel_rfl
theorem VT4_bits : waitsOk VT4_T.2 VT4_B = true := by kernel_rfl
def VT8_T : Bool × List (List Nat × List Nat) := (true, [([], []), ([0], [0]), ([1], [1]), ([2], [2]), ([3], [3]), ([4, 3], [3, 4]), ([5, 3], [3, 5]), ([3, 6], [3, 6]), ([7, 3], [7]), ([8], [8]), ([8], [8]), ([9, 10, 8], [8, 9, 10]), ([11, 8, 8], [8, 11]), ([12], [12]), ([12], [12]), ([12], [12]), ([13, 14, 15, 12], [12, 13, 14, 15]), ([16, 12, 12], [12, 16]), ([12], [12]), ([17, 18, 12], [12, 17, 18]), ([12, 19, 8], [8, 12, 19]), ([8, 20], [8, 20]), ([21, 17, 0, 1, 2, 3, 4, 5, 6, 7, 8, 9, 10, 11, 12, 13, 14, 15, 16, 17, 18, 19, 20, 21], [21])])
def VT8_B : List Nat := [0, 1, 3, 7, 15, 31, 63, 127, 255, 511, 511, 2047, 4095, 8191, 8191, 8191, 65535, 131071, 8191, 524287, 1048575, 2097151, 4194303]
theorem VT8_tab : rtab .any (opsOf Tryd.f10 8) = VT8_T := by kernel_rfl
theorem VT8_bits : waitsOk VT8_T.2 VT8_B = true := by kernel_rfl
set_option maxHeartbeats 8000000 in
set_option maxRecDepth 100000 in
theorem ValueTexts_x4 (k : Nat) (a1 a2 a3 : Int) (a4 : ByteArray) (a5 : Bool) (a6 : Int) (b1 b2 b3 : Int) (b4 : ByteArray) (b5 : Bool) (b6 : Int) (c1 c2 c3 : Int) (c4 : ByteArray) (c5 : Bool) (c6 : Int) (s1 s2 s3 : Int) (s4 : ByteArray) (s5 : Bool) (s6 : Int) (w : World) (HT0 : TabAt w) (x2 x3 : Int) (x4 : ByteArray) (x5 : Bool) (x6 : Int) (j1 j2 j3 : Int) (j4 : ByteArray) (j5 : Bool) (j6 : Int) (i1 i2 i3 : Int) (i4 : ByteArray) (i5 : Bool) (i6 : Int) (q1 q2 q3 : Int) (q4 : ByteArray) (q5 : Bool) (q6 : Int) (l2 l3 : Int) (l4 : ByteArray) (l5 : Bool) (l6 : Int) (r1 r2 r3 : Int) (r4 : ByteArray) (r5 : Bool) (r6 : Int)
   (hA : whittlelaw2_able.f k = some true) (hs : value_Text.f k (⟨#[]⟩ : ByteArray) = some (s1, s2, s3, s4, s5, s6)) (hx : value_Bin.f k 16 a1 a2 a3 a4 a5 a6 b1 b2 b3 b4 b5 b6 = some (4, x2, x3, x4, x5, x6)) (hj2 : joinL k (s1, s2, s3, s4, s5, s6) [(a1, a2, a3, a4, a5, a6), (b1, b2, b3, b4, b5, b6)] = some (j1, j2, j3, j4, j5, j6)) (hj1 : joinL k (s1, s2, s3, s4, s5, s6) [(a1, a2, a3, a4, a5, a6)] = some (i1, i2, i3, i4, i5, i6)) (hb_ : value_Bin.f k 16 i1 i2 i3 i4 i5 i6 b1 b2 b3 b4 b5 b6 = some (j1, j2, j3, j4, j5, j6))
   (hl : value_Bin.f k 16 4 x2 x3 x4 x5 x6 c1 c2 c3 c4 c5 c6 = some (4, l2, l3, l4, l5, l6)) (hq : value_Bin.f k 16 b1 b2 b3 b4 b5 b6 c1 c2 c3 c4 c5 c6 = some (q1, q2, q3, q4, q5, q6)) (hr : value_Bin.f k 16 a1 a2 a3 a4 a5 a6 q1 q2 q3 q4 q5 q6 = some (r1, r2, r3, r4, r5, r6)) :
  Calls Tryd.prog 10 #[.agg #[.int .i64 a1, .int .i64 a2, .int .i64 a3, .string a4, .bool a5, .int .i64 a6], .agg #[.int .i64 b1, .int .i64 b2, .int .i64 b3, .string b4, .bool b5, .int .i64 b6], .agg #[.int .i64 c1, .int .i64 c2, .int .i64 c3, .string c4, .bool c5, .int .i64 c6]] w fun e w' => e = .returned (.bool true) ∧ Below w.heap.size w w' := by
 have hu25 := Tryd.underlying25
 have HT := Aside0.mk HT0
 have HA := Aside0.mk hA
 have HS := Aside0.mk hs
 have HX := Aside0.mk hx
 have HJ2 := Aside0.mk hj2
 have HJ1 := Aside0.mk hj1
 have HB := Aside0.mk hb_
 have HL := Aside0.mk hl
 have HQ := Aside0.mk hq
 have HRR := Aside0.mk hr
 clear HT0 hA hs hx hj2 hj1 hb_ hl hq hr
 have BX := Bx.start w
 go_enter Tryd.func10, Tryd.ntmps10
 go_wp2_with (first
  | ((with_reducible refine gate_dst (N := 3) rfl ?_); refine bxe 3 #[.int .i64 a1, .int .i64 a2, .int .i64 a3, .string a4, .bool a5, .int .i64 a6] 25 rfl rfl gr ?_; clear BX; intro g3 w_g3 GEg3 BX)
  | ((with_reducible refine gate_dst (N := 4) rfl ?_); refine bxe 4 #[.int .i64 b1, .int .i64 b2, .int .i64 b3, .string b4, .bool b5, .int .i64 b6] 25 rfl rfl gr ?_; clear BX; intro g4 w_g4 GEg4 BX)
  | ((with_reducible refine gate_dst (N := 5) rfl ?_); refine bxe 5 #[.int .i64 c1, .int .i64 c2, .int .i64 c3, .string c4, .bool c5, .int .i64 c6] 25 rfl rfl gr ?_; clear BX; intro g5 w_g5 GEg5 BX)
  | ((with_reducible refine gate_callee (f := 15) rfl ?_); refine goesL_ (some 10) rfl rfl Tryd.func15 kr rfl #[] rfl ga ?_; (with_reducible refine (whittlelaw2_able.calls k true _ ?side1 HA.out).mono ?_); (case side1 => exact HT.out.on bx_bl); rintro e wc10 ⟨rfl, hb⟩; refine ⟨_, rfl, ?_⟩; replace BX := bx_call hb; clear hb)
  | ((with_reducible refine gate_callee (f := 31) rfl ?_); refine goesL_ (some 14) rfl rfl Tryd.func31 kr rfl #[.int .i64 16, .agg #[.int .i64 a1, .int .i64 a2, .int .i64 a3, .string a4, .bool a5, .int .i64 a6], .agg #[.int .i64 b1, .int .i64 b2, .int .i64 b3, .string b4, .bool b5, .int .i64 b6]] rfl ga ?_; (with_reducible refine (value_Bin.calls k 16 a1 a2 a3 a4 a5 a6 b1 b2 b3 b4 b5 b6 4 x2 x3 x4 x5 x6 _ ?side1 HX.out).mono ?_); (case side1 => exact HT.out.on bx_bl); rintro e wc14 ⟨rfl, hb⟩; refine ⟨_, rfl, ?_⟩; replace BX := bx_call hb; clear hb)
  | ((with_reducible refine gate_dst (N := 7) rfl ?_); refine bxe 7 #[.int .i64 0, .int .i64 0, .int .i64 0, .string (⟨#[]⟩ : ByteArray), .bool false, .int .i64 0] 25 rfl rfl gr ?_; clear BX; intro g7 w_g7 GEg7 BX))
 refine startb (n := 28) (ds := []) #[false, false, false, false, false, false, false, false, false, false, false, false, false, false, false, false, false, false, false, false, false, false, false, false, false, false, false, false] kr rfl rfl (fun BX1 => ?_)
 refine with_tabW VT4_tab VT4_bits (fun HT_ HW_ => ?_)
 clear BX
 have BX := BX1
 clear BX1
 skip
 refine take_ (i := 0) (N := some 15) (v := ?_) (a' := ?_) #[true, false, false, false, false, false, false, false, false, false, false, false, false, false, false, false, false, false, false, false, false, false, false, false, false, false, false, false] rfl rfl (take_ofW HT_.out HW_.out kr) (fun _ _ _ h => h) (Or.inl ⟨by rfl, ?_⟩) bxs ?_ ?_
 rotate_left
 · intro w' hS
   go_simp
   with_reducible rfl
 rotate_left
 · exact nr1
 refine take_ (i := 1) (N := some 16) (v := ?_) (a' := ?_) #[true, true, false, false, false, false, false, false, false, false, false, false, false, false, false, false, false, false, false, false, false, false, false, false, false, false, false, false] rfl rfl (take_ofW HT_.out HW_.out kr) (fun _ _ _ h => h) (Or.inl ⟨by rfl, ?_⟩) bxs ?_ ?_
 rotate_left
 · intro w' hS
   go_simp
   with_reducible rfl
 rotate_left
 · exact nr1
 refine take_ (i := 4) (N := some 19) (v := ?_) (a' := ?_) #[true, true, false, false, true, false, false, false, false, false, false, false, false, false, false, false, false, false, false, false, false, false, false, false, false, false, false, false] rfl rfl (take_ofW HT_.out HW_.out kr) (fun _ _ _ h => h) (Or.inl ⟨by rfl, ?_⟩) bxs ?_ ?_
 rotate_left
 · intro w' hS
   go_simp
   with_reducible rfl
 rotate_left
 · exact nr1
 refine take_ (i := 7) (N := some 22) (v := ?_) (a' := ?_) #[true, true, false, false, true, false, false, true, false, false, false, false, false, false, false, false, false, false, false, false, false, false, false, false, false, false, false, false] rfl rfl (take_ofW HT_.out HW_.out kr) (fun _ _ _ h => h) (Or.inl ⟨by rfl, ?_⟩) bxs ?_ ?_
 rotate_left
 · intro w' hS
   go_simp
   with_reducible rfl
 rotate_left
 · exact nr1
 refine join_ (σ := Nat × Nat) 21 #[true, true, true, true, true, true, false, true, false, false, false, false, false, false, false, false, false, false, false, false, false, false, false, false, false, false, false, false] (fun s_ => [(17, .slice (some ⟨s_.1, 0, none⟩) 2 2), (20, .slice (some ⟨s_.2, 0, none⟩) 1 1), (18, .agg #[.int .i64 j1, .int .i64 j2, .int .i64 j3, .string j4, .bool j5, .int .i64 j6])]) (fun s_ w' => Bx w w' ((s_.2, 25, #[.int .i64 a1, .int .i64 a2, .int .i64 a3, .string a4, .bool a5, .int .i64 a6]) :: (s_.1, 25, #[.int .i64 a1, .int .i64 a2, .int .i64 a3, .string a4, .bool a5, .int .i64 a6, .int .i64 b1, .int .i64 b2, .int .i64 b3, .string b4, .bool b5, .int .i64 b6]) :: [(g7, 25, #[.int .i64 4, .int .i64 x2, .int .i64 x3, .string x4, .bool x5, .int .i64 x6]), (g5, 25, #[.int .i64 c1, .int .i64 c2, .int .i64 c3, .string c4, .bool c5, .int .i64 c6]), (g4, 25, #[.int .i64 b1, .int .i64 b2, .int .i64 b3, .string b4, .bool b5, .int .i64 b6]), (g3, 25, #[.int .i64 a1, .int .i64 a2, .int .i64 a3, .string a4, .bool a5, .int .i64 a6])])) ?_ (fun hJ => ?_)
 rotate_left
 · skip
   refine two_ (i := 2) (j := 5) (Ni := some 17) (Nj := some 20) #[true, true, true, false, true, false, false, true, false, false, false, false, false, false, false, false, false, false, false, false, false, false, false, false, false, false, false, false] #[true, true, false, false, true, true, false, true, false, false, false, false, false, false, false, false, false, false, false, false, false, false, false, false, false, false, false, false] rfl rfl rfl rfl (two_of HT_.out kr) (by decide) (by decide) (fun K hK => ?_) (fun K hK => ?_)
   · skip
     refine slice1 17 2 #[.int .i64 a1, .int .i64 a2, .int .i64 a3, .string a4, .bool a5, .int .i64 a6, .int .i64 b1, .int .i64 b2, .int .i64 b3, .string b4, .bool b5, .int .i64 b6] 25 rfl rfl gr ?_
     clear BX
     intro g17 wv2 BX
     refine hK.out _ _ bxs (fun hHeld => ?_)
     clear hK K hHeld
     refine norm_ (a' := ?_) ?_ ?_
     rotate_left
     · show Act.put _ (some 17) _ = _
       exact nr1
     refine two_ (i := 3) (j := 5) (Ni := some 18) (Nj := some 20) #[true, true, true, true, true, false, false, true, false, false, false, false, false, false, false, false, false, false, false, false, false, false, false, false, false, false, false, false] #[true, true, true, false, true, true, false, true, false, false, false, false, false, false, false, false, false, false, false, false, false, false, false, false, false, false, false, false] rfl rfl rfl rfl (two_of HT_.out kr) (by decide) (by decide) (fun K hK => ?_) (fun K hK => ?_)
     · skip
       refine goes_ Tryd.func36 kr rfl #[.slice (some ⟨g17, 0, none⟩) 2 2] (by rfl) rfl rfl ga ?_
       with_reducible refine (Join_callsN k (some ⟨g17, 0, none⟩) 2 2 [(a1, a2, a3, a4, a5, a6), (b1, b2, b3, b4, b5, b6)] rfl _ ?sd1a ?sd1b (by decide) s1 s2 s3 s4 s5 s6 j1 j2 j3 j4 j5 j6 HS.out HJ2.out).mono ?_
       (case sd1a => exact HT.out.on bx_bl)
       (case sd1b => exact row_of_box (l := [(a1, a2, a3, a4, a5, a6), (b1, b2, b3, b4, b5, b6)]) bx_get)
       rintro e wv3 ⟨rfl, hb⟩
       refine ⟨_, rfl, ?_⟩
       replace BX := bx_call hb
       clear hb
       refine hK.out _ _ bxs (fun hHeld => ?_)
       clear hK K hHeld
       refine norm_ (a' := ?_) ?_ ?_
       rotate_left
       · show Act.put _ (some 18) _ = _
         exact nr1
       refine one_ (i := 5) (N := some 20) #[true, true, true, true, true, true, false, true, false, false, false, false, false, false, false, false, false, false, false, false, false, false, false, false, false, false, false, false] rfl rfl (one_of HT_.out kr) (by decide) (fun K hK => ?_)
       refine slice1 20 1 #[.int .i64 a1, .int .i64 a2, .int .i64 a3, .string a4, .bool a5, .int .i64 a6] 25 rfl rfl gr ?_
       clear BX
       intro g20 wv5 BX
       refine hK.out _ _ bxs (fun hHeld => ?_)
       clear hK K hHeld
       refine norm_ (a' := ?_) ?_ ?_
       rotate_left
       · show Act.put _ (some 20) _ = _
         exact nr1
       exact norm_ nrm (hJ (g17, g20) _ bxs)
     · skip
       refine slice1 20 1 #[.int .i64 a1, .int .i64 a2, .int .i64 a3, .string a4, .bool a5, .int .i64 a6] 25 rfl rfl gr ?_
       clear BX
       intro g20 wv5 BX
       refine hK.out _ _ bxs (fun hHeld => ?_)
       clear hK K hHeld
       refine norm_ (a' := ?_) ?_ ?_
       rotate_left
       · show Act.put _ (some 20) _ = _
         exact nr1
       refine one_ (i := 3) (N := some 18) #[true, true, true, true, true, true, false, true, false, false, false, false, false, false, false, false, false, false, false, false, false, false, false, false, false, false, false, false] rfl rfl (one_of HT_.out kr) (by decide) (fun K hK => ?_)
       refine goes_ Tryd.func36 kr rfl #[.slice (some ⟨g17, 0, none⟩) 2 2] (by rfl) rfl rfl ga ?_
       with_reducible refine (Join_callsN k (some ⟨g17, 0, none⟩) 2 2 [(a1, a2, a3, a4, a5, a6), (b1, b2, b3, b4, b5, b6)] rfl _ ?sd2a ?sd2b (by decide) s1 s2 s3 s4 s5 s6 j1 j2 j3 j4 j5 j6 HS.out HJ2.out).mono ?_
       (case sd2a => exact HT.out.on bx_bl)
       (case sd2b => exact row_of_box (l := [(a1, a2, a3, a4, a5, a6), (b1, b2, b3, b4, b5, b6)]) bx_get)
       rintro e wv3 ⟨rfl, hb⟩
       refine ⟨_, rfl, ?_⟩
       replace BX := bx_call hb
       clear hb
       refine hK.out _ _ bxs (fun hHeld => ?_)
       clear hK K hHeld
       refine norm_ (a' := ?_) ?_ ?_
       rotate_left
       · show Act.put _ (some 18) _ = _
         exact nr1
       exact norm_ nrm (hJ (g17, g20) _ bxs)
   · skip
     refine slice1 20 1 #[.int .i64 a1, .int .i64 a2, .int .i64 a3, .string a4, .bool a5, .int .i64 a6] 25 rfl rfl gr ?_
     clear BX
     intro g20 wv5 BX
     refine hK.out _ _ bxs (fun hHeld => ?_)
     clear hK K hHeld
     refine norm_ (a' := ?_) ?_ ?_
     rotate_left
     · show Act.put _ (some 20) _ = _
       exact nr1
     refine one_ (i := 2) (N := some 17) #[true, true, true, false, true, true, false, true, false, false, false, false, false, false, false, false, false, false, false, false, false, false, false, false, false, false, false, false] rfl rfl (one_of HT_.out kr) (by decide) (fun K hK => ?_)
     refine slice1 17 2 #[.int .i64 a1, .int .i64 a2, .int .i64 a3, .string a4, .bool a5, .int .i64 a6, .int .i64 b1, .int .i64 b2, .int .i64 b3, .string b4, .bool b5, .int .i64 b6] 25 rfl rfl gr ?_
     clear BX
     intro g17 wv2 BX
     refine hK.out _ _ bxs (fun hHeld => ?_)
     clear hK K hHeld
     refine norm_ (a' := ?_) ?_ ?_
     rotate_left
     · show Act.put _ (some 17) _ = _
       exact nr1
     refine one_ (i := 3) (N := some 18) #[true, true, true, true, true, true, false, true, false, false, false, false, false, false, false, false, false, false, false, false, false, false, false, false, false, false, false, false] rfl rfl (one_of HT_.out kr) (by decide) (fun K hK => ?_)
     refine goes_ Tryd.func36 kr rfl #[.slice (some ⟨g17, 0, none⟩) 2 2] (by rfl) rfl rfl ga ?_
     with_reducible refine (Join_callsN k (some ⟨g17, 0, none⟩) 2 2 [(a1, a2, a3, a4, a5, a6), (b1, b2, b3, b4, b5, b6)] rfl _ ?sd3a ?sd3b (by decide) s1 s2 s3 s4 s5 s6 j1 j2 j3 j4 j5 j6 HS.out HJ2.out).mono ?_
     (case sd3a => exact HT.out.on bx_bl)
     (case sd3b => exact row_of_box (l := [(a1, a2, a3, a4, a5, a6), (b1, b2, b3, b4, b5, b6)]) bx_get)
     rintro e wv3 ⟨rfl, hb⟩
     refine ⟨_, rfl, ?_⟩
     replace BX := bx_call hb
     clear hb
     refine hK.out _ _ bxs (fun hHeld => ?_)
     clear hK K hHeld
     refine norm_ (a' := ?_) ?_ ?_
     rotate_left
     · show Act.put _ (some 18) _ = _
       exact nr1
     exact norm_ nrm (hJ (g17, g20) _ (bxw bxs))
 rintro ⟨g17, g20⟩ wj BX2
 clear BX
 have BX := BX2
 clear BX2
 refine norm_ (a' := ?_) ?_ ?_
 rotate_left
 · simp only [putAll, Act.put, List.setIfInBounds_toArray, List.set_cons_zero, List.set_cons_succ]
   rfl
 refine one_ (i := 6) (N := some 21) #[true, true, true, true, true, true, true, true, false, false, false, false, false, false, false, false, false, false, false, false, false, false, false, false, false, false, false, false] rfl rfl (one_of HT_.out kr) (by decide) (fun K hK => ?_)
 refine goes_ Tryd.func36 kr rfl #[.slice (some ⟨g20, 0, none⟩) 1 1] (by rfl) rfl rfl ga ?_
 with_reducible refine (Join_callsN k (some ⟨g20, 0, none⟩) 1 1 [(a1, a2, a3, a4, a5, a6)] rfl _ ?sd4a ?sd4b (by decide) s1 s2 s3 s4 s5 s6 i1 i2 i3 i4 i5 i6 HS.out HJ1.out).mono ?_
 (case sd4a => exact HT.out.on bx_bl)
 (case sd4b => exact row_of_box (l := [(a1, a2, a3, a4, a5, a6)]) bx_get)
 rintro e wv6 ⟨rfl, hb⟩
 refine ⟨_, rfl, ?_⟩
 replace BX := bx_call hb
 clear hb
 refine hK.out _ _ bxs (fun hHeld => ?_)
 clear hK K hHeld
 refine norm_ (a' := ?_) ?_ ?_
 rotate_left
 · show Act.put _ (some 21) _ = _
   exact nr1
 refine one_ (i := 8) (N := some 23) #[true, true, true, true, true, true, true, true, true, false, false, false, false, false, false, false, false, false, false, false, false, false, false, false, false, false, false, false] rfl rfl (one_of HT_.out kr) (by decide) (fun K hK => ?_)
 refine goes_ Tryd.func31 kr rfl #[.int .i64 16, .agg #[.int .i64 i1, .int .i64 i2, .int .i64 i3, .string i4, .bool i5, .int .i64 i6], .agg #[.int .i64 b1, .int .i64 b2, .int .i64 b3, .string b4, .bool b5, .int .i64 b6]] (by rfl) rfl rfl ga ?_
 with_reducible refine (value_Bin.calls k 16 i1 i2 i3 i4 i5 i6 b1 b2 b3 b4 b5 b6 j1 j2 j3 j4 j5 j6 _ ?sd5a HB.out).mono ?_
 (case sd5a => exact HT.out.on bx_bl)
 rintro e wv8 ⟨rfl, hb⟩
 refine ⟨_, rfl, ?_⟩
 replace BX := bx_call hb
 clear hb
 refine hK.out _ _ bxs (fun hHeld => ?_)
 clear hK K hHeld
 refine norm_ (a' := ?_) ?_ ?_
 rotate_left
 · show Act.put _ (some 23) _ = _
   exact nr1
 refine pure_ (i := 9) (N := some 24) (v := ?_) (a' := ?_) #[true, true, true, true, true, true, true, true, true, true, false, false, false, false, false, false, false, false, false, false, false, false, false, false, false, false, false, false] rfl rfl (any_of HT_.out kr) (fun _ _ _ h => h) (Or.inl ⟨by rfl, ?_⟩) ?_ ?_
 rotate_left
 · intro w'
   go_simp
   with_reducible rfl
 rotate_left
 · exact nr1
 refine pure_ (i := 10) (N := some 25) (v := ?_) (a' := ?_) #[true, true, true, true, true, true, true, true, true, true, true, false, false, false, false, false, false, false, false, false, false, false, false, false, false, false, false, false] rfl rfl (any_of HT_.out kr) (fun _ _ _ h => h) (Or.inl ⟨by rfl, ?_⟩) ?_ ?_
 rotate_left
 · intro w'
   go_simp
   with_reducible rfl
 rotate_left
 · exact nr1
 refine pure_ (i := 11) (N := some 26) (v := ?_) (a' := ?_) #[true, true, true, true, true, true, true, true, true, true, true, true, false, false, false, false, false, false, false, false, false, false, false, false, false, false, false, false] rfl rfl (any_of HT_.out kr) (fun _ _ _ h => h) (Or.inl ⟨by rfl, ?_⟩) ?_ ?_
 rotate_left
 · intro w'
   go_simp
   with_reducible rfl
 rotate_left
 · exact nr1
 refine take_ (i := 12) (N := some 27) (v := ?_) (a' := ?_) #[true, true, true, true, true, true, true, true, true, true, true, true, true, false, false, false, false, false, false, false, false, false, false, false, false, false, false, false] rfl rfl (take_ofW HT_.out HW_.out kr) (fun _ _ _ h => h) (Or.inl ⟨by rfl, ?_⟩) bxs ?_ ?_
 rotate_left
 · intro w' hS
   go_simp
   with_reducible rfl
 rotate_left
 · exact nr1
 refine pure_ (i := 13) (N := some 28) (v := ?_) (a' := ?_) #[true, true, true, true, true, true, true, true, true, true, true, true, true, true, false, false, false, false, false, false, false, false, false, false, false, false, false, false] rfl rfl (any_of HT_.out kr) (fun _ _ _ h => h) (Or.inl ⟨by rfl, ?_⟩) ?_ ?_
 rotate_left
 · intro w'
   go_simp
   with_reducible rfl
 rotate_left
 · exact nr1
 refine pure_ (i := 14) (N := some 29) (v := ?_) (a' := ?_) #[true, true, true, true, true, true, true, true, true, true, true, true, true, true, true, false, false, false, false, false, false, false, false, false, false, false, false, false] rfl rfl (any_of HT_.out kr) (fun _ _ _ h => h) (Or.inl ⟨by rfl, ?_⟩) ?_ ?_
 rotate_left
 · intro w'
   go_simp
   with_reducible rfl
 rotate_left
 · exact nr1
 refine pure_ (i := 15) (N := some 30) (v := undef) (a' := ?_) #[true, true, true, true, true, true, true, true, true, true, true, true, true, true, true, true, false, false, false, false, false, false, false, false, false, false, false, false] rfl rfl (any_of HT_.out kr) (fun _ _ _ h => h) (Or.inr ⟨by rfl, rfl⟩) ?_ ?_
 rotate_left
 · exact nr1
 refine pure_ (i := 16) (N := some 31) (v := undef) (a' := ?_) #[true, true, true, true, true, true, true, true, true, true, true, true, true, true, true, true, true, false, false, false, false, false, false, false, false, false, false, false] rfl rfl (any_of HT_.out kr) (fun _ _ _ h => h) (Or.inr ⟨by rfl, rfl⟩) ?_ ?_
 rotate_left
 · exact nr1
 refine pure_ (i := 17) (N := some 32) (v := undef) (a' := ?_) #[true, true, true, true, true, true, true, true, true, true, true, true, true, true, true, true, true, true, false, false, false, false, false, false, false, false, false, false] rfl rfl (any_of HT_.out kr) (fun _ _ _ h => h) (Or.inr ⟨by rfl, rfl⟩) ?_ ?_
 rotate_left
 · exact nr1
 refine pure_ (i := 18) (N := some 33) (v := undef) (a' := ?_) #[true, true, true, true, true, true, true, true, true, true, true, true, true, true, true, true, true, true, true, false, false, false, false, false, false, false, false, false] rfl rfl (any_of HT_.out kr) (fun _ _ _ h => h) (Or.inr ⟨by rfl, rfl⟩) ?_ ?_
 rotate_left
 · exact nr1
 refine pure_ (i := 19) (N := some 34) (v := undef) (a' := ?_) #[true, true, true, true, true, true, true, true, true, true, true, true, true, true, true, true, true, true, true, true, false, false, false, false, false, false, false, false] rfl rfl (any_of HT_.out kr) (fun _ _ _ h => h) (Or.inr ⟨by rfl, rfl⟩) ?_ ?_
 rotate_left
 · exact nr1
 refine pure_ (i := 20) (N := some 35) (v := undef) (a' := ?_) #[true, true, true, true, true, true, true, true, true, true, true, true, true, true, true, true, true, true, true, true, true, false, false, false, false, false, false, false] rfl rfl (any_of HT_.out kr) (fun _ _ _ h => h) (Or.inr ⟨by rfl, rfl⟩) ?_ ?_
 rotate_left
 · exact nr1
 refine pure_ (i := 21) (N := some 36) (v := undef) (a' := ?_) #[true, true, true, true, true, true, true, true, true, true, true, true, true, true, true, true, true, true, true, true, true, true, false, false, false, false, false, false] rfl rfl (any_of HT_.out kr) (fun _ _ _ h => h) (Or.inr ⟨by rfl, rfl⟩) ?_ ?_
 rotate_left
 · exact nr1
 refine pure_ (i := 22) (N := some 37) (v := undef) (a' := ?_) #[true, true, true, true, true, true, true, true, true, true, true, true, true, true, true, true, true, true, true, true, true, true, true, false, false, false, false, false] rfl rfl (any_of HT_.out kr) (fun _ _ _ h => h) (Or.inr ⟨by rfl, rfl⟩) ?_ ?_
 rotate_left
 · exact nr1
 refine pure_ (i := 23) (N := some 38) (v := undef) (a' := ?_) #[true, true, true, true, true, true, true, true, true, true, true, true, true, true, true, true, true, true, true, true, true, true, true, true, false, false, false, false] rfl rfl (any_of HT_.out kr) (fun _ _ _ h => h) (Or.inr ⟨by rfl, rfl⟩) ?_ ?_
 rotate_left
 · exact nr1
 refine pure_ (i := 24) (N := some 39) (v := undef) (a' := ?_) #[true, true, true, true, true, true, true, true, true, true, true, true, true, true, true, true, true, true, true, true, true, true, true, true, true, false, false, false] rfl rfl (any_of HT_.out kr) (fun _ _ _ h => h) (Or.inr ⟨by rfl, rfl⟩) ?_ ?_
 rotate_left
 · exact nr1
 refine pure_ (i := 25) (N := some 40) (v := undef) (a' := ?_) #[true, true, true, true, true, true, true, true, true, true, true, true, true, true, true, true, true, true, true, true, true, true, true, true, true, true, false, false] rfl rfl (any_of HT_.out kr) (fun _ _ _ h => h) (Or.inr ⟨by rfl, rfl⟩) ?_ ?_
 rotate_left
 · exact nr1
 refine pure_ (i := 26) (N := some 41) (v := ?_) (a' := ?_) #[true, true, true, true, true, true, true, true, true, true, true, true, true, true, true, true, true, true, true, true, true, true, true, true, true, true, true, false] rfl rfl (any_of HT_.out kr) (fun _ _ _ h => h) (Or.inl ⟨by rfl, ?_⟩) ?_ ?_
 rotate_left
 · intro w'
   go_simp
   with_reducible rfl
 rotate_left
 · exact nr1
 refine pure_ (i := 27) (N := some 42) (v := ?_) (a' := ?_) #[true, true, true, true, true, true, true, true, true, true, true, true, true, true, true, true, true, true, true, true, true, true, true, true, true, true, true, true] rfl rfl (any_of HT_.out kr) (fun _ _ _ h => h) (Or.inl ⟨by rfl, ?_⟩) ?_ ?_
 rotate_left
 · intro w'
   go_simp
   with_reducible rfl
 rotate_left
 · exact nr1
 refine done_ (done_of HT_.out kr) ?_
 try go_wp2_with (first
  | ((with_reducible refine gate_callee (f := 31) rfl ?_); refine goesL_ (some 45) rfl rfl Tryd.func31 kr rfl #[.int .i64 16, .agg #[.int .i64 4, .int .i64 x2, .int .i64 x3, .string x4, .bool x5, .int .i64 x6], .agg #[.int .i64 c1, .int .i64 c2, .int .i64 c3, .string c4, .bool c5, .int .i64 c6]] rfl ga ?_; (with_reducible refine (value_Bin.calls k 16 4 x2 x3 x4 x5 x6 c1 c2 c3 c4 c5 c6 4 l2 l3 l4 l5 l6 _ ?side1 HL.out).mono ?_); (case side1 => exact HT.out.on bx_bl); rintro e wc45 ⟨rfl, hb⟩; refine ⟨_, rfl, ?_⟩; replace BX := bx_call hb; clear hb)
  | ((with_reducible refine gate_dst (N := 8) rfl ?_); refine bxe 8 #[.int .i64 0, .int .i64 0, .int .i64 0, .string (⟨#[]⟩ : ByteArray), .bool false, .int .i64 0] 25 rfl rfl gr ?_; clear BX; intro g8 w_g8 GEg8 BX))
 refine startb (n := 7) (ds := [6]) #[false, false, false, false, false, false, false] kr rfl rfl (fun BX1 => ?_)
 clear BX
 have BX := BX1
 clear BX1
 skip
 refine take_ (i := 0) (N := some 46) (v := ?_) (a' := ?_) #[true, false, false, false, false, false, false] rfl rfl kr (fun _ _ _ h => h) (Or.inl ⟨by rfl, ?_⟩) bxs ?_ ?_
 rotate_left
 · intro w' hS
   go_simp
   with_reducible rfl
 rotate_left
 · exact nr1
 refine take_ (i := 1) (N := some 47) (v := ?_) (a' := ?_) #[true, true, false, false, false, false, false] rfl rfl kr (fun _ _ _ h => h) (Or.inl ⟨by rfl, ?_⟩) bxs ?_ ?_
 rotate_left
 · intro w' hS
   go_simp
   with_reducible rfl
 rotate_left
 · exact nr1
 refine take_ (i := 2) (N := some 48) (v := ?_) (a' := ?_) #[true, true, true, false, false, false, false] rfl rfl kr (fun _ _ _ h => h) (Or.inl ⟨by rfl, ?_⟩) bxs ?_ ?_
 rotate_left
 · intro w' hS
   go_simp
   with_reducible rfl
 rotate_left
 · exact nr1
 refine join_ (σ := Nat) 1 #[true, true, true, true, true, true, false] (fun s_ => [(49, .agg #[.int .i64 q1, .int .i64 q2, .int .i64 q3, .string q4, .bool q5, .int .i64 q6]), (50, .agg #[.int .i64 r1, .int .i64 r2, .int .i64 r3, .string r4, .bool r5, .int .i64 r6]), (9, .pointer (some ⟨s_, 0, none⟩))]) (fun s_ w' => Bx w w' ((s_, 25, #[.int .i64 0, .int .i64 0, .int .i64 0, .string (⟨#[]⟩ : ByteArray), .bool false, .int .i64 0]) :: [(g8, 25, #[.int .i64 4, .int .i64 l2, .int .i64 l3, .string l4, .bool l5, .int .i64 l6]), (g7, 25, #[.int .i64 4, .int .i64 x2, .int .i64 x3, .string x4, .bool x5, .int .i64 x6]), (g5, 25, #[.int .i64 c1, .int .i64 c2, .int .i64 c3, .string c4, .bool c5, .int .i64 c6]), (g4, 25, #[.int .i64 b1, .int .i64 b2, .int .i64 b3, .string b4, .bool b5, .int .i64 b6]), (g3, 25, #[.int .i64 a1, .int .i64 a2, .int .i64 a3, .string a4, .bool a5, .int .i64 a6])])) ?_ (fun hJ => ?_)
 rotate_left
 · skip
   refine two_ (i := 3) (j := 5) (Ni := some 49) (Nj := some 9) #[true, true, true, true, false, false, false] #[true, true, true, false, false, true, false] rfl rfl rfl rfl kr (by decide) (by decide) (fun K hK => ?_) (fun K hK => ?_)
   · skip
     refine goes_ Tryd.func31 kr rfl #[.int .i64 16, .agg #[.int .i64 b1, .int .i64 b2, .int .i64 b3, .string b4, .bool b5, .int .i64 b6], .agg #[.int .i64 c1, .int .i64 c2, .int .i64 c3, .string c4, .bool c5, .int .i64 c6]] (by rfl) rfl rfl ga ?_
     with_reducible refine (value_Bin.calls k 16 b1 b2 b3 b4 b5 b6 c1 c2 c3 c4 c5 c6 q1 q2 q3 q4 q5 q6 _ ?sd6a HQ.out).mono ?_
     (case sd6a => exact HT.out.on bx_bl)
     rintro e wv3 ⟨rfl, hb⟩
     refine ⟨_, rfl, ?_⟩
     replace BX := bx_call hb
     clear hb
     refine hK.out _ _ bxs (fun hHeld => ?_)
     clear hK K hHeld
     refine norm_ (a' := ?_) ?_ ?_
     rotate_left
     · show Act.put _ (some 49) _ = _
       exact nr1
     refine two_ (i := 4) (j := 5) (Ni := some 50) (Nj := some 9) #[true, true, true, true, true, false, false] #[true, true, true, true, false, true, false] rfl rfl rfl rfl kr (by decide) (by decide) (fun K hK => ?_) (fun K hK => ?_)
     · skip
       refine goes_ Tryd.func31 kr rfl #[.int .i64 16, .agg #[.int .i64 a1, .int .i64 a2, .int .i64 a3, .string a4, .bool a5, .int .i64 a6], .agg #[.int .i64 q1, .int .i64 q2, .int .i64 q3, .string q4, .bool q5, .int .i64 q6]] (by rfl) rfl rfl ga ?_
       with_reducible refine (value_Bin.calls k 16 a1 a2 a3 a4 a5 a6 q1 q2 q3 q4 q5 q6 r1 r2 r3 r4 r5 r6 _ ?sd7a HRR.out).mono ?_
       (case sd7a => exact HT.out.on bx_bl)
       rintro e wv4 ⟨rfl, hb⟩
       refine ⟨_, rfl, ?_⟩
       replace BX := bx_call hb
       clear hb
       refine hK.out _ _ bxs (fun hHeld => ?_)
       clear hK K hHeld
       refine norm_ (a' := ?_) ?_ ?_
       rotate_left
       · show Act.put _ (some 50) _ = _
         exact nr1
       refine one_ (i := 5) (N := some 9) #[true, true, true, true, true, true, false] rfl rfl kr (by decide) (fun K hK => ?_)
       refine bxe1 9 #[.int .i64 0, .int .i64 0, .int .i64 0, .string (⟨#[]⟩ : ByteArray), .bool false, .int .i64 0] 25 rfl rfl gr ?_
       clear BX
       intro g9 wv5 GE_g9 BX
       refine hK.out _ _ bxs (fun hHeld => ?_)
       clear hK K hHeld
       refine norm_ (a' := ?_) ?_ ?_
       rotate_left
       · show Act.put _ (some 9) _ = _
         exact nr1
       exact norm_ nrm (hJ g9 _ bxs)
     · skip
       refine bxe1 9 #[.int .i64 0, .int .i64 0, .int .i64 0, .string (⟨#[]⟩ : ByteArray), .bool false, .int .i64 0] 25 rfl rfl gr ?_
       clear BX
       intro g9 wv5 GE_g9 BX
       refine hK.out _ _ bxs (fun hHeld => ?_)
       clear hK K hHeld
       refine norm_ (a' := ?_) ?_ ?_
       rotate_left
       · show Act.put _ (some 9) _ = _
         exact nr1
       refine one_ (i := 4) (N := some 50) #[true, true, true, true, true, true, false] rfl rfl kr (by decide) (fun K hK => ?_)
       refine goes_ Tryd.func31 kr rfl #[.int .i64 16, .agg #[.int .i64 a1, .int .i64 a2, .int .i64 a3, .string a4, .bool a5, .int .i64 a6], .agg #[.int .i64 q1, .int .i64 q2, .int .i64 q3, .string q4, .bool q5, .int .i64 q6]] (by rfl) rfl rfl ga ?_
       with_reducible refine (value_Bin.calls k 16 a1 a2 a3 a4 a5 a6 q1 q2 q3 q4 q5 q6 r1 r2 r3 r4 r5 r6 _ ?sd8a HRR.out).mono ?_
       (case sd8a => exact HT.out.on bx_bl)
       rintro e wv4 ⟨rfl, hb⟩
       refine ⟨_, rfl, ?_⟩
       replace BX := bx_call hb
       clear hb
       refine hK.out _ _ bxs (fun hHeld => ?_)
       clear hK K hHeld
       refine norm_ (a' := ?_) ?_ ?_
       rotate_left
       · show Act.put _ (some 50) _ = _
         exact nr1
       exact norm_ nrm (hJ g9 _ bxs)
   · skip
     refine bxe1 9 #[.int .i64 0, .int .i64 0, .int .i64 0, .string (⟨#[]⟩ : ByteArray), .bool false, .int .i64 0] 25 rfl rfl gr ?_
     clear BX
     intro g9 wv5 GE_g9 BX
     refine hK.out _ _ bxs (fun hHeld => ?_)
     clear hK K hHeld
     refine norm_ (a' := ?_) ?_ ?_
     rotate_left
     · show Act.put _ (some 9) _ = _
       exact nr1
     refine one_ (i := 3) (N := some 49) #[true, true, true, true, false, true, false] rfl rfl kr (by decide) (fun K hK => ?_)
     refine goes_ Tryd.func31 kr rfl #[.int .i64 16, .agg #[.int .i64 b1, .int .i64 b2, .int .i64 b3, .string b4, .bool b5, .int .i64 b6], .agg #[.int .i64 c1, .int .i64 c2, .int .i64 c3, .string c4, .bool c5, .int .i64 c6]] (by rfl) rfl rfl ga ?_
     with_reducible refine (value_Bin.calls k 16 b1 b2 b3 b4 b5 b6 c1 c2 c3 c4 c5 c6 q1 q2 q3 q4 q5 q6 _ ?sd9a HQ.out).mono ?_
     (case sd9a => exact HT.out.on bx_bl)
     rintro e wv3 ⟨rfl, hb⟩
     refine ⟨_, rfl, ?_⟩
     replace BX := bx_call hb
     clear hb
     refine hK.out _ _ bxs (fun hHeld => ?_)
     clear hK K hHeld
     refine norm_ (a' := ?_) ?_ ?_
     rotate_left
     · show Act.put _ (some 49) _ = _
       exact nr1
     refine one_ (i := 4) (N := some 50) #[true, true, true, true, true, true, false] rfl rfl kr (by decide) (fun K hK => ?_)
     refine goes_ Tryd.func31 kr rfl #[.int .i64 16, .agg #[.int .i64 a1, .int .i64 a2, .int .i64 a3, .string a4, .bool a5, .int .i64 a6], .agg #[.int .i64 q1, .int .i64 q2, .int .i64 q3, .string q4, .bool q5, .int .i64 q6]] (by rfl) rfl rfl ga ?_
     with_reducible refine (value_Bin.calls k 16 a1 a2 a3 a4 a5 a6 q1 q2 q3 q4 q5 q6 r1 r2 r3 r4 r5 r6 _ ?sd10a HRR.out).mono ?_
     (case sd10a => exact HT.out.on bx_bl)
     rintro e wv4 ⟨rfl, hb⟩
     refine ⟨_, rfl, ?_⟩
     replace BX := bx_call hb
     clear hb
     refine hK.out _ _ bxs (fun hHeld => ?_)
     clear hK K hHeld
     refine norm_ (a' := ?_) ?_ ?_
     rotate_left
     · show Act.put _ (some 50) _ = _
       exact nr1
     exact norm_ nrm (hJ g9 _ bxs)
 rintro g9 wj BX2
 clear BX
 have BX := BX2
 clear BX2
 refine norm_ (a' := ?_) ?_ ?_
 rotate_left
 · simp only [putAll, Act.put, List.setIfInBounds_toArray, List.set_cons_zero, List.set_cons_succ]
   rfl
 refine last_ (i := 6) (N := none) #[true, true, true, true, true, true, true] rfl rfl kr (by decide) (fun K hK => ?_)
 refine skip_ (w1 := ?_) (by rfl) rfl ?_ ?_
 rotate_left
 · go_simp
   rfl
 refine hK.out _ _ ?_
 clear hK K
 refine done_ kr ?_
 try go_wp2
 refine startb (n := 23) (ds := []) #[false, false, false, false, false, false, false, false, false, false, false, false, false, false, false, false, false, false, false, false, false, false, false] kr rfl rfl (fun BX1 => ?_)
 refine with_tabW VT8_tab VT8_bits (fun HT_ HW_ => ?_)
 clear BX
 have BX := BX1
 clear BX1
 skip
 refine pure_ (i := 0) (N := some 51) (v := ?_) (a' := ?_) #[true, false, false, false, false, false, false, false, false, false, false, false, false, false, false, false, false, false, false, false, false, false, false] rfl rfl (any_of HT_.out kr) (fun _ _ _ h => h) (Or.inl ⟨by rfl, ?_⟩) ?_ ?_
 rotate_left
 · intro w'
   go_simp
   with_reducible rfl
 rotate_left
 · exact nr1
 refine take_ (i := 1) (N := some 52) (v := ?_) (a' := ?_) #[true, true, false, false, false, false, false, false, false, false, false, false, false, false, false, false, false, false, false, false, false, false, false] rfl rfl (take_ofW HT_.out HW_.out kr) (fun _ _ _ h => h) (Or.inl ⟨by rfl, ?_⟩) bxs ?_ ?_
 rotate_left
 · intro w' hS
   go_simp
   with_reducible rfl
 rotate_left
 · exact nr1
 refine pure_ (i := 2) (N := some 53) (v := ?_) (a' := ?_) #[true, true, true, false, false, false, false, false, false, false, false, false, false, false, false, false, false, false, false, false, false, false, false] rfl rfl (any_of HT_.out kr) (fun _ _ _ h => h) (Or.inl ⟨by rfl, ?_⟩) ?_ ?_
 rotate_left
 · intro w'
   go_simp
   with_reducible rfl
 rotate_left
 · exact nr1
 refine pure_ (i := 3) (N := some 54) (v := ?_) (a' := ?_) #[true, true, true, true, false, false, false, false, false, false, false, false, false, false, false, false, false, false, false, false, false, false, false] rfl rfl (any_of HT_.out kr) (fun _ _ _ h => h) (Or.inl ⟨by rfl, ?_⟩) ?_ ?_
 rotate_left
 · intro w'
   go_simp
   with_reducible rfl
 rotate_left
 · exact nr1
 refine pure_ (i := 4) (N := some 55) (v := undef) (a' := ?_) #[true, true, true, true, true, false, false, false, false, false, false, false, false, false, false, false, false, false, false, false, false, false, false] rfl rfl (any_of HT_.out kr) (fun _ _ _ h => h) (Or.inr ⟨by rfl, rfl⟩) ?_ ?_
 rotate_left
 · exact nr1
 refine pure_ (i := 5) (N := some 56) (v := undef) (a' := ?_) #[true, true, true, true, true, true, false, false, false, false, false, false, false, false, false, false, false, false, false, false, false, false, false] rfl rfl (any_of HT_.out kr) (fun _ _ _ h => h) (Or.inr ⟨by rfl, rfl⟩) ?_ ?_
 rotate_left
 · exact nr1
 refine pure_ (i := 6) (N := some 57) (v := undef) (a' := ?_) #[true, true, true, true, true, true, true, false, false, false, false, false, false, false, false, false, false, false, false, false, false, false, false] rfl rfl (any_of HT_.out kr) (fun _ _ _ h => h) (Or.inr ⟨by rfl, rfl⟩) ?_ ?_
 rotate_left
 · exact nr1
 refine pure_ (i := 7) (N := some 58) (v := ?_) (a' := ?_) #[true, true, true, true, true, true, true, true, false, false, false, false, false, false, false, false, false, false, false, false, false, false, false] rfl rfl (any_of HT_.out kr) (fun _ _ _ h => h) (Or.inl ⟨by rfl, ?_⟩) ?_ ?_
 rotate_left
 · intro w'
   go_simp
   with_reducible rfl
 rotate_left
 · exact nr1
 refine pure_ (i := 8) (N := some 59) (v := ?_) (a' := ?_) #[true, true, true, true, true, true, true, true, true, false, false, false, false, false, false, false, false, false, false, false, false, false, false] rfl rfl (any_of HT_.out kr) (fun _ _ _ h => h) (Or.inl ⟨by rfl, ?_⟩) ?_ ?_
 rotate_left
 · intro w'
   go_simp
   with_reducible rfl
 rotate_left
 · exact nr1
 refine pure_ (i := 9) (N := some 60) (v := undef) (a' := ?_) #[true, true, true, true, true, true, true, true, true, true, false, false, false, false, false, false, false, false, false, false, false, false, false] rfl rfl (any_of HT_.out kr) (fun _ _ _ h => h) (Or.inr ⟨by rfl, rfl⟩) ?_ ?_
 rotate_left
 · exact nr1
 refine pure_ (i := 10) (N := some 61) (v := undef) (a' := ?_) #[true, true, true, true, true, true, true, true, true, true, true, false, false, false, false, false, false, false, false, false, false, false, false] rfl rfl (any_of HT_.out kr) (fun _ _ _ h => h) (Or.inr ⟨by rfl, rfl⟩) ?_ ?_
 rotate_left
 · exact nr1
 refine pure_ (i := 11) (N := some 62) (v := undef) (a' := ?_) #[true, true, true, true, true, true, true, true, true, true, true, true, false, false, false, false, false, false, false, false, false, false, false] rfl rfl (any_of HT_.out kr) (fun _ _ _ h => h) (Or.inr ⟨by rfl, rfl⟩) ?_ ?_
 rotate_left
 · exact nr1
 refine pure_ (i := 12) (N := some 63) (v := undef) (a' := ?_) #[true, true, true, true, true, true, true, true, true, true, true, true, true, false, false, false, false, false, false, false, false, false, false] rfl rfl (any_of HT_.out kr) (fun _ _ _ h => h) (Or.inr ⟨by rfl, rfl⟩) ?_ ?_
 rotate_left
 · exact nr1
 refine pure_ (i := 13) (N := some 64) (v := undef) (a' := ?_) #[true, true, true, true, true, true, true, true, true, true, true, true, true, true, false, false, false, false, false, false, false, false, false] rfl rfl (any_of HT_.out kr) (fun _ _ _ h => h) (Or.inr ⟨by rfl, rfl⟩) ?_ ?_
 rotate_left
 · exact nr1
 refine pure_ (i := 14) (N := some 65) (v := undef) (a' := ?_) #[true, true, true, true, true, true, true, true, true, true, true, true, true, true, true, false, false, false, false, false, false, false, false] rfl rfl (any_of HT_.out kr) (fun _ _ _ h => h) (Or.inr ⟨by rfl, rfl⟩) ?_ ?_
 rotate_left
 · exact nr1
 refine pure_ (i := 15) (N := some 66) (v := undef) (a' := ?_) #[true, true, true, true, true, true, true, true, true, true, true, true, true, true, true, true, false, false, false, false, false, false, false] rfl rfl (any_of HT_.out kr) (fun _ _ _ h => h) (Or.inr ⟨by rfl, rfl⟩) ?_ ?_
 rotate_left
 · exact nr1
 refine pure_ (i := 16) (N := some 67) (v := undef) (a' := ?_) #[true, true, true, true, true, true, true, true, true, true, true, true, true, true, true, true, true, false, false, false, false, false, false] rfl rfl (any_of HT_.out kr) (fun _ _ _ h => h) (Or.inr ⟨by rfl, rfl⟩) ?_ ?_
 rotate_left
 · exact nr1
 refine pure_ (i := 17) (N := some 68) (v := undef) (a' := ?_) #[true, true, true, true, true, true, true, true, true, true, true, true, true, true, true, true, true, true, false, false, false, false, false] rfl rfl (any_of HT_.out kr) (fun _ _ _ h => h) (Or.inr ⟨by rfl, rfl⟩) ?_ ?_
 rotate_left
 · exact nr1
 refine pure_ (i := 18) (N := some 69) (v := undef) (a' := ?_) #[true, true, true, true, true, true, true, true, true, true, true, true, true, true, true, true, true, true, true, false, false, false, false] rfl rfl (any_of HT_.out kr) (fun _ _ _ h => h) (Or.inr ⟨by rfl, rfl⟩) ?_ ?_
 rotate_left
 · exact nr1
 refine pure_ (i := 19) (N := some 70) (v := undef) (a' := ?_) #[true, true, true, true, true, true, true, true, true, true, true, true, true, true, true, true, true, true, true, true, false, false, false] rfl rfl (any_of HT_.out kr) (fun _ _ _ h => h) (Or.inr ⟨by rfl, rfl⟩) ?_ ?_
 rotate_left
 · exact nr1
 refine pure_ (i := 20) (N := some 71) (v := undef) (a' := ?_) #[true, true, true, true, true, true, true, true, true, true, true, true, true, true, true, true, true, true, true, true, true, false, false] rfl rfl (any_of HT_.out kr) (fun _ _ _ h => h) (Or.inr ⟨by rfl, rfl⟩) ?_ ?_
 rotate_left
 · exact nr1
 refine pure_ (i := 21) (N := some 72) (v := ?_) (a' := ?_) #[true, true, true, true, true, true, true, true, true, true, true, true, true, true, true, true, true, true, true, true, true, true, false] rfl rfl (any_of HT_.out kr) (fun _ _ _ h => h) (Or.inl ⟨by rfl, ?_⟩) ?_ ?_
 rotate_left
 · intro w'
   go_simp
   with_reducible rfl
 rotate_left
 · exact nr1
 refine pure_ (i := 22) (N := some 6) (v := ?_) (a' := ?_) #[true, true, true, true, true, true, true, true, true, true, true, true, true, true, true, true, true, true, true, true, true, true, true] rfl rfl (any_of HT_.out kr) (fun _ _ _ h => h) (Or.inl ⟨by rfl, ?_⟩) ?_ ?_
 rotate_left
 · intro w'
   go_simp
   with_reducible rfl
 rotate_left
 · exact nr1
 refine done_ (done_of HT_.out kr) ?_
 try go_wp2
 go_ret
 exact ⟨rfl, bx_bl⟩
set_option maxHeartbeats 8000000 in
set_option maxRecDepth 100000 in
theorem ValueTexts_l4 (k : Nat) (a1 a2 a3 : Int) (a4 : ByteArray) (a5 : Bool) (a6 : Int) (b1 b2 b3 : Int) (b4 : ByteArray) (b5 : Bool) (b6 : Int) (c1 c2 c3 : Int) (c4 : ByteArray) (c5 : Bool) (c6 : Int) (s1 s2 s3 : Int) (s4 : ByteArray) (s5 : Bool) (s6 : Int) (w : World) (HT0 : TabAt w) (x2 x3 : Int) (x4 : ByteArray) (x5 : Bool) (x6 : Int)  (i1 i2 i3 : Int) (i4 : ByteArray) (i5 : Bool) (i6 : Int) (q1 q2 q3 : Int) (q4 : ByteArray) (q5 : Bool) (q6 : Int) (l2 l3 : Int) (l4 : ByteArray) (l5 : Bool) (l6 : Int) (r1 r2 r3 : Int) (r4 : ByteArray) (r5 : Bool) (r6 : Int)
   (hA : whittlelaw2_able.f k = some true) (hs : value_Text.f k (⟨#[]⟩ : ByteArray) = some (s1, s2, s3, s4, s5, s6)) (hx : value_Bin.f k 16 a1 a2 a3 a4 a5 a6 b1 b2 b3 b4 b5 b6 = some (2, x2, x3, x4, x5, x6)) (hj2 : joinL k (s1, s2, s3, s4, s5, s6) [(a1, a2, a3, a4, a5, a6), (b1, b2, b3, b4, b5, b6)] = some (2, x2, x3, x4, x5, x6)) (hj1 : joinL k (s1, s2, s3, s4, s5, s6) [(a1, a2, a3, a4, a5, a6)] = some (i1, i2, i3, i4, i5, i6)) (hb_ : value_Bin.f k 16 i1 i2 i3 i4 i5 i6 b1 b2 b3 b4 b5 b6 = some (2, x2, x3, x4, x5, x6))
   (hl : value_Bin.f k 16 2 x2 x3 x4 x5 x6 c1 c2 c3 c4 c5 c6 = some (4, l2, l3, l4, l5, l6)) (hq : value_Bin.f k 16 b1 b2 b3 b4 b5 b6 c1 c2 c3 c4 c5 c6 = some (q1, q2, q3, q4, q5, q6)) (hr : value_Bin.f k 16 a1 a2 a3 a4 a5 a6 q1 q2 q3 q4 q5 q6 = some (r1, r2, r3, r4, r5, r6)) :
  Calls Tryd.prog 10 #[.agg #[.int .i64 a1, .int .i64 a2, .int .i64 a3, .string a4, .bool a5, .int .i64 a6], .agg #[.int .i64 b1, .int .i64 b2, .int .i64 b3, .string b4, .bool b5, .int .i64 b6], .agg #[.int .i64 c1, .int .i64 c2, .int .i64 c3, .string c4, .bool c5, .int .i64 c6]] w fun e w' => e = .returned (.bool true) ∧ Below w.heap.size w w' := by
 have hu25 := Tryd.underlying25
 have HT := Aside0.mk HT0
 have HA := Aside0.mk hA
 have HS := Aside0.mk hs
 have HX := Aside0.mk hx
 have HJ2 := Aside0.mk hj2
 have HJ1 := Aside0.mk hj1
 have HB := Aside0.mk hb_
 have HL := Aside0.mk hl
 have HQ := Aside0.mk hq
 have HRR := Aside0.mk hr
 clear HT0 hA hs hx hj2 hj1 hb_ hl hq hr
 have BX := Bx.start w
 go_enter Tryd.func10, Tryd.ntmps10
 go_wp2_with (first
  | ((with_reducible refine gate_dst (N := 3) rfl ?_); refine bxe 3 #[.int .i64 a1, .int .i64 a2, .int .i64 a3, .string a4, .bool a5, .int .i64 a6] 25 rfl rfl gr ?_; clear BX; intro g3 w_g3 GEg3 BX)
  | ((with_reducible refine gate_dst (N := 4) rfl ?_); refine bxe 4 #[.int .i64 b1, .int .i64 b2, .int .i64 b3, .string b4, .bool b5, .int .i64 b6] 25 rfl rfl gr ?_; clear BX; intro g4 w_g4 GEg4 BX)
  | ((with_reducible refine gate_dst (N := 5) rfl ?_); refine bxe 5 #[.int .i64 c1, .int .i64 c2, .int .i64 c3, .string c4, .bool c5, .int .i64 c6] 25 rfl rfl gr ?_; clear BX; intro g5 w_g5 GEg5 BX)
  | ((with_reducible refine gate_callee (f := 15) rfl ?_); refine goesL_ (some 10) rfl rfl Tryd.func15 kr rfl #[] rfl ga ?_; (with_reducible refine (whittlelaw2_able.calls k true _ ?side1 HA.out).mono ?_); (case side1 => exact HT.out.on bx_bl); rintro e wc10 ⟨rfl, hb⟩; refine ⟨_, rfl, ?_⟩; replace BX := bx_call hb; clear hb)
  | ((with_reducible refine gate_callee (f := 31) rfl ?_); refine goesL_ (some 14) rfl rfl Tryd.func31 kr rfl #[.int .i64 16, .agg #[.int .i64 a1, .int .i64 a2, .int .i64 a3, .string a4, .bool a5, .int .i64 a6], .agg #[.int .i64 b1, .int .i64 b2, .int .i64 b3, .string b4, .bool b5, .int .i64 b6]] rfl ga ?_; (with_reducible refine (value_Bin.calls k 16 a1 a2 a3 a4 a5 a6 b1 b2 b3 b4 b5 b6 2 x2 x3 x4 x5 x6 _ ?side1 HX.out).mono ?_); (case side1 => exact HT.out.on bx_bl); rintro e wc14 ⟨rfl, hb⟩; refine ⟨_, rfl, ?_⟩; replace BX := bx_call hb; clear hb)
  | ((with_reducible refine gate_dst (N := 7) rfl ?_); refine bxe 7 #[.int .i64 0, .int .i64 0, .int .i64 0, .string (⟨#[]⟩ : ByteArray), .bool false, .int .i64 0] 25 rfl rfl gr ?_; clear BX; intro g7 w_g7 GEg7 BX))
 refine startb (n := 28) (ds := []) #[false, false, false, false, false, false, false, false, false, false, false, false, false, false, false, false, false, false, false, false, false, false, false, false, false, false, false, false] kr rfl rfl (fun BX1 => ?_)
 refine with_tabW VT4_tab VT4_bits (fun HT_ HW_ => ?_)
 clear BX
 have BX := BX1
 clear BX1
 skip
 refine take_ (i := 0) (N := some 15) (v := ?_) (a' := ?_) #[true, false, false, false, false, false, false, false, false, false, false, false, false, false, false, false, false, false, false, false, false, false, false, false, false, false, false, false] rfl rfl (take_ofW HT_.out HW_.out kr) (fun _ _ _ h => h) (Or.inl ⟨by rfl, ?_⟩) bxs ?_ ?_
 rotate_left
 · intro w' hS
   go_simp
   with_reducible rfl
 rotate_left
 · exact nr1
 refine take_ (i := 1) (N := some 16) (v := ?_) (a' := ?_) #[true, true, false, false, false, false, false, false, false, false, false, false, false, false, false, false, false, false, false, false, false, false, false, false, false, false, false, false] rfl rfl (take_ofW HT_.out HW_.out kr) (fun _ _ _ h => h) (Or.inl ⟨by rfl, ?_⟩) bxs ?_ ?_
 rotate_left
 · intro w' hS
   go_simp
   with_reducible rfl
 rotate_left
 · exact nr1
 refine take_ (i := 4) (N := some 19) (v := ?_) (a' := ?_) #[true, true, false, false, true, false, false, false, false, false, false, false, false, false, false, false, false, false, false, false, false, false, false, false, false, false, false, false] rfl rfl (take_ofW HT_.out HW_.out kr) (fun _ _ _ h => h) (Or.inl ⟨by rfl, ?_⟩) bxs ?_ ?_
 rotate_left
 · intro w' hS
   go_simp
   with_reducible rfl
 rotate_left
 · exact nr1
 refine take_ (i := 7) (N := some 22) (v := ?_) (a' := ?_) #[true, true, false, false, true, false, false, true, false, false, false, false, false, false, false, false, false, false, false, false, false, false, false, false, false, false, false, false] rfl rfl (take_ofW HT_.out HW_.out kr) (fun _ _ _ h => h) (Or.inl ⟨by rfl, ?_⟩) bxs ?_ ?_
 rotate_left
 · intro w' hS
   go_simp
   with_reducible rfl
 rotate_left
 · exact nr1
 refine join_ (σ := Nat × Nat) 21 #[true, true, true, true, true, true, false, true, false, false, false, false, false, false, false, false, false, false, false, false, false, false, false, false, false, false, false, false] (fun s_ => [(17, .slice (some ⟨s_.1, 0, none⟩) 2 2), (20, .slice (some ⟨s_.2, 0, none⟩) 1 1), (18, .agg #[.int .i64 2, .int .i64 x2, .int .i64 x3, .string x4, .bool x5, .int .i64 x6])]) (fun s_ w' => Bx w w' ((s_.2, 25, #[.int .i64 a1, .int .i64 a2, .int .i64 a3, .string a4, .bool a5, .int .i64 a6]) :: (s_.1, 25, #[.int .i64 a1, .int .i64 a2, .int .i64 a3, .string a4, .bool a5, .int .i64 a6, .int .i64 b1, .int .i64 b2, .int .i64 b3, .string b4, .bool b5, .int .i64 b6]) :: [(g7, 25, #[.int .i64 2, .int .i64 x2, .int .i64 x3, .string x4, .bool x5, .int .i64 x6]), (g5, 25, #[.int .i64 c1, .int .i64 c2, .int .i64 c3, .string c4, .bool c5, .int .i64 c6]), (g4, 25, #[.int .i64 b1, .int .i64 b2, .int .i64 b3, .string b4, .bool b5, .int .i64 b6]), (g3, 25, #[.int .i64 a1, .int .i64 a2, .int .i64 a3, .string a4, .bool a5, .int .i64 a6])])) ?_ (fun hJ => ?_)
 rotate_left
 · skip
   refine two_ (i := 2) (j := 5) (Ni := some 17) (Nj := some 20) #[true, true, true, false, true, false, false, true, false, false, false, false, false, false, false, false, false, false, false, false, false, false, false, false, false, false, false, false] #[true, true, false, false, true, true, false, true, false, false, false, false, false, false, false, false, false, false, false, false, false, false, false, false, false, false, false, false] rfl rfl rfl rfl (two_of HT_.out kr) (by decide) (by decide) (fun K hK => ?_) (fun K hK => ?_)
   · skip
     refine slice1 17 2 #[.int .i64 a1, .int .i64 a2, .int .i64 a3, .string a4, .bool a5, .int .i64 a6, .int .i64 b1, .int .i64 b2, .int .i64 b3, .string b4, .bool b5, .int .i64 b6] 25 rfl rfl gr ?_
     clear BX
     intro g17 wv2 BX
     refine hK.out _ _ bxs (fun hHeld => ?_)
     clear hK K hHeld
     refine norm_ (a' := ?_) ?_ ?_
     rotate_left
     · show Act.put _ (some 17) _ = _
       exact nr1
     refine two_ (i := 3) (j := 5) (Ni := some 18) (Nj := some 20) #[true, true, true, true, true, false, false, true, false, false, false, false, false, false, false, false, false, false, false, false, false, false, false, false, false, false, false, false] #[true, true, true, false, true, true, false, true, false, false, false, false, false, false, false, false, false, false, false, false, false, false, false, false, false, false, false, false] rfl rfl rfl rfl (two_of HT_.out kr) (by decide) (by decide) (fun K hK => ?_) (fun K hK => ?_)
     · skip
       refine goes_ Tryd.func36 kr rfl #[.slice (some ⟨g17, 0, none⟩) 2 2] (by rfl) rfl rfl ga ?_
       with_reducible refine (Join_callsN k (some ⟨g17, 0, none⟩) 2 2 [(a1, a2, a3, a4, a5, a6), (b1, b2, b3, b4, b5, b6)] rfl _ ?sd11a ?sd11b (by decide) s1 s2 s3 s4 s5 s6 2 x2 x3 x4 x5 x6 HS.out HJ2.out).mono ?_
       (case sd11a => exact HT.out.on bx_bl)
       (case sd11b => exact row_of_box (l := [(a1, a2, a3, a4, a5, a6), (b1, b2, b3, b4, b5, b6)]) bx_get)
       rintro e wv3 ⟨rfl, hb⟩
       refine ⟨_, rfl, ?_⟩
       replace BX := bx_call hb
       clear hb
       refine hK.out _ _ bxs (fun hHeld => ?_)
       clear hK K hHeld
       refine norm_ (a' := ?_) ?_ ?_
       rotate_left
       · show Act.put _ (some 18) _ = _
         exact nr1
       refine one_ (i := 5) (N := some 20) #[true, true, true, true, true, true, false, true, false, false, false, false, false, false, false, false, false, false, false, false, false, false, false, false, false, false, false, false] rfl rfl (one_of HT_.out kr) (by decide) (fun K hK => ?_)
       refine slice1 20 1 #[.int .i64 a1, .int .i64 a2, .int .i64 a3, .string a4, .bool a5, .int .i64 a6] 25 rfl rfl gr ?_
       clear BX
       intro g20 wv5 BX
       refine hK.out _ _ bxs (fun hHeld => ?_)
       clear hK K hHeld
       refine norm_ (a' := ?_) ?_ ?_
       rotate_left
       · show Act.put _ (some 20) _ = _
         exact nr1
       exact norm_ nrm (hJ (g17, g20) _ bxs)
     · skip
       refine slice1 20 1 #[.int .i64 a1, .int .i64 a2, .int .i64 a3, .string a4, .bool a5, .int .i64 a6] 25 rfl rfl gr ?_
       clear BX
       intro g20 wv5 BX
       refine hK.out _ _ bxs (fun hHeld => ?_)
       clear hK K hHeld
       refine norm_ (a' := ?_) ?_ ?_
       rotate_left
       · show Act.put _ (some 20) _ = _
         exact nr1
       refine one_ (i := 3) (N := some 18) #[true, true, true, true, true, true, false, true, false, false, false, false, false, false, false, false, false, false, false, false, false, false, false, false, false, false, false, false] rfl rfl (one_of HT_.out kr) (by decide) (fun K hK => ?_)
       refine goes_ Tryd.func36 kr rfl #[.slice (some ⟨g17, 0, none⟩) 2 2] (by rfl) rfl rfl ga ?_
       with_reducible refine (Join_callsN k (some ⟨g17, 0, none⟩) 2 2 [(a1, a2, a3, a4, a5, a6), (b1, b2, b3, b4, b5, b6)] rfl _ ?sd12a ?sd12b (by decide) s1 s2 s3 s4 s5 s6 2 x2 x3 x4 x5 x6 HS.out HJ2.out).mono ?_
       (case sd12a => exact HT.out.on bx_bl)
       (case sd12b => exact row_of_box (l := [(a1, a2, a3, a4, a5, a6), (b1, b2, b3, b4, b5, b6)]) bx_get)
       rintro e wv3 ⟨rfl, hb⟩
       refine ⟨_, rfl, ?_⟩
       replace BX := bx_call hb
       clear hb
       refine hK.out _ _ bxs (fun hHeld => ?_)
       clear hK K hHeld
       refine norm_ (a' := ?_) ?_ ?_
       rotate_left
       · show Act.put _ (some 18) _ = _
         exact nr1
       exact norm_ nrm (hJ (g17, g20) _ bxs)
   · skip
     refine slice1 20 1 #[.int .i64 a1, .int .i64 a2, .int .i64 a3, .string a4, .bool a5, .int .i64 a6] 25 rfl rfl gr ?_
     clear BX
     intro g20 wv5 BX
     refine hK.out _ _ bxs (fun hHeld => ?_)
     clear hK K hHeld
     refine norm_ (a' := ?_) ?_ ?_
     rotate_left
     · show Act.put _ (some 20) _ = _
       exact nr1
     refine one_ (i := 2) (N := some 17) #[true, true, true, false, true, true, false, true, false, false, false, false, false, false, false, false, false, false, false, false, false, false, false, false, false, false, false, false] rfl rfl (one_of HT_.out kr) (by decide) (fun K hK => ?_)
     refine slice1 17 2 #[.int .i64 a1, .int .i64 a2, .int .i64 a3, .string a4, .bool a5, .int .i64 a6, .int .i64 b1, .int .i64 b2, .int .i64 b3, .string b4, .bool b5, .int .i64 b6] 25 rfl rfl gr ?_
     clear BX
     intro g17 wv2 BX
     refine hK.out _ _ bxs (fun hHeld => ?_)
     clear hK K hHeld
     refine norm_ (a' := ?_) ?_ ?_
     rotate_left
     · show Act.put _ (some 17) _ = _
       exact nr1
     refine one_ (i := 3) (N := some 18) #[true, true, true, true, true, true, false, true, false, false, false, false, false, false, false, false, false, false, false, false, false, false, false, false, false, false, false, false] rfl rfl (one_of HT_.out kr) (by decide) (fun K hK => ?_)
     refine goes_ Tryd.func36 kr rfl #[.slice (some ⟨g17, 0, none⟩) 2 2] (by rfl) rfl rfl ga ?_
     with_reducible refine (Join_callsN k (some ⟨g17, 0, none⟩) 2 2 [(a1, a2, a3, a4, a5, a6), (b1, b2, b3, b4, b5, b6)] rfl _ ?sd13a ?sd13b (by decide) s1 s2 s3 s4 s5 s6 2 x2 x3 x4 x5 x6 HS.out HJ2.out).mono ?_
     (case sd13a => exact HT.out.on bx_bl)
     (case sd13b => exact row_of_box (l := [(a1, a2, a3, a4, a5, a6), (b1, b2, b3, b4, b5, b6)]) bx_get)
     rintro e wv3 ⟨rfl, hb⟩
     refine ⟨_, rfl, ?_⟩
     replace BX := bx_call hb
     clear hb
     refine hK.out _ _ bxs (fun hHeld => ?_)
     clear hK K hHeld
     refine norm_ (a' := ?_) ?_ ?_
     rotate_left
     · show Act.put _ (some 18) _ = _
       exact nr1
     exact norm_ nrm (hJ (g17, g20) _ (bxw bxs))
 rintro ⟨g17, g20⟩ wj BX2
 clear BX
 have BX := BX2
 clear BX2
 refine norm_ (a' := ?_) ?_ ?_
 rotate_left
 · simp only [putAll, Act.put, List.setIfInBounds_toArray, List.set_cons_zero, List.set_cons_succ]
   rfl
 refine one_ (i := 6) (N := some 21) #[true, true, true, true, true, true, true, true, false, false, false, false, false, false, false, false, false, false, false, false, false, false, false, false, false, false, false, false] rfl rfl (one_of HT_.out kr) (by decide) (fun K hK => ?_)
 refine goes_ Tryd.func36 kr rfl #[.slice (some ⟨g20, 0, none⟩) 1 1] (by rfl) rfl rfl ga ?_
 with_reducible refine (Join_callsN k (some ⟨g20, 0, none⟩) 1 1 [(a1, a2, a3, a4, a5, a6)] rfl _ ?sd14a ?sd14b (by decide) s1 s2 s3 s4 s5 s6 i1 i2 i3 i4 i5 i6 HS.out HJ1.out).mono ?_
 (case sd14a => exact HT.out.on bx_bl)
 (case sd14b => exact row_of_box (l := [(a1, a2, a3, a4, a5, a6)]) bx_get)
 rintro e wv6 ⟨rfl, hb⟩
 refine ⟨_, rfl, ?_⟩
 replace BX := bx_call hb
 clear hb
 refine hK.out _ _ bxs (fun hHeld => ?_)
 clear hK K hHeld
 refine norm_ (a' := ?_) ?_ ?_
 rotate_left
 · show Act.put _ (some 21) _ = _
   exact nr1
 refine one_ (i := 8) (N := some 23) #[true, true, true, true, true, true, true, true, true, false, false, false, false, false, false, false, false, false, false, false, false, false, false, false, false, false, false, false] rfl rfl (one_of HT_.out kr) (by decide) (fun K hK => ?_)
 refine goes_ Tryd.func31 kr rfl #[.int .i64 16, .agg #[.int .i64 i1, .int .i64 i2, .int .i64 i3, .string i4, .bool i5, .int .i64 i6], .agg #[.int .i64 b1, .int .i64 b2, .int .i64 b3, .string b4, .bool b5, .int .i64 b6]] (by rfl) rfl rfl ga ?_
 with_reducible refine (value_Bin.calls k 16 i1 i2 i3 i4 i5 i6 b1 b2 b3 b4 b5 b6 2 x2 x3 x4 x5 x6 _ ?sd15a HB.out).mono ?_
 (case sd15a => exact HT.out.on bx_bl)
 rintro e wv8 ⟨rfl, hb⟩
 refine ⟨_, rfl, ?_⟩
 replace BX := bx_call hb
 clear hb
 refine hK.out _ _ bxs (fun hHeld => ?_)
 clear hK K hHeld
 refine norm_ (a' := ?_) ?_ ?_
 rotate_left
 · show Act.put _ (some 23) _ = _
   exact nr1
 refine pure_ (i := 9) (N := some 24) (v := ?_) (a' := ?_) #[true, true, true, true, true, true, true, true, true, true, false, false, false, false, false, false, false, false, false, false, false, false, false, false, false, false, false, false] rfl rfl (any_of HT_.out kr) (fun _ _ _ h => h) (Or.inl ⟨by rfl, ?_⟩) ?_ ?_
 rotate_left
 · intro w'
   go_simp
   with_reducible rfl
 rotate_left
 · exact nr1
 refine pure_ (i := 10) (N := some 25) (v := ?_) (a' := ?_) #[true, true, true, true, true, true, true, true, true, true, true, false, false, false, false, false, false, false, false, false, false, false, false, false, false, false, false, false] rfl rfl (any_of HT_.out kr) (fun _ _ _ h => h) (Or.inl ⟨by rfl, ?_⟩) ?_ ?_
 rotate_left
 · intro w'
   go_simp
   with_reducible rfl
 rotate_left
 · exact nr1
 refine pure_ (i := 11) (N := some 26) (v := ?_) (a' := ?_) #[true, true, true, true, true, true, true, true, true, true, true, true, false, false, false, false, false, false, false, false, false, false, false, false, false, false, false, false] rfl rfl (any_of HT_.out kr) (fun _ _ _ h => h) (Or.inl ⟨by rfl, ?_⟩) ?_ ?_
 rotate_left
 · intro w'
   go_simp
   with_reducible rfl
 rotate_left
 · exact nr1
 refine take_ (i := 12) (N := some 27) (v := ?_) (a' := ?_) #[true, true, true, true, true, true, true, true, true, true, true, true, true, false, false, false, false, false, false, false, false, false, false, false, false, false, false, false] rfl rfl (take_ofW HT_.out HW_.out kr) (fun _ _ _ h => h) (Or.inl ⟨by rfl, ?_⟩) bxs ?_ ?_
 rotate_left
 · intro w' hS
   go_simp
   with_reducible rfl
 rotate_left
 · exact nr1
 refine pure_ (i := 13) (N := some 28) (v := ?_) (a' := ?_) #[true, true, true, true, true, true, true, true, true, true, true, true, true, true, false, false, false, false, false, false, false, false, false, false, false, false, false, false] rfl rfl (any_of HT_.out kr) (fun _ _ _ h => h) (Or.inl ⟨by rfl, ?_⟩) ?_ ?_
 rotate_left
 · intro w'
   go_simp
   with_reducible rfl
 rotate_left
 · exact nr1
 refine pure_ (i := 14) (N := some 29) (v := ?_) (a' := ?_) #[true, true, true, true, true, true, true, true, true, true, true, true, true, true, true, false, false, false, false, false, false, false, false, false, false, false, false, false] rfl rfl (any_of HT_.out kr) (fun _ _ _ h => h) (Or.inl ⟨by rfl, ?_⟩) ?_ ?_
 rotate_left
 · intro w'
   go_simp
   with_reducible rfl
 rotate_left
 · exact nr1
 refine take_ (i := 15) (N := some 30) (v := ?_) (a' := ?_) #[true, true, true, true, true, true, true, true, true, true, true, true, true, true, true, true, false, false, false, false, false, false, false, false, false, false, false, false] rfl rfl (take_ofW HT_.out HW_.out kr) (fun _ _ _ h => h) (Or.inl ⟨by rfl, ?_⟩) bxs ?_ ?_
 rotate_left
 · intro w' hS
   go_simp
   with_reducible rfl
 rotate_left
 · exact nr1
 refine take_ (i := 16) (N := some 31) (v := ?_) (a' := ?_) #[true, true, true, true, true, true, true, true, true, true, true, true, true, true, true, true, true, false, false, false, false, false, false, false, false, false, false, false] rfl rfl (take_ofW HT_.out HW_.out kr) (fun _ _ _ h => h) (Or.inl ⟨by rfl, ?_⟩) bxs ?_ ?_
 rotate_left
 · intro w' hS
   go_simp
   with_reducible rfl
 rotate_left
 · exact nr1
 refine take_ (i := 19) (N := some 34) (v := ?_) (a' := ?_) #[true, true, true, true, true, true, true, true, true, true, true, true, true, true, true, true, true, false, false, true, false, false, false, false, false, false, false, false] rfl rfl (take_ofW HT_.out HW_.out kr) (fun _ _ _ h => h) (Or.inl ⟨by rfl, ?_⟩) bxs ?_ ?_
 rotate_left
 · intro w' hS
   go_simp
   with_reducible rfl
 rotate_left
 · exact nr1
 refine one_ (i := 17) (N := some 32) #[true, true, true, true, true, true, true, true, true, true, true, true, true, true, true, true, true, true, false, true, false, false, false, false, false, false, false, false] rfl rfl (one_of HT_.out kr) (by decide) (fun K hK => ?_)
 refine slice1 32 2 #[.int .i64 a1, .int .i64 a2, .int .i64 a3, .string a4, .bool a5, .int .i64 a6, .int .i64 b1, .int .i64 b2, .int .i64 b3, .string b4, .bool b5, .int .i64 b6] 25 rfl rfl gr ?_
 clear BX
 intro g32 wv17 BX
 refine hK.out _ _ bxs (fun hHeld => ?_)
 clear hK K hHeld
 refine norm_ (a' := ?_) ?_ ?_
 rotate_left
 · show Act.put _ (some 32) _ = _
   exact nr1
 refine one_ (i := 18) (N := some 33) #[true, true, true, true, true, true, true, true, true, true, true, true, true, true, true, true, true, true, true, true, false, false, false, false, false, false, false, false] rfl rfl (one_of HT_.out kr) (by decide) (fun K hK => ?_)
 refine goes_ Tryd.func36 kr rfl #[.slice (some ⟨g32, 0, none⟩) 2 2] (by rfl) rfl rfl ga ?_
 with_reducible refine (Join_callsN k (some ⟨g32, 0, none⟩) 2 2 [(a1, a2, a3, a4, a5, a6), (b1, b2, b3, b4, b5, b6)] rfl _ ?sd16a ?sd16b (by decide) s1 s2 s3 s4 s5 s6 2 x2 x3 x4 x5 x6 HS.out HJ2.out).mono ?_
 (case sd16a => exact HT.out.on bx_bl)
 (case sd16b => exact row_of_box (l := [(a1, a2, a3, a4, a5, a6), (b1, b2, b3, b4, b5, b6)]) bx_get)
 rintro e wv18 ⟨rfl, hb⟩
 refine ⟨_, rfl, ?_⟩
 replace BX := bx_call hb
 clear hb
 refine hK.out _ _ bxs (fun hHeld => ?_)
 clear hK K hHeld
 refine norm_ (a' := ?_) ?_ ?_
 rotate_left
 · show Act.put _ (some 33) _ = _
   exact nr1
 refine pure_ (i := 20) (N := some 35) (v := ?_) (a' := ?_) #[true, true, true, true, true, true, true, true, true, true, true, true, true, true, true, true, true, true, true, true, true, false, false, false, false, false, false, false] rfl rfl (any_of HT_.out kr) (fun _ _ _ h => h) (Or.inl ⟨by rfl, ?_⟩) ?_ ?_
 rotate_left
 · intro w'
   go_simp
   with_reducible rfl
 rotate_left
 · exact nr1
 refine pure_ (i := 21) (N := some 36) (v := ?_) (a' := ?_) #[true, true, true, true, true, true, true, true, true, true, true, true, true, true, true, true, true, true, true, true, true, true, false, false, false, false, false, false] rfl rfl (any_of HT_.out kr) (fun _ _ _ h => h) (Or.inl ⟨by rfl, ?_⟩) ?_ ?_
 rotate_left
 · intro w'
   go_simp
   with_reducible rfl
 rotate_left
 · exact nr1
 refine pure_ (i := 22) (N := some 37) (v := ?_) (a' := ?_) #[true, true, true, true, true, true, true, true, true, true, true, true, true, true, true, true, true, true, true, true, true, true, true, false, false, false, false, false] rfl rfl (any_of HT_.out kr) (fun _ _ _ h => h) (Or.inl ⟨by rfl, ?_⟩) ?_ ?_
 rotate_left
 · intro w'
   go_simp
   with_reducible rfl
 rotate_left
 · exact nr1
 refine take_ (i := 23) (N := some 38) (v := ?_) (a' := ?_) #[true, true, true, true, true, true, true, true, true, true, true, true, true, true, true, true, true, true, true, true, true, true, true, true, false, false, false, false] rfl rfl (take_ofW HT_.out HW_.out kr) (fun _ _ _ h => h) (Or.inl ⟨by rfl, ?_⟩) bxs ?_ ?_
 rotate_left
 · intro w' hS
   go_simp
   with_reducible rfl
 rotate_left
 · exact nr1
 refine pure_ (i := 24) (N := some 39) (v := ?_) (a' := ?_) #[true, true, true, true, true, true, true, true, true, true, true, true, true, true, true, true, true, true, true, true, true, true, true, true, true, false, false, false] rfl rfl (any_of HT_.out kr) (fun _ _ _ h => h) (Or.inl ⟨by rfl, ?_⟩) ?_ ?_
 rotate_left
 · intro w'
   go_simp
   with_reducible rfl
 rotate_left
 · exact nr1
 refine pure_ (i := 25) (N := some 40) (v := ?_) (a' := ?_) #[true, true, true, true, true, true, true, true, true, true, true, true, true, true, true, true, true, true, true, true, true, true, true, true, true, true, false, false] rfl rfl (any_of HT_.out kr) (fun _ _ _ h => h) (Or.inl ⟨by rfl, ?_⟩) ?_ ?_
 rotate_left
 · intro w'
   go_simp
   with_reducible rfl
 rotate_left
 · exact nr1
 refine pure_ (i := 26) (N := some 41) (v := ?_) (a' := ?_) #[true, true, true, true, true, true, true, true, true, true, true, true, true, true, true, true, true, true, true, true, true, true, true, true, true, true, true, false] rfl rfl (any_of HT_.out kr) (fun _ _ _ h => h) (Or.inl ⟨by rfl, ?_⟩) ?_ ?_
 rotate_left
 · intro w'
   go_simp
   with_reducible rfl
 rotate_left
 · exact nr1
 refine pure_ (i := 27) (N := some 42) (v := ?_) (a' := ?_) #[true, true, true, true, true, true, true, true, true, true, true, true, true, true, true, true, true, true, true, true, true, true, true, true, true, true, true, true] rfl rfl (any_of HT_.out kr) (fun _ _ _ h => h) (Or.inl ⟨by rfl, ?_⟩) ?_ ?_
 rotate_left
 · intro w'
   go_simp
   with_reducible rfl
 rotate_left
 · exact nr1
 refine done_ (done_of HT_.out kr) ?_
 try go_wp2_with (first
  | ((with_reducible refine gate_callee (f := 31) rfl ?_); refine goesL_ (some 45) rfl rfl Tryd.func31 kr rfl #[.int .i64 16, .agg #[.int .i64 2, .int .i64 x2, .int .i64 x3, .string x4, .bool x5, .int .i64 x6], .agg #[.int .i64 c1, .int .i64 c2, .int .i64 c3, .string c4, .bool c5, .int .i64 c6]] rfl ga ?_; (with_reducible refine (value_Bin.calls k 16 2 x2 x3 x4 x5 x6 c1 c2 c3 c4 c5 c6 4 l2 l3 l4 l5 l6 _ ?side1 HL.out).mono ?_); (case side1 => exact HT.out.on bx_bl); rintro e wc45 ⟨rfl, hb⟩; refine ⟨_, rfl, ?_⟩; replace BX := bx_call hb; clear hb)
  | ((with_reducible refine gate_dst (N := 8) rfl ?_); refine bxe 8 #[.int .i64 0, .int .i64 0, .int .i64 0, .string (⟨#[]⟩ : ByteArray), .bool false, .int .i64 0] 25 rfl rfl gr ?_; clear BX; intro g8 w_g8 GEg8 BX))
 refine startb (n := 7) (ds := [6]) #[false, false, false, false, false, false, false] kr rfl rfl (fun BX1 => ?_)
 clear BX
 have BX := BX1
 clear BX1
 skip
 refine take_ (i := 0) (N := some 46) (v := ?_) (a' := ?_) #[true, false, false, false, false, false, false] rfl rfl kr (fun _ _ _ h => h) (Or.inl ⟨by rfl, ?_⟩) bxs ?_ ?_
 rotate_left
 · intro w' hS
   go_simp
   with_reducible rfl
 rotate_left
 · exact nr1
 refine take_ (i := 1) (N := some 47) (v := ?_) (a' := ?_) #[true, true, false, false, false, false, false] rfl rfl kr (fun _ _ _ h => h) (Or.inl ⟨by rfl, ?_⟩) bxs ?_ ?_
 rotate_left
 · intro w' hS
   go_simp
   with_reducible rfl
 rotate_left
 · exact nr1
 refine take_ (i := 2) (N := some 48) (v := ?_) (a' := ?_) #[true, true, true, false, false, false, false] rfl rfl kr (fun _ _ _ h => h) (Or.inl ⟨by rfl, ?_⟩) bxs ?_ ?_
 rotate_left
 · intro w' hS
   go_simp
   with_reducible rfl
 rotate_left
 · exact nr1
 refine join_ (σ := Nat) 1 #[true, true, true, true, true, true, false] (fun s_ => [(49, .agg #[.int .i64 q1, .int .i64 q2, .int .i64 q3, .string q4, .bool q5, .int .i64 q6]), (50, .agg #[.int .i64 r1, .int .i64 r2, .int .i64 r3, .string r4, .bool r5, .int .i64 r6]), (9, .pointer (some ⟨s_, 0, none⟩))]) (fun s_ w' => Bx w w' ((s_, 25, #[.int .i64 0, .int .i64 0, .int .i64 0, .string (⟨#[]⟩ : ByteArray), .bool false, .int .i64 0]) :: [(g8, 25, #[.int .i64 4, .int .i64 l2, .int .i64 l3, .string l4, .bool l5, .int .i64 l6]), (g7, 25, #[.int .i64 2, .int .i64 x2, .int .i64 x3, .string x4, .bool x5, .int .i64 x6]), (g5, 25, #[.int .i64 c1, .int .i64 c2, .int .i64 c3, .string c4, .bool c5, .int .i64 c6]), (g4, 25, #[.int .i64 b1, .int .i64 b2, .int .i64 b3, .string b4, .bool b5, .int .i64 b6]), (g3, 25, #[.int .i64 a1, .int .i64 a2, .int .i64 a3, .string a4, .bool a5, .int .i64 a6])])) ?_ (fun hJ => ?_)
 rotate_left
 · skip
   refine two_ (i := 3) (j := 5) (Ni := some 49) (Nj := some 9) #[true, true, true, true, false, false, false] #[true, true, true, false, false, true, false] rfl rfl rfl rfl kr (by decide) (by decide) (fun K hK => ?_) (fun K hK => ?_)
   · skip
     refine goes_ Tryd.func31 kr rfl #[.int .i64 16, .agg #[.int .i64 b1, .int .i64 b2, .int .i64 b3, .string b4, .bool b5, .int .i64 b6], .agg #[.int .i64 c1, .int .i64 c2, .int .i64 c3, .string c4, .bool c5, .int .i64 c6]] (by rfl) rfl rfl ga ?_
     with_reducible refine (value_Bin.calls k 16 b1 b2 b3 b4 b5 b6 c1 c2 c3 c4 c5 c6 q1 q2 q3 q4 q5 q6 _ ?sd17a HQ.out).mono ?_
     (case sd17a => exact HT.out.on bx_bl)
     rintro e wv3 ⟨rfl, hb⟩
     refine ⟨_, rfl, ?_⟩
     replace BX := bx_call hb
     clear hb
     refine hK.out _ _ bxs (fun hHeld => ?_)
     clear hK K hHeld
     refine norm_ (a' := ?_) ?_ ?_
     rotate_left
     · show Act.put _ (some 49) _ = _
       exact nr1
     refine two_ (i := 4) (j := 5) (Ni := some 50) (Nj := some 9) #[true, true, true, true, true, false, false] #[true, true, true, true, false, true, false] rfl rfl rfl rfl kr (by decide) (by decide) (fun K hK => ?_) (fun K hK => ?_)
     · skip
       refine goes_ Tryd.func31 kr rfl #[.int .i64 16, .agg #[.int .i64 a1, .int .i64 a2, .int .i64 a3, .string a4, .bool a5, .int .i64 a6], .agg #[.int .i64 q1, .int .i64 q2, .int .i64 q3, .string q4, .bool q5, .int .i64 q6]] (by rfl) rfl rfl ga ?_
       with_reducible refine (value_Bin.calls k 16 a1 a2 a3 a4 a5 a6 q1 q2 q3 q4 q5 q6 r1 r2 r3 r4 r5 r6 _ ?sd18a HRR.out).mono ?_
       (case sd18a => exact HT.out.on bx_bl)
       rintro e wv4 ⟨rfl, hb⟩
       refine ⟨_, rfl, ?_⟩
       replace BX := bx_call hb
       clear hb
       refine hK.out _ _ bxs (fun hHeld => ?_)
       clear hK K hHeld
       refine norm_ (a' := ?_) ?_ ?_
       rotate_left
       · show Act.put _ (some 50) _ = _
         exact nr1
       refine one_ (i := 5) (N := some 9) #[true, true, true, true, true, true, false] rfl rfl kr (by decide) (fun K hK => ?_)
       refine bxe1 9 #[.int .i64 0, .int .i64 0, .int .i64 0, .string (⟨#[]⟩ : ByteArray), .bool false, .int .i64 0] 25 rfl rfl gr ?_
       clear BX
       intro g9 wv5 GE_g9 BX
       refine hK.out _ _ bxs (fun hHeld => ?_)
       clear hK K hHeld
       refine norm_ (a' := ?_) ?_ ?_
       rotate_left
       · show Act.put _ (some 9) _ = _
         exact nr1
       exact norm_ nrm (hJ g9 _ bxs)
     · skip
       refine bxe1 9 #[.int .i64 0, .int .i64 0, .int .i64 0, .string (⟨#[]⟩ : ByteArray), .bool false, .int .i64 0] 25 rfl rfl gr ?_
       clear BX
       intro g9 wv5 GE_g9 BX
       refine hK.out _ _ bxs (fun hHeld => ?_)
       clear hK K hHeld
       refine norm_ (a' := ?_) ?_ ?_
       rotate_left
       · show Act.put _ (some 9) _ = _
         exact nr1
       refine one_ (i := 4) (N := some 50) #[true, true, true, true, true, true, false] rfl rfl kr (by decide) (fun K hK => ?_)
       refine goes_ Tryd.func31 kr rfl #[.int .i64 16, .agg #[.int .i64 a1, .int .i64 a2, .int .i64 a3, .string a4, .bool a5, .int .i64 a6], .agg #[.int .i64 q1, .int .i64 q2, .int .i64 q3, .string q4, .bool q5, .int .i64 q6]] (by rfl) rfl rfl ga ?_
       with_reducible refine (value_Bin.calls k 16 a1 a2 a3 a4 a5 a6 q1 q2 q3 q4 q5 q6 r1 r2 r3 r4 r5 r6 _ ?sd19a HRR.out).mono ?_
       (case sd19a => exact HT.out.on bx_bl)
       rintro e wv4 ⟨rfl, hb⟩
       refine ⟨_, rfl, ?_⟩
       replace BX := bx_call hb
       clear hb
       refine hK.out _ _ bxs (fun hHeld => ?_)
       clear hK K hHeld
       refine norm_ (a' := ?_) ?_ ?_
       rotate_left
       · show Act.put _ (some 50) _ = _
         exact nr1
       exact norm_ nrm (hJ g9 _ bxs)
   · skip
     refine bxe1 9 #[.int .i64 0, .int .i64 0, .int .i64 0, .string (⟨#[]⟩ : ByteArray), .bool false, .int .i64 0] 25 rfl rfl gr ?_
     clear BX
     intro g9 wv5 GE_g9 BX
     refine hK.out _ _ bxs (fun hHeld => ?_)
     clear hK K hHeld
     refine norm_ (a' := ?_) ?_ ?_
     rotate_left
     · show Act.put _ (some 9) _ = _
       exact nr1
     refine one_ (i := 3) (N := some 49) #[true, true, true, true, false, true, false] rfl rfl kr (by decide) (fun K hK => ?_)
     refine goes_ Tryd.func31 kr rfl #[.int .i64 16, .agg #[.int .i64 b1, .int .i64 b2, .int .i64 b3, .string b4, .bool b5, .int .i64 b6], .agg #[.int .i64 c1, .int .i64 c2, .int .i64 c3, .string c4, .bool c5, .int .i64 c6]] (by rfl) rfl rfl ga ?_
     with_reducible refine (value_Bin.calls k 16 b1 b2 b3 b4 b5 b6 c1 c2 c3 c4 c5 c6 q1 q2 q3 q4 q5 q6 _ ?sd20a HQ.out).mono ?_
     (case sd20a => exact HT.out.on bx_bl)
     rintro e wv3 ⟨rfl, hb⟩
     refine ⟨_, rfl, ?_⟩
     replace BX := bx_call hb
     clear hb
     refine hK.out _ _ bxs (fun hHeld => ?_)
     clear hK K hHeld
     refine norm_ (a' := ?_) ?_ ?_
     rotate_left
     · show Act.put _ (some 49) _ = _
       exact nr1
     refine one_ (i := 4) (N := some 50) #[true, true, true, true, true, true, false] rfl rfl kr (by decide) (fun K hK => ?_)
     refine goes_ Tryd.func31 kr rfl #[.int .i64 16, .agg #[.int .i64 a1, .int .i64 a2, .int .i64 a3, .string a4, .bool a5, .int .i64 a6], .agg #[.int .i64 q1, .int .i64 q2, .int .i64 q3, .string q4, .bool q5, .int .i64 q6]] (by rfl) rfl rfl ga ?_
     with_reducible refine (value_Bin.calls k 16 a1 a2 a3 a4 a5 a6 q1 q2 q3 q4 q5 q6 r1 r2 r3 r4 r5 r6 _ ?sd21a HRR.out).mono ?_
     (case sd21a => exact HT.out.on bx_bl)
     rintro e wv4 ⟨rfl, hb⟩
     refine ⟨_, rfl, ?_⟩
     replace BX := bx_call hb
     clear hb
     refine hK.out _ _ bxs (fun hHeld => ?_)
     clear hK K hHeld
     refine norm_ (a' := ?_) ?_ ?_
     rotate_left
     · show Act.put _ (some 50) _ = _
       exact nr1
     exact norm_ nrm (hJ g9 _ bxs)
 rintro g9 wj BX2
 clear BX
 have BX := BX2
 clear BX2
 refine norm_ (a' := ?_) ?_ ?_
 rotate_left
 · simp only [putAll, Act.put, List.setIfInBounds_toArray, List.set_cons_zero, List.set_cons_succ]
   rfl
 refine last_ (i := 6) (N := none) #[true, true, true, true, true, true, true] rfl rfl kr (by decide) (fun K hK => ?_)
 refine skip_ (w1 := ?_) (by rfl) rfl ?_ ?_
 rotate_left
 · go_simp
   rfl
 refine hK.out _ _ ?_
 clear hK K
 refine done_ kr ?_
 try go_wp2
 refine startb (n := 23) (ds := []) #[false, false, false, false, false, false, false, false, false, false, false, false, false, false, false, false, false, false, false, false, false, false, false] kr rfl rfl (fun BX1 => ?_)
 refine with_tabW VT8_tab VT8_bits (fun HT_ HW_ => ?_)
 clear BX
 have BX := BX1
 clear BX1
 skip
 refine pure_ (i := 0) (N := some 51) (v := ?_) (a' := ?_) #[true, false, false, false, false, false, false, false, false, false, false, false, false, false, false, false, false, false, false, false, false, false, false] rfl rfl (any_of HT_.out kr) (fun _ _ _ h => h) (Or.inl ⟨by rfl, ?_⟩) ?_ ?_
 rotate_left
 · intro w'
   go_simp
   with_reducible rfl
 rotate_left
 · exact nr1
 refine take_ (i := 1) (N := some 52) (v := ?_) (a' := ?_) #[true, true, false, false, false, false, false, false, false, false, false, false, false, false, false, false, false, false, false, false, false, false, false] rfl rfl (take_ofW HT_.out HW_.out kr) (fun _ _ _ h => h) (Or.inl ⟨by rfl, ?_⟩) bxs ?_ ?_
 rotate_left
 · intro w' hS
   go_simp
   with_reducible rfl
 rotate_left
 · exact nr1
 refine pure_ (i := 2) (N := some 53) (v := ?_) (a' := ?_) #[true, true, true, false, false, false, false, false, false, false, false, false, false, false, false, false, false, false, false, false, false, false, false] rfl rfl (any_of HT_.out kr) (fun _ _ _ h => h) (Or.inl ⟨by rfl, ?_⟩) ?_ ?_
 rotate_left
 · intro w'
   go_simp
   with_reducible rfl
 rotate_left
 · exact nr1
 refine pure_ (i := 3) (N := some 54) (v := ?_) (a' := ?_) #[true, true, true, true, false, false, false, false, false, false, false, false, false, false, false, false, false, false, false, false, false, false, false] rfl rfl (any_of HT_.out kr) (fun _ _ _ h => h) (Or.inl ⟨by rfl, ?_⟩) ?_ ?_
 rotate_left
 · intro w'
   go_simp
   with_reducible rfl
 rotate_left
 · exact nr1
 refine pure_ (i := 4) (N := some 55) (v := undef) (a' := ?_) #[true, true, true, true, true, false, false, false, false, false, false, false, false, false, false, false, false, false, false, false, false, false, false] rfl rfl (any_of HT_.out kr) (fun _ _ _ h => h) (Or.inr ⟨by rfl, rfl⟩) ?_ ?_
 rotate_left
 · exact nr1
 refine pure_ (i := 5) (N := some 56) (v := undef) (a' := ?_) #[true, true, true, true, true, true, false, false, false, false, false, false, false, false, false, false, false, false, false, false, false, false, false] rfl rfl (any_of HT_.out kr) (fun _ _ _ h => h) (Or.inr ⟨by rfl, rfl⟩) ?_ ?_
 rotate_left
 · exact nr1
 refine pure_ (i := 6) (N := some 57) (v := undef) (a' := ?_) #[true, true, true, true, true, true, true, false, false, false, false, false, false, false, false, false, false, false, false, false, false, false, false] rfl rfl (any_of HT_.out kr) (fun _ _ _ h => h) (Or.inr ⟨by rfl, rfl⟩) ?_ ?_
 rotate_left
 · exact nr1
 refine pure_ (i := 7) (N := some 58) (v := ?_) (a' := ?_) #[true, true, true, true, true, true, true, true, false, false, false, false, false, false, false, false, false, false, false, false, false, false, false] rfl rfl (any_of HT_.out kr) (fun _ _ _ h => h) (Or.inl ⟨by rfl, ?_⟩) ?_ ?_
 rotate_left
 · intro w'
   go_simp
   with_reducible rfl
 rotate_left
 · exact nr1
 refine pure_ (i := 8) (N := some 59) (v := ?_) (a' := ?_) #[true, true, true, true, true, true, true, true, true, false, false, false, false, false, false, false, false, false, false, false, false, false, false] rfl rfl (any_of HT_.out kr) (fun _ _ _ h => h) (Or.inl ⟨by rfl, ?_⟩) ?_ ?_
 rotate_left
 · intro w'
   go_simp
   with_reducible rfl
 rotate_left
 · exact nr1
 refine pure_ (i := 9) (N := some 60) (v := undef) (a' := ?_) #[true, true, true, true, true, true, true, true, true, true, false, false, false, false, false, false, false, false, false, false, false, false, false] rfl rfl (any_of HT_.out kr) (fun _ _ _ h => h) (Or.inr ⟨by rfl, rfl⟩) ?_ ?_
 rotate_left
 · exact nr1
 refine pure_ (i := 10) (N := some 61) (v := undef) (a' := ?_) #[true, true, true, true, true, true, true, true, true, true, true, false, false, false, false, false, false, false, false, false, false, false, false] rfl rfl (any_of HT_.out kr) (fun _ _ _ h => h) (Or.inr ⟨by rfl, rfl⟩) ?_ ?_
 rotate_left
 · exact nr1
 refine pure_ (i := 11) (N := some 62) (v := undef) (a' := ?_) #[true, true, true, true, true, true, true, true, true, true, true, true, false, false, false, false, false, false, false, false, false, false, false] rfl rfl (any_of HT_.out kr) (fun _ _ _ h => h) (Or.inr ⟨by rfl, rfl⟩) ?_ ?_
 rotate_left
 · exact nr1
 refine pure_ (i := 12) (N := some 63) (v := undef) (a' := ?_) #[true, true, true, true, true, true, true, true, true, true, true, true, true, false, false, false, false, false, false, false, false, false, false] rfl rfl (any_of HT_.out kr) (fun _ _ _ h => h) (Or.inr ⟨by rfl, rfl⟩) ?_ ?_
 rotate_left
 · exact nr1
 refine pure_ (i := 13) (N := some 64) (v := undef) (a' := ?_) #[true, true, true, true, true, true, true, true, true, true, true, true, true, true, false, false, false, false, false, false, false, false, false] rfl rfl (any_of HT_.out kr) (fun _ _ _ h => h) (Or.inr ⟨by rfl, rfl⟩) ?_ ?_
 rotate_left
 · exact nr1
 refine pure_ (i := 14) (N := some 65) (v := undef) (a' := ?_) #[true, true, true, true, true, true, true, true, true, true, true, true, true, true, true, false, false, false, false, false, false, false, false] rfl rfl (any_of HT_.out kr) (fun _ _ _ h => h) (Or.inr ⟨by rfl, rfl⟩) ?_ ?_
 rotate_left
 · exact nr1
 refine pure_ (i := 15) (N := some 66) (v := undef) (a' := ?_) #[true, true, true, true, true, true, true, true, true, true, true, true, true, true, true, true, false, false, false, false, false, false, false] rfl rfl (any_of HT_.out kr) (fun _ _ _ h => h) (Or.inr ⟨by rfl, rfl⟩) ?_ ?_
 rotate_left
 · exact nr1
 refine pure_ (i := 16) (N := some 67) (v := undef) (a' := ?_) #[true, true, true, true, true, true, true, true, true, true, true, true, true, true, true, true, true, false, false, false, false, false, false] rfl rfl (any_of HT_.out kr) (fun _ _ _ h => h) (Or.inr ⟨by rfl, rfl⟩) ?_ ?_
 rotate_left
 · exact nr1
 refine pure_ (i := 17) (N := some 68) (v := undef) (a' := ?_) #[true, true, true, true, true, true, true, true, true, true, true, true, true, true, true, true, true, true, false, false, false, false, false] rfl rfl (any_of HT_.out kr) (fun _ _ _ h => h) (Or.inr ⟨by rfl, rfl⟩) ?_ ?_
 rotate_left
 · exact nr1
 refine pure_ (i := 18) (N := some 69) (v := undef) (a' := ?_) #[true, true, true, true, true, true, true, true, true, true, true, true, true, true, true, true, true, true, true, false, false, false, false] rfl rfl (any_of HT_.out kr) (fun _ _ _ h => h) (Or.inr ⟨by rfl, rfl⟩) ?_ ?_
 rotate_left
 · exact nr1
 refine pure_ (i := 19) (N := some 70) (v := undef) (a' := ?_) #[true, true, true, true, true, true, true, true, true, true, true, true, true, true, true, true, true, true, true, true, false, false, false] rfl rfl (any_of HT_.out kr) (fun _ _ _ h => h) (Or.inr ⟨by rfl, rfl⟩) ?_ ?_
 rotate_left
 · exact nr1
 refine pure_ (i := 20) (N := some 71) (v := undef) (a' := ?_) #[true, true, true, true, true, true, true, true, true, true, true, true, true, true, true, true, true, true, true, true, true, false, false] rfl rfl (any_of HT_.out kr) (fun _ _ _ h => h) (Or.inr ⟨by rfl, rfl⟩) ?_ ?_
 rotate_left
 · exact nr1
 refine pure_ (i := 21) (N := some 72) (v := ?_) (a' := ?_) #[true, true, true, true, true, true, true, true, true, true, true, true, true, true, true, true, true, true, true, true, true, true, false] rfl rfl (any_of HT_.out kr) (fun _ _ _ h => h) (Or.inl ⟨by rfl, ?_⟩) ?_ ?_
 rotate_left
 · intro w'
   go_simp
   with_reducible rfl
 rotate_left
 · exact nr1
 refine pure_ (i := 22) (N := some 6) (v := ?_) (a' := ?_) #[true, true, true, true, true, true, true, true, true, true, true, true, true, true, true, true, true, true, true, true, true, true, true] rfl rfl (any_of HT_.out kr) (fun _ _ _ h => h) (Or.inl ⟨by rfl, ?_⟩) ?_ ?_
 rotate_left
 · intro w'
   go_simp
   with_reducible rfl
 rotate_left
 · exact nr1
 refine done_ (done_of HT_.out kr) ?_
 try go_wp2
 go_ret
 exact ⟨rfl, bx_bl⟩
set_option maxHeartbeats 8000000 in
set_option maxRecDepth 100000 in
theorem ValueTexts_r4 (k : Nat) (a1 a2 a3 : Int) (a4 : ByteArray) (a5 : Bool) (a6 : Int) (b1 b2 b3 : Int) (b4 : ByteArray) (b5 : Bool) (b6 : Int) (c1 c2 c3 : Int) (c4 : ByteArray) (c5 : Bool) (c6 : Int) (s1 s2 s3 : Int) (s4 : ByteArray) (s5 : Bool) (s6 : Int) (w : World) (HT0 : TabAt w) (x2 x3 : Int) (x4 : ByteArray) (x5 : Bool) (x6 : Int)  (i1 i2 i3 : Int) (i4 : ByteArray) (i5 : Bool) (i6 : Int) (q1 q2 q3 : Int) (q4 : ByteArray) (q5 : Bool) (q6 : Int) (l1 l2 l3 : Int) (l4 : ByteArray) (l5 : Bool) (l6 : Int) (r2 r3 : Int) (r4 : ByteArray) (r5 : Bool) (r6 : Int)
   (hA : whittlelaw2_able.f k = some true) (hs : value_Text.f k (⟨#[]⟩ : ByteArray) = some (s1, s2, s3, s4, s5, s6)) (hx : value_Bin.f k 16 a1 a2 a3 a4 a5 a6 b1 b2 b3 b4 b5 b6 = some (2, x2, x3, x4, x5, x6)) (hj2 : joinL k (s1, s2, s3, s4, s5, s6) [(a1, a2, a3, a4, a5, a6), (b1, b2, b3, b4, b5, b6)] = some (2, x2, x3, x4, x5, x6)) (hj1 : joinL k (s1, s2, s3, s4, s5, s6) [(a1, a2, a3, a4, a5, a6)] = some (i1, i2, i3, i4, i5, i6)) (hb_ : value_Bin.f k 16 i1 i2 i3 i4 i5 i6 b1 b2 b3 b4 b5 b6 = some (2, x2, x3, x4, x5, x6))
   (hl : value_Bin.f k 16 2 x2 x3 x4 x5 x6 c1 c2 c3 c4 c5 c6 = some (l1, l2, l3, l4, l5, l6)) (hq : value_Bin.f k 16 b1 b2 b3 b4 b5 b6 c1 c2 c3 c4 c5 c6 = some (q1, q2, q3, q4, q5, q6)) (hr : value_Bin.f k 16 a1 a2 a3 a4 a5 a6 q1 q2 q3 q4 q5 q6 = some (4, r2, r3, r4, r5, r6)) (nl : ¬ l1 = 4) :
  Calls Tryd.prog 10 #[.agg #[.int .i64 a1, .int .i64 a2, .int .i64 a3, .string a4, .bool a5, .int .i64 a6], .agg #[.int .i64 b1, .int .i64 b2, .int .i64 b3, .string b4, .bool b5, .int .i64 b6], .agg #[.int .i64 c1, .int .i64 c2, .int .i64 c3, .string c4, .bool c5, .int .i64 c6]] w fun e w' => e = .returned (.bool true) ∧ Below w.heap.size w w' := by
 have hu25 := Tryd.underlying25
 have HT := Aside0.mk HT0
 have HA := Aside0.mk hA
 have HS := Aside0.mk hs
 have HX := Aside0.mk hx
 have HJ2 := Aside0.mk hj2
 have HJ1 := Aside0.mk hj1
 have HB := Aside0.mk hb_
 have HL := Aside0.mk hl
 have HQ := Aside0.mk hq
 have HRR := Aside0.mk hr
 clear HT0 hA hs hx hj2 hj1 hb_ hl hq hr
 have nlb : (l1 == 4) = false := beq_eq_false_iff_ne.mpr nl
 clear nl
 have BX := Bx.start w
 go_enter Tryd.func10, Tryd.ntmps10
 go_wp2_with (first
  | ((with_reducible refine gate_dst (N := 3) rfl ?_); refine bxe 3 #[.int .i64 a1, .int .i64 a2, .int .i64 a3, .string a4, .bool a5, .int .i64 a6] 25 rfl rfl gr ?_; clear BX; intro g3 w_g3 GEg3 BX)
  | ((with_reducible refine gate_dst (N := 4) rfl ?_); refine bxe 4 #[.int .i64 b1, .int .i64 b2, .int .i64 b3, .string b4, .bool b5, .int .i64 b6] 25 rfl rfl gr ?_; clear BX; intro g4 w_g4 GEg4 BX)
  | ((with_reducible refine gate_dst (N := 5) rfl ?_); refine bxe 5 #[.int .i64 c1, .int .i64 c2, .int .i64 c3, .string c4, .bool c5, .int .i64 c6] 25 rfl rfl gr ?_; clear BX; intro g5 w_g5 GEg5 BX)
  | ((with_reducible refine gate_callee (f := 15) rfl ?_); refine goesL_ (some 10) rfl rfl Tryd.func15 kr rfl #[] rfl ga ?_; (with_reducible refine (whittlelaw2_able.calls k true _ ?side1 HA.out).mono ?_); (case side1 => exact HT.out.on bx_bl); rintro e wc10 ⟨rfl, hb⟩; refine ⟨_, rfl, ?_⟩; replace BX := bx_call hb; clear hb)
  | ((with_reducible refine gate_callee (f := 31) rfl ?_); refine goesL_ (some 14) rfl rfl Tryd.func31 kr rfl #[.int .i64 16, .agg #[.int .i64 a1, .int .i64 a2, .int .i64 a3, .string a4, .bool a5, .int .i64 a6], .agg #[.int .i64 b1, .int .i64 b2, .int .i64 b3, .string b4, .bool b5, .int .i64 b6]] rfl ga ?_; (with_reducible refine (value_Bin.calls k 16 a1 a2 a3 a4 a5 a6 b1 b2 b3 b4 b5 b6 2 x2 x3 x4 x5 x6 _ ?side1 HX.out).mono ?_); (case side1 => exact HT.out.on bx_bl); rintro e wc14 ⟨rfl, hb⟩; refine ⟨_, rfl, ?_⟩; replace BX := bx_call hb; clear hb)
  | ((with_reducible refine gate_dst (N := 7) rfl ?_); refine bxe 7 #[.int .i64 0, .int .i64 0, .int .i64 0, .string (⟨#[]⟩ : ByteArray), .bool false, .int .i64 0] 25 rfl rfl gr ?_; clear BX; intro g7 w_g7 GEg7 BX))
 refine startb (n := 28) (ds := []) #[false, false, false, false, false, false, false, false, false, false, false, false, false, false, false, false, false, false, false, false, false, false, false, false, false, false, false, false] kr rfl rfl (fun BX1 => ?_)
 refine with_tabW VT4_tab VT4_bits (fun HT_ HW_ => ?_)
 clear BX
 have BX := BX1
 clear BX1
 skip
 refine take_ (i := 0) (N := some 15) (v := ?_) (a' := ?_) #[true, false, false, false, false, false, false, false, false, false, false, false, false, false, false, false, false, false, false, false, false, false, false, false, false, false, false, false] rfl rfl (take_ofW HT_.out HW_.out kr) (fun _ _ _ h => h) (Or.inl ⟨by rfl, ?_⟩) bxs ?_ ?_
 rotate_left
 · intro w' hS
   go_simp
   with_reducible rfl
 rotate_left
 · exact nr1
 refine take_ (i := 1) (N := some 16) (v := ?_) (a' := ?_) #[true, true, false, false, false, false, false, false, false, false, false, false, false, false, false, false, false, false, false, false, false, false, false, false, false, false, false, false] rfl rfl (take_ofW HT_.out HW_.out kr) (fun _ _ _ h => h) (Or.inl ⟨by rfl, ?_⟩) bxs ?_ ?_
 rotate_left
 · intro w' hS
   go_simp
   with_reducible rfl
 rotate_left
 · exact nr1
 refine take_ (i := 4) (N := some 19) (v := ?_) (a' := ?_) #[true, true, false, false, true, false, false, false, false, false, false, false, false, false, false, false, false, false, false, false, false, false, false, false, false, false, false, false] rfl rfl (take_ofW HT_.out HW_.out kr) (fun _ _ _ h => h) (Or.inl ⟨by rfl, ?_⟩) bxs ?_ ?_
 rotate_left
 · intro w' hS
   go_simp
   with_reducible rfl
 rotate_left
 · exact nr1
 refine take_ (i := 7) (N := some 22) (v := ?_) (a' := ?_) #[true, true, false, false, true, false, false, true, false, false, false, false, false, false, false, false, false, false, false, false, false, false, false, false, false, false, false, false] rfl rfl (take_ofW HT_.out HW_.out kr) (fun _ _ _ h => h) (Or.inl ⟨by rfl, ?_⟩) bxs ?_ ?_
 rotate_left
 · intro w' hS
   go_simp
   with_reducible rfl
 rotate_left
 · exact nr1
 refine join_ (σ := Nat × Nat) 21 #[true, true, true, true, true, true, false, true, false, false, false, false, false, false, false, false, false, false, false, false, false, false, false, false, false, false, false, false] (fun s_ => [(17, .slice (some ⟨s_.1, 0, none⟩) 2 2), (20, .slice (some ⟨s_.2, 0, none⟩) 1 1), (18, .agg #[.int .i64 2, .int .i64 x2, .int .i64 x3, .string x4, .bool x5, .int .i64 x6])]) (fun s_ w' => Bx w w' ((s_.2, 25, #[.int .i64 a1, .int .i64 a2, .int .i64 a3, .string a4, .bool a5, .int .i64 a6]) :: (s_.1, 25, #[.int .i64 a1, .int .i64 a2, .int .i64 a3, .string a4, .bool a5, .int .i64 a6, .int .i64 b1, .int .i64 b2, .int .i64 b3, .string b4, .bool b5, .int .i64 b6]) :: [(g7, 25, #[.int .i64 2, .int .i64 x2, .int .i64 x3, .string x4, .bool x5, .int .i64 x6]), (g5, 25, #[.int .i64 c1, .int .i64 c2, .int .i64 c3, .string c4, .bool c5, .int .i64 c6]), (g4, 25, #[.int .i64 b1, .int .i64 b2, .int .i64 b3, .string b4, .bool b5, .int .i64 b6]), (g3, 25, #[.int .i64 a1, .int .i64 a2, .int .i64 a3, .string a4, .bool a5, .int .i64 a6])])) ?_ (fun hJ => ?_)
 rotate_left
 · skip
   refine two_ (i := 2) (j := 5) (Ni := some 17) (Nj := some 20) #[true, true, true, false, true, false, false, true, false, false, false, false, false, false, false, false, false, false, false, false, false, false, false, false, false, false, false, false] #[true, true, false, false, true, true, false, true, false, false, false, false, false, false, false, false, false, false, false, false, false, false, false, false, false, false, false, false] rfl rfl rfl rfl (two_of HT_.out kr) (by decide) (by decide) (fun K hK => ?_) (fun K hK => ?_)
   · skip
     refine slice1 17 2 #[.int .i64 a1, .int .i64 a2, .int .i64 a3, .string a4, .bool a5, .int .i64 a6, .int .i64 b1, .int .i64 b2, .int .i64 b3, .string b4, .bool b5, .int .i64 b6] 25 rfl rfl gr ?_
     clear BX
     intro g17 wv2 BX
     refine hK.out _ _ bxs (fun hHeld => ?_)
     clear hK K hHeld
     refine norm_ (a' := ?_) ?_ ?_
     rotate_left
     · show Act.put _ (some 17) _ = _
       exact nr1
     refine two_ (i := 3) (j := 5) (Ni := some 18) (Nj := some 20) #[true, true, true, true, true, false, false, true, false, false, false, false, false, false, false, false, false, false, false, false, false, false, false, false, false, false, false, false] #[true, true, true, false, true, true, false, true, false, false, false, false, false, false, false, false, false, false, false, false, false, false, false, false, false, false, false, false] rfl rfl rfl rfl (two_of HT_.out kr) (by decide) (by decide) (fun K hK => ?_) (fun K hK => ?_)
     · skip
       refine goes_ Tryd.func36 kr rfl #[.slice (some ⟨g17, 0, none⟩) 2 2] (by rfl) rfl rfl ga ?_
       with_reducible refine (Join_callsN k (some ⟨g17, 0, none⟩) 2 2 [(a1, a2, a3, a4, a5, a6), (b1, b2, b3, b4, b5, b6)] rfl _ ?sd22a ?sd22b (by decide) s1 s2 s3 s4 s5 s6 2 x2 x3 x4 x5 x6 HS.out HJ2.out).mono ?_
       (case sd22a => exact HT.out.on bx_bl)
       (case sd22b => exact row_of_box (l := [(a1, a2, a3, a4, a5, a6), (b1, b2, b3, b4, b5, b6)]) bx_get)
       rintro e wv3 ⟨rfl, hb⟩
       refine ⟨_, rfl, ?_⟩
       replace BX := bx_call hb
       clear hb
       refine hK.out _ _ bxs (fun hHeld => ?_)
       clear hK K hHeld
       refine norm_ (a' := ?_) ?_ ?_
       rotate_left
       · show Act.put _ (some 18) _ = _
         exact nr1
       refine one_ (i := 5) (N := some 20) #[true, true, true, true, true, true, false, true, false, false, false, false, false, false, false, false, false, false, false, false, false, false, false, false, false, false, false, false] rfl rfl (one_of HT_.out kr) (by decide) (fun K hK => ?_)
       refine slice1 20 1 #[.int .i64 a1, .int .i64 a2, .int .i64 a3, .string a4, .bool a5, .int .i64 a6] 25 rfl rfl gr ?_
       clear BX
       intro g20 wv5 BX
       refine hK.out _ _ bxs (fun hHeld => ?_)
       clear hK K hHeld
       refine norm_ (a' := ?_) ?_ ?_
       rotate_left
       · show Act.put _ (some 20) _ = _
         exact nr1
       exact norm_ nrm (hJ (g17, g20) _ bxs)
     · skip
       refine slice1 20 1 #[.int .i64 a1, .int .i64 a2, .int .i64 a3, .string a4, .bool a5, .int .i64 a6] 25 rfl rfl gr ?_
       clear BX
       intro g20 wv5 BX
       refine hK.out _ _ bxs (fun hHeld => ?_)
       clear hK K hHeld
       refine norm_ (a' := ?_) ?_ ?_
       rotate_left
       · show Act.put _ (some 20) _ = _
         exact nr1
       refine one_ (i := 3) (N := some 18) #[true, true, true, true, true, true, false, true, false, false, false, false, false, false, false, false, false, false, false, false, false, false, false, false, false, false, false, false] rfl rfl (one_of HT_.out kr) (by decide) (fun K hK => ?_)
       refine goes_ Tryd.func36 kr rfl #[.slice (some ⟨g17, 0, none⟩) 2 2] (by rfl) rfl rfl ga ?_
       with_reducible refine (Join_callsN k (some ⟨g17, 0, none⟩) 2 2 [(a1, a2, a3, a4, a5, a6), (b1, b2, b3, b4, b5, b6)] rfl _ ?sd23a ?sd23b (by decide) s1 s2 s3 s4 s5 s6 2 x2 x3 x4 x5 x6 HS.out HJ2.out).mono ?_
       (case sd23a => exact HT.out.on bx_bl)
       (case sd23b => exact row_of_box (l := [(a1, a2, a3, a4, a5, a6), (b1, b2, b3, b4, b5, b6)]) bx_get)
       rintro e wv3 ⟨rfl, hb⟩
       refine ⟨_, rfl, ?_⟩
       replace BX := bx_call hb
       clear hb
       refine hK.out _ _ bxs (fun hHeld => ?_)
       clear hK K hHeld
       refine norm_ (a' := ?_) ?_ ?_
       rotate_left
       · show Act.put _ (some 18) _ = _
         exact nr1
       exact norm_ nrm (hJ (g17, g20) _ bxs)
   · skip
     refine slice1 20 1 #[.int .i64 a1, .int .i64 a2, .int .i64 a3, .string a4, .bool a5, .int .i64 a6] 25 rfl rfl gr ?_
     clear BX
     intro g20 wv5 BX
     refine hK.out _ _ bxs (fun hHeld => ?_)
     clear hK K hHeld
     refine norm_ (a' := ?_) ?_ ?_
     rotate_left
     · show Act.put _ (some 20) _ = _
       exact nr1
     refine one_ (i := 2) (N := some 17) #[true, true, true, false, true, true, false, true, false, false, false, false, false, false, false, false, false, false, false, false, false, false, false, false, false, false, false, false] rfl rfl (one_of HT_.out kr) (by decide) (fun K hK => ?_)
     refine slice1 17 2 #[.int .i64 a1, .int .i64 a2, .int .i64 a3, .string a4, .bool a5, .int .i64 a6, .int .i64 b1, .int .i64 b2, .int .i64 b3, .string b4, .bool b5, .int .i64 b6] 25 rfl rfl gr ?_
     clear BX
     intro g17 wv2 BX
     refine hK.out _ _ bxs (fun hHeld => ?_)
     clear hK K hHeld
     refine norm_ (a' := ?_) ?_ ?_
     rotate_left
     · show Act.put _ (some 17) _ = _
       exact nr1
     refine one_ (i := 3) (N := some 18) #[true, true, true, true, true, true, false, true, false, false, false, false, false, false, false, false, false, false, false, false, false, false, false, false, false, false, false, false] rfl rfl (one_of HT_.out kr) (by decide) (fun K hK => ?_)
     refine goes_ Tryd.func36 kr rfl #[.slice (some ⟨g17, 0, none⟩) 2 2] (by rfl) rfl rfl ga ?_
     with_reducible refine (Join_callsN k (some ⟨g17, 0, none⟩) 2 2 [(a1, a2, a3, a4, a5, a6), (b1, b2, b3, b4, b5, b6)] rfl _ ?sd24a ?sd24b (by decide) s1 s2 s3 s4 s5 s6 2 x2 x3 x4 x5 x6 HS.out HJ2.out).mono ?_
     (case sd24a => exact HT.out.on bx_bl)
     (case sd24b => exact row_of_box (l := [(a1, a2, a3, a4, a5, a6), (b1, b2, b3, b4, b5, b6)]) bx_get)
     rintro e wv3 ⟨rfl, hb⟩
     refine ⟨_, rfl, ?_⟩
     replace BX := bx_call hb
     clear hb
     refine hK.out _ _ bxs (fun hHeld => ?_)
     clear hK K hHeld
     refine norm_ (a' := ?_) ?_ ?_
     rotate_left
     · show Act.put _ (some 18) _ = _
       exact nr1
     exact norm_ nrm (hJ (g17, g20) _ (bxw bxs))
 rintro ⟨g17, g20⟩ wj BX2
 clear BX
 have BX := BX2
 clear BX2
 refine norm_ (a' := ?_) ?_ ?_
 rotate_left
 · simp only [putAll, Act.put, List.setIfInBounds_toArray, List.set_cons_zero, List.set_cons_succ]
   rfl
 refine one_ (i := 6) (N := some 21) #[true, true, true, true, true, true, true, true, false, false, false, false, false, false, false, false, false, false, false, false, false, false, false, false, false, false, false, false] rfl rfl (one_of HT_.out kr) (by decide) (fun K hK => ?_)
 refine goes_ Tryd.func36 kr rfl #[.slice (some ⟨g20, 0, none⟩) 1 1] (by rfl) rfl rfl ga ?_
 with_reducible refine (Join_callsN k (some ⟨g20, 0, none⟩) 1 1 [(a1, a2, a3, a4, a5, a6)] rfl _ ?sd25a ?sd25b (by decide) s1 s2 s3 s4 s5 s6 i1 i2 i3 i4 i5 i6 HS.out HJ1.out).mono ?_
 (case sd25a => exact HT.out.on bx_bl)
 (case sd25b => exact row_of_box (l := [(a1, a2, a3, a4, a5, a6)]) bx_get)
 rintro e wv6 ⟨rfl, hb⟩
 refine ⟨_, rfl, ?_⟩
 replace BX := bx_call hb
 clear hb
 refine hK.out _ _ bxs (fun hHeld => ?_)
 clear hK K hHeld
 refine norm_ (a' := ?_) ?_ ?_
 rotate_left
 · show Act.put _ (some 21) _ = _
   exact nr1
 refine one_ (i := 8) (N := some 23) #[true, true, true, true, true, true, true, true, true, false, false, false, false, false, false, false, false, false, false, false, false, false, false, false, false, false, false, false] rfl rfl (one_of HT_.out kr) (by decide) (fun K hK => ?_)
 refine goes_ Tryd.func31 kr rfl #[.int .i64 16, .agg #[.int .i64 i1, .int .i64 i2, .int .i64 i3, .string i4, .bool i5, .int .i64 i6], .agg #[.int .i64 b1, .int .i64 b2, .int .i64 b3, .string b4, .bool b5, .int .i64 b6]] (by rfl) rfl rfl ga ?_
 with_reducible refine (value_Bin.calls k 16 i1 i2 i3 i4 i5 i6 b1 b2 b3 b4 b5 b6 2 x2 x3 x4 x5 x6 _ ?sd26a HB.out).mono ?_
 (case sd26a => exact HT.out.on bx_bl)
 rintro e wv8 ⟨rfl, hb⟩
 refine ⟨_, rfl, ?_⟩
 replace BX := bx_call hb
 clear hb
 refine hK.out _ _ bxs (fun hHeld => ?_)
 clear hK K hHeld
 refine norm_ (a' := ?_) ?_ ?_
 rotate_left
 · show Act.put _ (some 23) _ = _
   exact nr1
 refine pure_ (i := 9) (N := some 24) (v := ?_) (a' := ?_) #[true, true, true, true, true, true, true, true, true, true, false, false, false, false, false, false, false, false, false, false, false, false, false, false, false, false, false, false] rfl rfl (any_of HT_.out kr) (fun _ _ _ h => h) (Or.inl ⟨by rfl, ?_⟩) ?_ ?_
 rotate_left
 · intro w'
   go_simp
   with_reducible rfl
 rotate_left
 · exact nr1
 refine pure_ (i := 10) (N := some 25) (v := ?_) (a' := ?_) #[true, true, true, true, true, true, true, true, true, true, true, false, false, false, false, false, false, false, false, false, false, false, false, false, false, false, false, false] rfl rfl (any_of HT_.out kr) (fun _ _ _ h => h) (Or.inl ⟨by rfl, ?_⟩) ?_ ?_
 rotate_left
 · intro w'
   go_simp
   with_reducible rfl
 rotate_left
 · exact nr1
 refine pure_ (i := 11) (N := some 26) (v := ?_) (a' := ?_) #[true, true, true, true, true, true, true, true, true, true, true, true, false, false, false, false, false, false, false, false, false, false, false, false, false, false, false, false] rfl rfl (any_of HT_.out kr) (fun _ _ _ h => h) (Or.inl ⟨by rfl, ?_⟩) ?_ ?_
 rotate_left
 · intro w'
   go_simp
   with_reducible rfl
 rotate_left
 · exact nr1
 refine take_ (i := 12) (N := some 27) (v := ?_) (a' := ?_) #[true, true, true, true, true, true, true, true, true, true, true, true, true, false, false, false, false, false, false, false, false, false, false, false, false, false, false, false] rfl rfl (take_ofW HT_.out HW_.out kr) (fun _ _ _ h => h) (Or.inl ⟨by rfl, ?_⟩) bxs ?_ ?_
 rotate_left
 · intro w' hS
   go_simp
   with_reducible rfl
 rotate_left
 · exact nr1
 refine pure_ (i := 13) (N := some 28) (v := ?_) (a' := ?_) #[true, true, true, true, true, true, true, true, true, true, true, true, true, true, false, false, false, false, false, false, false, false, false, false, false, false, false, false] rfl rfl (any_of HT_.out kr) (fun _ _ _ h => h) (Or.inl ⟨by rfl, ?_⟩) ?_ ?_
 rotate_left
 · intro w'
   go_simp
   with_reducible rfl
 rotate_left
 · exact nr1
 refine pure_ (i := 14) (N := some 29) (v := ?_) (a' := ?_) #[true, true, true, true, true, true, true, true, true, true, true, true, true, true, true, false, false, false, false, false, false, false, false, false, false, false, false, false] rfl rfl (any_of HT_.out kr) (fun _ _ _ h => h) (Or.inl ⟨by rfl, ?_⟩) ?_ ?_
 rotate_left
 · intro w'
   go_simp
   with_reducible rfl
 rotate_left
 · exact nr1
 refine take_ (i := 15) (N := some 30) (v := ?_) (a' := ?_) #[true, true, true, true, true, true, true, true, true, true, true, true, true, true, true, true, false, false, false, false, false, false, false, false, false, false, false, false] rfl rfl (take_ofW HT_.out HW_.out kr) (fun _ _ _ h => h) (Or.inl ⟨by rfl, ?_⟩) bxs ?_ ?_
 rotate_left
 · intro w' hS
   go_simp
   with_reducible rfl
 rotate_left
 · exact nr1
 refine take_ (i := 16) (N := some 31) (v := ?_) (a' := ?_) #[true, true, true, true, true, true, true, true, true, true, true, true, true, true, true, true, true, false, false, false, false, false, false, false, false, false, false, false] rfl rfl (take_ofW HT_.out HW_.out kr) (fun _ _ _ h => h) (Or.inl ⟨by rfl, ?_⟩) bxs ?_ ?_
 rotate_left
 · intro w' hS
   go_simp
   with_reducible rfl
 rotate_left
 · exact nr1
 refine take_ (i := 19) (N := some 34) (v := ?_) (a' := ?_) #[true, true, true, true, true, true, true, true, true, true, true, true, true, true, true, true, true, false, false, true, false, false, false, false, false, false, false, false] rfl rfl (take_ofW HT_.out HW_.out kr) (fun _ _ _ h => h) (Or.inl ⟨by rfl, ?_⟩) bxs ?_ ?_
 rotate_left
 · intro w' hS
   go_simp
   with_reducible rfl
 rotate_left
 · exact nr1
 refine one_ (i := 17) (N := some 32) #[true, true, true, true, true, true, true, true, true, true, true, true, true, true, true, true, true, true, false, true, false, false, false, false, false, false, false, false] rfl rfl (one_of HT_.out kr) (by decide) (fun K hK => ?_)
 refine slice1 32 2 #[.int .i64 a1, .int .i64 a2, .int .i64 a3, .string a4, .bool a5, .int .i64 a6, .int .i64 b1, .int .i64 b2, .int .i64 b3, .string b4, .bool b5, .int .i64 b6] 25 rfl rfl gr ?_
 clear BX
 intro g32 wv17 BX
 refine hK.out _ _ bxs (fun hHeld => ?_)
 clear hK K hHeld
 refine norm_ (a' := ?_) ?_ ?_
 rotate_left
 · show Act.put _ (some 32) _ = _
   exact nr1
 refine one_ (i := 18) (N := some 33) #[true, true, true, true, true, true, true, true, true, true, true, true, true, true, true, true, true, true, true, true, false, false, false, false, false, false, false, false] rfl rfl (one_of HT_.out kr) (by decide) (fun K hK => ?_)
 refine goes_ Tryd.func36 kr rfl #[.slice (some ⟨g32, 0, none⟩) 2 2] (by rfl) rfl rfl ga ?_
 with_reducible refine (Join_callsN k (some ⟨g32, 0, none⟩) 2 2 [(a1, a2, a3, a4, a5, a6), (b1, b2, b3, b4, b5, b6)] rfl _ ?sd27a ?sd27b (by decide) s1 s2 s3 s4 s5 s6 2 x2 x3 x4 x5 x6 HS.out HJ2.out).mono ?_
 (case sd27a => exact HT.out.on bx_bl)
 (case sd27b => exact row_of_box (l := [(a1, a2, a3, a4, a5, a6), (b1, b2, b3, b4, b5, b6)]) bx_get)
 rintro e wv18 ⟨rfl, hb⟩
 refine ⟨_, rfl, ?_⟩
 replace BX := bx_call hb
 clear hb
 refine hK.out _ _ bxs (fun hHeld => ?_)
 clear hK K hHeld
 refine norm_ (a' := ?_) ?_ ?_
 rotate_left
 · show Act.put _ (some 33) _ = _
   exact nr1
 refine pure_ (i := 20) (N := some 35) (v := ?_) (a' := ?_) #[true, true, true, true, true, true, true, true, true, true, true, true, true, true, true, true, true, true, true, true, true, false, false, false, false, false, false, false] rfl rfl (any_of HT_.out kr) (fun _ _ _ h => h) (Or.inl ⟨by rfl, ?_⟩) ?_ ?_
 rotate_left
 · intro w'
   go_simp
   with_reducible rfl
 rotate_left
 · exact nr1
 refine pure_ (i := 21) (N := some 36) (v := ?_) (a' := ?_) #[true, true, true, true, true, true, true, true, true, true, true, true, true, true, true, true, true, true, true, true, true, true, false, false, false, false, false, false] rfl rfl (any_of HT_.out kr) (fun _ _ _ h => h) (Or.inl ⟨by rfl, ?_⟩) ?_ ?_
 rotate_left
 · intro w'
   go_simp
   with_reducible rfl
 rotate_left
 · exact nr1
 refine pure_ (i := 22) (N := some 37) (v := ?_) (a' := ?_) #[true, true, true, true, true, true, true, true, true, true, true, true, true, true, true, true, true, true, true, true, true, true, true, false, false, false, false, false] rfl rfl (any_of HT_.out kr) (fun _ _ _ h => h) (Or.inl ⟨by rfl, ?_⟩) ?_ ?_
 rotate_left
 · intro w'
   go_simp
   with_reducible rfl
 rotate_left
 · exact nr1
 refine take_ (i := 23) (N := some 38) (v := ?_) (a' := ?_) #[true, true, true, true, true, true, true, true, true, true, true, true, true, true, true, true, true, true, true, true, true, true, true, true, false, false, false, false] rfl rfl (take_ofW HT_.out HW_.out kr) (fun _ _ _ h => h) (Or.inl ⟨by rfl, ?_⟩) bxs ?_ ?_
 rotate_left
 · intro w' hS
   go_simp
   with_reducible rfl
 rotate_left
 · exact nr1
 refine pure_ (i := 24) (N := some 39) (v := ?_) (a' := ?_) #[true, true, true, true, true, true, true, true, true, true, true, true, true, true, true, true, true, true, true, true, true, true, true, true, true, false, false, false] rfl rfl (any_of HT_.out kr) (fun _ _ _ h => h) (Or.inl ⟨by rfl, ?_⟩) ?_ ?_
 rotate_left
 · intro w'
   go_simp
   with_reducible rfl
 rotate_left
 · exact nr1
 refine pure_ (i := 25) (N := some 40) (v := ?_) (a' := ?_) #[true, true, true, true, true, true, true, true, true, true, true, true, true, true, true, true, true, true, true, true, true, true, true, true, true, true, false, false] rfl rfl (any_of HT_.out kr) (fun _ _ _ h => h) (Or.inl ⟨by rfl, ?_⟩) ?_ ?_
 rotate_left
 · intro w'
   go_simp
   with_reducible rfl
 rotate_left
 · exact nr1
 refine pure_ (i := 26) (N := some 41) (v := ?_) (a' := ?_) #[true, true, true, true, true, true, true, true, true, true, true, true, true, true, true, true, true, true, true, true, true, true, true, true, true, true, true, false] rfl rfl (any_of HT_.out kr) (fun _ _ _ h => h) (Or.inl ⟨by rfl, ?_⟩) ?_ ?_
 rotate_left
 · intro w'
   go_simp
   with_reducible rfl
 rotate_left
 · exact nr1
 refine pure_ (i := 27) (N := some 42) (v := ?_) (a' := ?_) #[true, true, true, true, true, true, true, true, true, true, true, true, true, true, true, true, true, true, true, true, true, true, true, true, true, true, true, true] rfl rfl (any_of HT_.out kr) (fun _ _ _ h => h) (Or.inl ⟨by rfl, ?_⟩) ?_ ?_
 rotate_left
 · intro w'
   go_simp
   with_reducible rfl
 rotate_left
 · exact nr1
 refine done_ (done_of HT_.out kr) ?_
 try go_wp2_with (first
  | ((with_reducible refine gate_callee (f := 31) rfl ?_); refine goesL_ (some 45) rfl rfl Tryd.func31 kr rfl #[.int .i64 16, .agg #[.int .i64 2, .int .i64 x2, .int .i64 x3, .string x4, .bool x5, .int .i64 x6], .agg #[.int .i64 c1, .int .i64 c2, .int .i64 c3, .string c4, .bool c5, .int .i64 c6]] rfl ga ?_; (with_reducible refine (value_Bin.calls k 16 2 x2 x3 x4 x5 x6 c1 c2 c3 c4 c5 c6 l1 l2 l3 l4 l5 l6 _ ?side1 HL.out).mono ?_); (case side1 => exact HT.out.on bx_bl); rintro e wc45 ⟨rfl, hb⟩; refine ⟨_, rfl, ?_⟩; replace BX := bx_call hb; clear hb)
  | ((with_reducible refine gate_dst (N := 8) rfl ?_); refine bxe 8 #[.int .i64 0, .int .i64 0, .int .i64 0, .string (⟨#[]⟩ : ByteArray), .bool false, .int .i64 0] 25 rfl rfl gr ?_; clear BX; intro g8 w_g8 GEg8 BX))
 refine startb (n := 7) (ds := [6]) #[false, false, false, false, false, false, false] kr rfl rfl (fun BX1 => ?_)
 clear BX
 have BX := BX1
 clear BX1
 skip
 refine take_ (i := 0) (N := some 46) (v := ?_) (a' := ?_) #[true, false, false, false, false, false, false] rfl rfl kr (fun _ _ _ h => h) (Or.inl ⟨by rfl, ?_⟩) bxs ?_ ?_
 rotate_left
 · intro w' hS
   go_simp
   with_reducible rfl
 rotate_left
 · exact nr1
 refine take_ (i := 1) (N := some 47) (v := ?_) (a' := ?_) #[true, true, false, false, false, false, false] rfl rfl kr (fun _ _ _ h => h) (Or.inl ⟨by rfl, ?_⟩) bxs ?_ ?_
 rotate_left
 · intro w' hS
   go_simp
   with_reducible rfl
 rotate_left
 · exact nr1
 refine take_ (i := 2) (N := some 48) (v := ?_) (a' := ?_) #[true, true, true, false, false, false, false] rfl rfl kr (fun _ _ _ h => h) (Or.inl ⟨by rfl, ?_⟩) bxs ?_ ?_
 rotate_left
 · intro w' hS
   go_simp
   with_reducible rfl
 rotate_left
 · exact nr1
 refine join_ (σ := Nat) 1 #[true, true, true, true, true, true, false] (fun s_ => [(49, .agg #[.int .i64 q1, .int .i64 q2, .int .i64 q3, .string q4, .bool q5, .int .i64 q6]), (50, .agg #[.int .i64 4, .int .i64 r2, .int .i64 r3, .string r4, .bool r5, .int .i64 r6]), (9, .pointer (some ⟨s_, 0, none⟩))]) (fun s_ w' => Bx w w' ((s_, 25, #[.int .i64 0, .int .i64 0, .int .i64 0, .string (⟨#[]⟩ : ByteArray), .bool false, .int .i64 0]) :: [(g8, 25, #[.int .i64 l1, .int .i64 l2, .int .i64 l3, .string l4, .bool l5, .int .i64 l6]), (g7, 25, #[.int .i64 2, .int .i64 x2, .int .i64 x3, .string x4, .bool x5, .int .i64 x6]), (g5, 25, #[.int .i64 c1, .int .i64 c2, .int .i64 c3, .string c4, .bool c5, .int .i64 c6]), (g4, 25, #[.int .i64 b1, .int .i64 b2, .int .i64 b3, .string b4, .bool b5, .int .i64 b6]), (g3, 25, #[.int .i64 a1, .int .i64 a2, .int .i64 a3, .string a4, .bool a5, .int .i64 a6])])) ?_ (fun hJ => ?_)
 rotate_left
 · skip
   refine two_ (i := 3) (j := 5) (Ni := some 49) (Nj := some 9) #[true, true, true, true, false, false, false] #[true, true, true, false, false, true, false] rfl rfl rfl rfl kr (by decide) (by decide) (fun K hK => ?_) (fun K hK => ?_)
   · skip
     refine goes_ Tryd.func31 kr rfl #[.int .i64 16, .agg #[.int .i64 b1, .int .i64 b2, .int .i64 b3, .string b4, .bool b5, .int .i64 b6], .agg #[.int .i64 c1, .int .i64 c2, .int .i64 c3, .string c4, .bool c5, .int .i64 c6]] (by rfl) rfl rfl ga ?_
     with_reducible refine (value_Bin.calls k 16 b1 b2 b3 b4 b5 b6 c1 c2 c3 c4 c5 c6 q1 q2 q3 q4 q5 q6 _ ?sd28a HQ.out).mono ?_
     (case sd28a => exact HT.out.on bx_bl)
     rintro e wv3 ⟨rfl, hb⟩
     refine ⟨_, rfl, ?_⟩
     replace BX := bx_call hb
     clear hb
     refine hK.out _ _ bxs (fun hHeld => ?_)
     clear hK K hHeld
     refine norm_ (a' := ?_) ?_ ?_
     rotate_left
     · show Act.put _ (some 49) _ = _
       exact nr1
     refine two_ (i := 4) (j := 5) (Ni := some 50) (Nj := some 9) #[true, true, true, true, true, false, false] #[true, true, true, true, false, true, false] rfl rfl rfl rfl kr (by decide) (by decide) (fun K hK => ?_) (fun K hK => ?_)
     · skip
       refine goes_ Tryd.func31 kr rfl #[.int .i64 16, .agg #[.int .i64 a1, .int .i64 a2, .int .i64 a3, .string a4, .bool a5, .int .i64 a6], .agg #[.int .i64 q1, .int .i64 q2, .int .i64 q3, .string q4, .bool q5, .int .i64 q6]] (by rfl) rfl rfl ga ?_
       with_reducible refine (value_Bin.calls k 16 a1 a2 a3 a4 a5 a6 q1 q2 q3 q4 q5 q6 4 r2 r3 r4 r5 r6 _ ?sd29a HRR.out).mono ?_
       (case sd29a => exact HT.out.on bx_bl)
       rintro e wv4 ⟨rfl, hb⟩
       refine ⟨_, rfl, ?_⟩
       replace BX := bx_call hb
       clear hb
       refine hK.out _ _ bxs (fun hHeld => ?_)
       clear hK K hHeld
       refine norm_ (a' := ?_) ?_ ?_
       rotate_left
       · show Act.put _ (some 50) _ = _
         exact nr1
       refine one_ (i := 5) (N := some 9) #[true, true, true, true, true, true, false] rfl rfl kr (by decide) (fun K hK => ?_)
       refine bxe1 9 #[.int .i64 0, .int .i64 0, .int .i64 0, .string (⟨#[]⟩ : ByteArray), .bool false, .int .i64 0] 25 rfl rfl gr ?_
       clear BX
       intro g9 wv5 GE_g9 BX
       refine hK.out _ _ bxs (fun hHeld => ?_)
       clear hK K hHeld
       refine norm_ (a' := ?_) ?_ ?_
       rotate_left
       · show Act.put _ (some 9) _ = _
         exact nr1
       exact norm_ nrm (hJ g9 _ bxs)
     · skip
       refine bxe1 9 #[.int .i64 0, .int .i64 0, .int .i64 0, .string (⟨#[]⟩ : ByteArray), .bool false, .int .i64 0] 25 rfl rfl gr ?_
       clear BX
       intro g9 wv5 GE_g9 BX
       refine hK.out _ _ bxs (fun hHeld => ?_)
       clear hK K hHeld
       refine norm_ (a' := ?_) ?_ ?_
       rotate_left
       · show Act.put _ (some 9) _ = _
         exact nr1
       refine one_ (i := 4) (N := some 50) #[true, true, true, true, true, true, false] rfl rfl kr (by decide) (fun K hK => ?_)
       refine goes_ Tryd.func31 kr rfl #[.int .i64 16, .agg #[.int .i64 a1, .int .i64 a2, .int .i64 a3, .string a4, .bool a5, .int .i64 a6], .agg #[.int .i64 q1, .int .i64 q2, .int .i64 q3, .string q4, .bool q5, .int .i64 q6]] (by rfl) rfl rfl ga ?_
       with_reducible refine (value_Bin.calls k 16 a1 a2 a3 a4 a5 a6 q1 q2 q3 q4 q5 q6 4 r2 r3 r4 r5 r6 _ ?sd30a HRR.out).mono ?_
       (case sd30a => exact HT.out.on bx_bl)
       rintro e wv4 ⟨rfl, hb⟩
       refine ⟨_, rfl, ?_⟩
       replace BX := bx_call hb
       clear hb
       refine hK.out _ _ bxs (fun hHeld => ?_)
       clear hK K hHeld
       refine norm_ (a' := ?_) ?_ ?_
       rotate_left
       · show Act.put _ (some 50) _ = _
         exact nr1
       exact norm_ nrm (hJ g9 _ bxs)
   · skip
     refine bxe1 9 #[.int .i64 0, .int .i64 0, .int .i64 0, .string (⟨#[]⟩ : ByteArray), .bool false, .int .i64 0] 25 rfl rfl gr ?_
     clear BX
     intro g9 wv5 GE_g9 BX
     refine hK.out _ _ bxs (fun hHeld => ?_)
     clear hK K hHeld
     refine norm_ (a' := ?_) ?_ ?_
     rotate_left
     · show Act.put _ (some 9) _ = _
       exact nr1
     refine one_ (i := 3) (N := some 49) #[true, true, true, true, false, true, false] rfl rfl kr (by decide) (fun K hK => ?_)
     refine goes_ Tryd.func31 kr rfl #[.int .i64 16, .agg #[.int .i64 b1, .int .i64 b2, .int .i64 b3, .string b4, .bool b5, .int .i64 b6], .agg #[.int .i64 c1, .int .i64 c2, .int .i64 c3, .string c4, .bool c5, .int .i64 c6]] (by rfl) rfl rfl ga ?_
     with_reducible refine (value_Bin.calls k 16 b1 b2 b3 b4 b5 b6 c1 c2 c3 c4 c5 c6 q1 q2 q3 q4 q5 q6 _ ?sd31a HQ.out).mono ?_
     (case sd31a => exact HT.out.on bx_bl)
     rintro e wv3 ⟨rfl, hb⟩
     refine ⟨_, rfl, ?_⟩
     replace BX := bx_call hb
     clear hb
     refine hK.out _ _ bxs (fun hHeld => ?_)
     clear hK K hHeld
     refine norm_ (a' := ?_) ?_ ?_
     rotate_left
     · show Act.put _ (some 49) _ = _
       exact nr1
     refine one_ (i := 4) (N := some 50) #[true, true, true, true, true, true, false] rfl rfl kr (by decide) (fun K hK => ?_)
     refine goes_ Tryd.func31 kr rfl #[.int .i64 16, .agg #[.int .i64 a1, .int .i64 a2, .int .i64 a3, .string a4, .bool a5, .int .i64 a6], .agg #[.int .i64 q1, .int .i64 q2, .int .i64 q3, .string q4, .bool q5, .int .i64 q6]] (by rfl) rfl rfl ga ?_
     with_reducible refine (value_Bin.calls k 16 a1 a2 a3 a4 a5 a6 q1 q2 q3 q4 q5 q6 4 r2 r3 r4 r5 r6 _ ?sd32a HRR.out).mono ?_
     (case sd32a => exact HT.out.on bx_bl)
     rintro e wv4 ⟨rfl, hb⟩
     refine ⟨_, rfl, ?_⟩
     replace BX := bx_call hb
     clear hb
     refine hK.out _ _ bxs (fun hHeld => ?_)
     clear hK K hHeld
     refine norm_ (a' := ?_) ?_ ?_
     rotate_left
     · show Act.put _ (some 50) _ = _
       exact nr1
     exact norm_ nrm (hJ g9 _ bxs)
 rintro g9 wj BX2
 clear BX
 have BX := BX2
 clear BX2
 refine norm_ (a' := ?_) ?_ ?_
 rotate_left
 · simp only [putAll, Act.put, List.setIfInBounds_toArray, List.set_cons_zero, List.set_cons_succ]
   rfl
 refine last_ (i := 6) (N := none) #[true, true, true, true, true, true, true] rfl rfl kr (by decide) (fun K hK => ?_)
 refine skip_ (w1 := ?_) (by rfl) rfl ?_ ?_
 rotate_left
 · go_simp
   rfl
 refine hK.out _ _ ?_
 clear hK K
 refine done_ kr ?_
 try go_wp2
 refine startb (n := 23) (ds := []) #[false, false, false, false, false, false, false, false, false, false, false, false, false, false, false, false, false, false, false, false, false, false, false] kr rfl rfl (fun BX1 => ?_)
 refine with_tabW VT8_tab VT8_bits (fun HT_ HW_ => ?_)
 clear BX
 have BX := BX1
 clear BX1
 skip
 refine pure_ (i := 0) (N := some 51) (v := ?_) (a' := ?_) #[true, false, false, false, false, false, false, false, false, false, false, false, false, false, false, false, false, false, false, false, false, false, false] rfl rfl (any_of HT_.out kr) (fun _ _ _ h => h) (Or.inl ⟨by rfl, ?_⟩) ?_ ?_
 rotate_left
 · intro w'
   go_simp
   with_reducible rfl
 rotate_left
 · exact nr1
 refine take_ (i := 1) (N := some 52) (v := ?_) (a' := ?_) #[true, true, false, false, false, false, false, false, false, false, false, false, false, false, false, false, false, false, false, false, false, false, false] rfl rfl (take_ofW HT_.out HW_.out kr) (fun _ _ _ h => h) (Or.inl ⟨by rfl, ?_⟩) bxs ?_ ?_
 rotate_left
 · intro w' hS
   go_simp
   with_reducible rfl
 rotate_left
 · exact nr1
 refine pure_ (i := 2) (N := some 53) (v := ?_) (a' := ?_) #[true, true, true, false, false, false, false, false, false, false, false, false, false, false, false, false, false, false, false, false, false, false, false] rfl rfl (any_of HT_.out kr) (fun _ _ _ h => h) (Or.inl ⟨by rfl, ?_⟩) ?_ ?_
 rotate_left
 · intro w'
   go_simp
   with_reducible rfl
 rotate_left
 · exact nr1
 refine pure_ (i := 3) (N := some 54) (v := ?_) (a' := ?_) #[true, true, true, true, false, false, false, false, false, false, false, false, false, false, false, false, false, false, false, false, false, false, false] rfl rfl (any_of HT_.out kr) (fun _ _ _ h => h) (Or.inl ⟨by rfl, ?_⟩) ?_ ?_
 rotate_left
 · intro w'
   go_simp
   with_reducible rfl
 rotate_left
 · exact nr1
 refine pure_ (i := 4) (N := some 55) (v := ?_) (a' := ?_) #[true, true, true, true, true, false, false, false, false, false, false, false, false, false, false, false, false, false, false, false, false, false, false] rfl rfl (any_of HT_.out kr) (fun _ _ _ h => h) (Or.inl ⟨by rfl, ?_⟩) ?_ ?_
 rotate_left
 · intro w'
   go_simp
   with_reducible rfl
 rotate_left
 · exact nr1
 refine take_ (i := 5) (N := some 56) (v := ?_) (a' := ?_) #[true, true, true, true, true, true, false, false, false, false, false, false, false, false, false, false, false, false, false, false, false, false, false] rfl rfl (take_ofW HT_.out HW_.out kr) (fun _ _ _ h => h) (Or.inl ⟨by rfl, ?_⟩) bxs ?_ ?_
 rotate_left
 · intro w' hS
   go_simp
   with_reducible rfl
 rotate_left
 · exact nr1
 refine pure_ (i := 6) (N := some 57) (v := ?_) (a' := ?_) #[true, true, true, true, true, true, true, false, false, false, false, false, false, false, false, false, false, false, false, false, false, false, false] rfl rfl (any_of HT_.out kr) (fun _ _ _ h => h) (Or.inl ⟨by rfl, ?_⟩) ?_ ?_
 rotate_left
 · intro w'
   go_simp
   with_reducible rfl
 rotate_left
 · exact nr1
 refine pure_ (i := 7) (N := some 58) (v := ?_) (a' := ?_) #[true, true, true, true, true, true, true, true, false, false, false, false, false, false, false, false, false, false, false, false, false, false, false] rfl rfl (any_of HT_.out kr) (fun _ _ _ h => h) (Or.inl ⟨by rfl, ?_⟩) ?_ ?_
 rotate_left
 · intro w'
   go_simp
   with_reducible rfl
 rotate_left
 · exact nr1
 refine pure_ (i := 8) (N := some 59) (v := ?_) (a' := ?_) #[true, true, true, true, true, true, true, true, true, false, false, false, false, false, false, false, false, false, false, false, false, false, false] rfl rfl (any_of HT_.out kr) (fun _ _ _ h => h) (Or.inl ⟨by rfl, ?_⟩) ?_ ?_
 rotate_left
 · intro w'
   go_simp
   with_reducible rfl
 rotate_left
 · exact nr1
 refine pure_ (i := 9) (N := some 60) (v := undef) (a' := ?_) #[true, true, true, true, true, true, true, true, true, true, false, false, false, false, false, false, false, false, false, false, false, false, false] rfl rfl (any_of HT_.out kr) (fun _ _ _ h => h) (Or.inr ⟨by rfl, rfl⟩) ?_ ?_
 rotate_left
 · exact nr1
 refine pure_ (i := 10) (N := some 61) (v := undef) (a' := ?_) #[true, true, true, true, true, true, true, true, true, true, true, false, false, false, false, false, false, false, false, false, false, false, false] rfl rfl (any_of HT_.out kr) (fun _ _ _ h => h) (Or.inr ⟨by rfl, rfl⟩) ?_ ?_
 rotate_left
 · exact nr1
 refine pure_ (i := 11) (N := some 62) (v := undef) (a' := ?_) #[true, true, true, true, true, true, true, true, true, true, true, true, false, false, false, false, false, false, false, false, false, false, false] rfl rfl (any_of HT_.out kr) (fun _ _ _ h => h) (Or.inr ⟨by rfl, rfl⟩) ?_ ?_
 rotate_left
 · exact nr1
 refine pure_ (i := 12) (N := some 63) (v := undef) (a' := ?_) #[true, true, true, true, true, true, true, true, true, true, true, true, true, false, false, false, false, false, false, false, false, false, false] rfl rfl (any_of HT_.out kr) (fun _ _ _ h => h) (Or.inr ⟨by rfl, rfl⟩) ?_ ?_
 rotate_left
 · exact nr1
 refine pure_ (i := 13) (N := some 64) (v := undef) (a' := ?_) #[true, true, true, true, true, true, true, true, true, true, true, true, true, true, false, false, false, false, false, false, false, false, false] rfl rfl (any_of HT_.out kr) (fun _ _ _ h => h) (Or.inr ⟨by rfl, rfl⟩) ?_ ?_
 rotate_left
 · exact nr1
 refine pure_ (i := 14) (N := some 65) (v := undef) (a' := ?_) #[true, true, true, true, true, true, true, true, true, true, true, true, true, true, true, false, false, false, false, false, false, false, false] rfl rfl (any_of HT_.out kr) (fun _ _ _ h => h) (Or.inr ⟨by rfl, rfl⟩) ?_ ?_
 rotate_left
 · exact nr1
 refine pure_ (i := 15) (N := some 66) (v := undef) (a' := ?_) #[true, true, true, true, true, true, true, true, true, true, true, true, true, true, true, true, false, false, false, false, false, false, false] rfl rfl (any_of HT_.out kr) (fun _ _ _ h => h) (Or.inr ⟨by rfl, rfl⟩) ?_ ?_
 rotate_left
 · exact nr1
 refine pure_ (i := 16) (N := some 67) (v := undef) (a' := ?_) #[true, true, true, true, true, true, true, true, true, true, true, true, true, true, true, true, true, false, false, false, false, false, false] rfl rfl (any_of HT_.out kr) (fun _ _ _ h => h) (Or.inr ⟨by rfl, rfl⟩) ?_ ?_
 rotate_left
 · exact nr1
 refine pure_ (i := 17) (N := some 68) (v := undef) (a' := ?_) #[true, true, true, true, true, true, true, true, true, true, true, true, true, true, true, true, true, true, false, false, false, false, false] rfl rfl (any_of HT_.out kr) (fun _ _ _ h => h) (Or.inr ⟨by rfl, rfl⟩) ?_ ?_
 rotate_left
 · exact nr1
 refine pure_ (i := 18) (N := some 69) (v := undef) (a' := ?_) #[true, true, true, true, true, true, true, true, true, true, true, true, true, true, true, true, true, true, true, false, false, false, false] rfl rfl (any_of HT_.out kr) (fun _ _ _ h => h) (Or.inr ⟨by rfl, rfl⟩) ?_ ?_
 rotate_left
 · exact nr1
 refine pure_ (i := 19) (N := some 70) (v := undef) (a' := ?_) #[true, true, true, true, true, true, true, true, true, true, true, true, true, true, true, true, true, true, true, true, false, false, false] rfl rfl (any_of HT_.out kr) (fun _ _ _ h => h) (Or.inr ⟨by rfl, rfl⟩) ?_ ?_
 rotate_left
 · exact nr1
 refine pure_ (i := 20) (N := some 71) (v := undef) (a' := ?_) #[true, true, true, true, true, true, true, true, true, true, true, true, true, true, true, true, true, true, true, true, true, false, false] rfl rfl (any_of HT_.out kr) (fun _ _ _ h => h) (Or.inr ⟨by rfl, rfl⟩) ?_ ?_
 rotate_left
 · exact nr1
 refine pure_ (i := 21) (N := some 72) (v := ?_) (a' := ?_) #[true, true, true, true, true, true, true, true, true, true, true, true, true, true, true, true, true, true, true, true, true, true, false] rfl rfl (any_of HT_.out kr) (fun _ _ _ h => h) (Or.inl ⟨by rfl, ?_⟩) ?_ ?_
 rotate_left
 · intro w'
   go_simp
   with_reducible rfl
 rotate_left
 · exact nr1
 refine pure_ (i := 22) (N := some 6) (v := ?_) (a' := ?_) #[true, true, true, true, true, true, true, true, true, true, true, true, true, true, true, true, true, true, true, true, true, true, true] rfl rfl (any_of HT_.out kr) (fun _ _ _ h => h) (Or.inl ⟨by rfl, ?_⟩) ?_ ?_
 rotate_left
 · intro w'
   go_simp
   with_reducible rfl
 rotate_left
 · exact nr1
 refine done_ (done_of HT_.out kr) ?_
 try go_wp2
 go_ret
 exact ⟨rfl, bx_bl⟩
set_option maxHeartbeats 8000000 in
set_option maxRecDepth 100000 in
theorem ValueTexts_eq (k : Nat) (a1 a2 a3 : Int) (a4 : ByteArray) (a5 : Bool) (a6 : Int) (b1 b2 b3 : Int) (b4 : ByteArray) (b5 : Bool) (b6 : Int) (c1 c2 c3 : Int) (c4 : ByteArray) (c5 : Bool) (c6 : Int) (s1 s2 s3 : Int) (s4 : ByteArray) (s5 : Bool) (s6 : Int) (w : World) (HT0 : TabAt w) (x2 x3 : Int) (x4 : ByteArray) (x5 : Bool) (x6 : Int)  (i1 i2 i3 : Int) (i4 : ByteArray) (i5 : Bool) (i6 : Int) (q1 q2 q3 : Int) (q4 : ByteArray) (q5 : Bool) (q6 : Int) (l1 l2 l3 : Int) (l4 : ByteArray) (l5 : Bool) (l6 : Int) 
   (hA : whittlelaw2_able.f k = some true) (hs : value_Text.f k (⟨#[]⟩ : ByteArray) = some (s1, s2, s3, s4, s5, s6)) (hx : value_Bin.f k 16 a1 a2 a3 a4 a5 a6 b1 b2 b3 b4 b5 b6 = some (2, x2, x3, x4, x5, x6)) (hj2 : joinL k (s1, s2, s3, s4, s5, s6) [(a1, a2, a3, a4, a5, a6), (b1, b2, b3, b4, b5, b6)] = some (2, x2, x3, x4, x5, x6)) (hj1 : joinL k (s1, s2, s3, s4, s5, s6) [(a1, a2, a3, a4, a5, a6)] = some (i1, i2, i3, i4, i5, i6)) (hb_ : value_Bin.f k 16 i1 i2 i3 i4 i5 i6 b1 b2 b3 b4 b5 b6 = some (2, x2, x3, x4, x5, x6))
   (hl : value_Bin.f k 16 2 x2 x3 x4 x5 x6 c1 c2 c3 c4 c5 c6 = some (l1, l2, l3, l4, l5, l6)) (hq : value_Bin.f k 16 b1 b2 b3 b4 b5 b6 c1 c2 c3 c4 c5 c6 = some (q1, q2, q3, q4, q5, q6)) (hr : value_Bin.f k 16 a1 a2 a3 a4 a5 a6 q1 q2 q3 q4 q5 q6 = some (l1, l2, l3, l4, l5, l6)) (nl : ¬ l1 = 4) (hj3 : joinL k (s1, s2, s3, s4, s5, s6) [(a1, a2, a3, a4, a5, a6), (b1, b2, b3, b4, b5, b6), (c1, c2, c3, c4, c5, c6)] = some (l1, l2, l3, l4, l5, l6)) :
  Calls Tryd.prog 10 #[.agg #[.int .i64 a1, .int .i64 a2, .int .i64 a3, .string a4, .bool a5, .int .i64 a6], .agg #[.int .i64 b1, .int .i64 b2, .int .i64 b3, .string b4, .bool b5, .int .i64 b6], .agg #[.int .i64 c1, .int .i64 c2, .int .i64 c3, .string c4, .bool c5, .int .i64 c6]] w fun e w' => e = .returned (.bool true) ∧ Below w.heap.size w w' := by
 have hu25 := Tryd.underlying25
 have HT := Aside0.mk HT0
 have HA := Aside0.mk hA
 have HS := Aside0.mk hs
 have HX := Aside0.mk hx
 have HJ2 := Aside0.mk hj2
 have HJ1 := Aside0.mk hj1
 have HB := Aside0.mk hb_
 have HL := Aside0.mk hl
 have HQ := Aside0.mk hq
 have HRR := Aside0.mk hr
 have HJ3 := Aside0.mk hj3
 clear hj3
 clear HT0 hA hs hx hj2 hj1 hb_ hl hq hr
 have nlb : (l1 == 4) = false := beq_eq_false_iff_ne.mpr nl
 clear nl
 have BX := Bx.start w
 go_enter Tryd.func10, Tryd.ntmps10
 go_wp2_with (first
  | ((with_reducible refine gate_dst (N := 3) rfl ?_); refine bxe 3 #[.int .i64 a1, .int .i64 a2, .int .i64 a3, .string a4, .bool a5, .int .i64 a6] 25 rfl rfl gr ?_; clear BX; intro g3 w_g3 GEg3 BX)
  | ((with_reducible refine gate_dst (N := 4) rfl ?_); refine bxe 4 #[.int .i64 b1, .int .i64 b2, .int .i64 b3, .string b4, .bool b5, .int .i64 b6] 25 rfl rfl gr ?_; clear BX; intro g4 w_g4 GEg4 BX)
  | ((with_reducible refine gate_dst (N := 5) rfl ?_); refine bxe 5 #[.int .i64 c1, .int .i64 c2, .int .i64 c3, .string c4, .bool c5, .int .i64 c6] 25 rfl rfl gr ?_; clear BX; intro g5 w_g5 GEg5 BX)
  | ((with_reducible refine gate_callee (f := 15) rfl ?_); refine goesL_ (some 10) rfl rfl Tryd.func15 kr rfl #[] rfl ga ?_; (with_reducible refine (whittlelaw2_able.calls k true _ ?side1 HA.out).mono ?_); (case side1 => exact HT.out.on bx_bl); rintro e wc10 ⟨rfl, hb⟩; refine ⟨_, rfl, ?_⟩; replace BX := bx_call hb; clear hb)
  | ((with_reducible refine gate_callee (f := 31) rfl ?_); refine goesL_ (some 14) rfl rfl Tryd.func31 kr rfl #[.int .i64 16, .agg #[.int .i64 a1, .int .i64 a2, .int .i64 a3, .string a4, .bool a5, .int .i64 a6], .agg #[.int .i64 b1, .int .i64 b2, .int .i64 b3, .string b4, .bool b5, .int .i64 b6]] rfl ga ?_; (with_reducible refine (value_Bin.calls k 16 a1 a2 a3 a4 a5 a6 b1 b2 b3 b4 b5 b6 2 x2 x3 x4 x5 x6 _ ?side1 HX.out).mono ?_); (case side1 => exact HT.out.on bx_bl); rintro e wc14 ⟨rfl, hb⟩; refine ⟨_, rfl, ?_⟩; replace BX := bx_call hb; clear hb)
  | ((with_reducible refine gate_dst (N := 7) rfl ?_); refine bxe 7 #[.int .i64 0, .int .i64 0, .int .i64 0, .string (⟨#[]⟩ : ByteArray), .bool false, .int .i64 0] 25 rfl rfl gr ?_; clear BX; intro g7 w_g7 GEg7 BX))
 refine startb (n := 28) (ds := []) #[false, false, false, false, false, false, false, false, false, false, false, false, false, false, false, false, false, false, false, false, false, false, false, false, false, false, false, false] kr rfl rfl (fun BX1 => ?_)
 refine with_tabW VT4_tab VT4_bits (fun HT_ HW_ => ?_)
 clear BX
 have BX := BX1
 clear BX1
 skip
 refine take_ (i := 0) (N := some 15) (v := ?_) (a' := ?_) #[true, false, false, false, false, false, false, false, false, false, false, false, false, false, false, false, false, false, false, false, false, false, false, false, false, false, false, false] rfl rfl (take_ofW HT_.out HW_.out kr) (fun _ _ _ h => h) (Or.inl ⟨by rfl, ?_⟩) bxs ?_ ?_
 rotate_left
 · intro w' hS
   go_simp
   with_reducible rfl
 rotate_left
 · exact nr1
 refine take_ (i := 1) (N := some 16) (v := ?_) (a' := ?_) #[true, true, false, false, false, false, false, false, false, false, false, false, false, false, false, false, false, false, false, false, false, false, false, false, false, false, false, false] rfl rfl (take_ofW HT_.out HW_.out kr) (fun _ _ _ h => h) (Or.inl ⟨by rfl, ?_⟩) bxs ?_ ?_
 rotate_left
 · intro w' hS
   go_simp
   with_reducible rfl
 rotate_left
 · exact nr1
 refine take_ (i := 4) (N := some 19) (v := ?_) (a' := ?_) #[true, true, false, false, true, false, false, false, false, false, false, false, false, false, false, false, false, false, false, false, false, false, false, false, false, false, false, false] rfl rfl (take_ofW HT_.out HW_.out kr) (fun _ _ _ h => h) (Or.inl ⟨by rfl, ?_⟩) bxs ?_ ?_
 rotate_left
 · intro w' hS
   go_simp
   with_reducible rfl
 rotate_left
 · exact nr1
 refine take_ (i := 7) (N := some 22) (v := ?_) (a' := ?_) #[true, true, false, false, true, false, false, true, false, false, false, false, false, false, false, false, false, false, false, false, false, false, false, false, false, false, false, false] rfl rfl (take_ofW HT_.out HW_.out kr) (fun _ _ _ h => h) (Or.inl ⟨by rfl, ?_⟩) bxs ?_ ?_
 rotate_left
 · intro w' hS
   go_simp
   with_reducible rfl
 rotate_left
 · exact nr1
 refine join_ (σ := Nat × Nat) 21 #[true, true, true, true, true, true, false, true, false, false, false, false, false, false, false, false, false, false, false, false, false, false, false, false, false, false, false, false] (fun s_ => [(17, .slice (some ⟨s_.1, 0, none⟩) 2 2), (20, .slice (some ⟨s_.2, 0, none⟩) 1 1), (18, .agg #[.int .i64 2, .int .i64 x2, .int .i64 x3, .string x4, .bool x5, .int .i64 x6])]) (fun s_ w' => Bx w w' ((s_.2, 25, #[.int .i64 a1, .int .i64 a2, .int .i64 a3, .string a4, .bool a5, .int .i64 a6]) :: (s_.1, 25, #[.int .i64 a1, .int .i64 a2, .int .i64 a3, .string a4, .bool a5, .int .i64 a6, .int .i64 b1, .int .i64 b2, .int .i64 b3, .string b4, .bool b5, .int .i64 b6]) :: [(g7, 25, #[.int .i64 2, .int .i64 x2, .int .i64 x3, .string x4, .bool x5, .int .i64 x6]), (g5, 25, #[.int .i64 c1, .int .i64 c2, .int .i64 c3, .string c4, .bool c5, .int .i64 c6]), (g4, 25, #[.int .i64 b1, .int .i64 b2, .int .i64 b3, .string b4, .bool b5, .int .i64 b6]), (g3, 25, #[.int .i64 a1, .int .i64 a2, .int .i64 a3, .string a4, .bool a5, .int .i64 a6])])) ?_ (fun hJ => ?_)
 rotate_left
 · skip
   refine two_ (i := 2) (j := 5) (Ni := some 17) (Nj := some 20) #[true, true, true, false, true, false, false, true, false, false, false, false, false, false, false, false, false, false, false, false, false, false, false, false, false, false, false, false] #[true, true, false, false, true, true, false, true, false, false, false, false, false, false, false, false, false, false, false, false, false, false, false, false, false, false, false, false] rfl rfl rfl rfl (two_of HT_.out kr) (by decide) (by decide) (fun K hK => ?_) (fun K hK => ?_)
   · skip
     refine slice1 17 2 #[.int .i64 a1, .int .i64 a2, .int .i64 a3, .string a4, .bool a5, .int .i64 a6, .int .i64 b1, .int .i64 b2, .int .i64 b3, .string b4, .bool b5, .int .i64 b6] 25 rfl rfl gr ?_
     clear BX
     intro g17 wv2 BX
     refine hK.out _ _ bxs (fun hHeld => ?_)
     clear hK K hHeld
     refine norm_ (a' := ?_) ?_ ?_
     rotate_left
     · show Act.put _ (some 17) _ = _
       exact nr1
     refine two_ (i := 3) (j := 5) (Ni := some 18) (Nj := some 20) #[true, true, true, true, true, false, false, true, false, false, false, false, false, false, false, false, false, false, false, false, false, false, false, false, false, false, false, false] #[true, true, true, false, true, true, false, true, false, false, false, false, false, false, false, false, false, false, false, false, false, false, false, false, false, false, false, false] rfl rfl rfl rfl (two_of HT_.out kr) (by decide) (by decide) (fun K hK => ?_) (fun K hK => ?_)
     · skip
       refine goes_ Tryd.func36 kr rfl #[.slice (some ⟨g17, 0, none⟩) 2 2] (by rfl) rfl rfl ga ?_
       with_reducible refine (Join_callsN k (some ⟨g17, 0, none⟩) 2 2 [(a1, a2, a3, a4, a5, a6), (b1, b2, b3, b4, b5, b6)] rfl _ ?sd33a ?sd33b (by decide) s1 s2 s3 s4 s5 s6 2 x2 x3 x4 x5 x6 HS.out HJ2.out).mono ?_
       (case sd33a => exact HT.out.on bx_bl)
       (case sd33b => exact row_of_box (l := [(a1, a2, a3, a4, a5, a6), (b1, b2, b3, b4, b5, b6)]) bx_get)
       rintro e wv3 ⟨rfl, hb⟩
       refine ⟨_, rfl, ?_⟩
       replace BX := bx_call hb
       clear hb
       refine hK.out _ _ bxs (fun hHeld => ?_)
       clear hK K hHeld
       refine norm_ (a' := ?_) ?_ ?_
       rotate_left
       · show Act.put _ (some 18) _ = _
         exact nr1
       refine one_ (i := 5) (N := some 20) #[true, true, true, true, true, true, false, true, false, false, false, false, false, false, false, false, false, false, false, false, false, false, false, false, false, false, false, false] rfl rfl (one_of HT_.out kr) (by decide) (fun K hK => ?_)
       refine slice1 20 1 #[.int .i64 a1, .int .i64 a2, .int .i64 a3, .string a4, .bool a5, .int .i64 a6] 25 rfl rfl gr ?_
       clear BX
       intro g20 wv5 BX
       refine hK.out _ _ bxs (fun hHeld => ?_)
       clear hK K hHeld
       refine norm_ (a' := ?_) ?_ ?_
       rotate_left
       · show Act.put _ (some 20) _ = _
         exact nr1
       exact norm_ nrm (hJ (g17, g20) _ bxs)
     · skip
       refine slice1 20 1 #[.int .i64 a1, .int .i64 a2, .int .i64 a3, .string a4, .bool a5, .int .i64 a6] 25 rfl rfl gr ?_
       clear BX
       intro g20 wv5 BX
       refine hK.out _ _ bxs (fun hHeld => ?_)
       clear hK K hHeld
       refine norm_ (a' := ?_) ?_ ?_
       rotate_left
       · show Act.put _ (some 20) _ = _
         exact nr1
       refine one_ (i := 3) (N := some 18) #[true, true, true, true, true, true, false, true, false, false, false, false, false, false, false, false, false, false, false, false, false, false, false, false, false, false, false, false] rfl rfl (one_of HT_.out kr) (by decide) (fun K hK => ?_)
       refine goes_ Tryd.func36 kr rfl #[.slice (some ⟨g17, 0, none⟩) 2 2] (by rfl) rfl rfl ga ?_
       with_reducible refine (Join_callsN k (some ⟨g17, 0, none⟩) 2 2 [(a1, a2, a3, a4, a5, a6), (b1, b2, b3, b4, b5, b6)] rfl _ ?sd34a ?sd34b (by decide) s1 s2 s3 s4 s5 s6 2 x2 x3 x4 x5 x6 HS.out HJ2.out).mono ?_
       (case sd34a => exact HT.out.on bx_bl)
       (case sd34b => exact row_of_box (l := [(a1, a2, a3, a4, a5, a6), (b1, b2, b3, b4, b5, b6)]) bx_get)
       rintro e wv3 ⟨rfl, hb⟩
       refine ⟨_, rfl, ?_⟩
       replace BX := bx_call hb
       clear hb
       refine hK.out _ _ bxs (fun hHeld => ?_)
       clear hK K hHeld
       refine norm_ (a' := ?_) ?_ ?_
       rotate_left
       · show Act.put _ (some 18) _ = _
         exact nr1
       exact norm_ nrm (hJ (g17, g20) _ bxs)
   · skip
     refine slice1 20 1 #[.int .i64 a1, .int .i64 a2, .int .i64 a3, .string a4, .bool a5, .int .i64 a6] 25 rfl rfl gr ?_
     clear BX
     intro g20 wv5 BX
     refine hK.out _ _ bxs (fun hHeld => ?_)
     clear hK K hHeld
     refine norm_ (a' := ?_) ?_ ?_
     rotate_left
     · show Act.put _ (some 20) _ = _
       exact nr1
     refine one_ (i := 2) (N := some 17) #[true, true, true, false, true, true, false, true, false, false, false, false, false, false, false, false, false, false, false, false, false, false, false, false, false, false, false, false] rfl rfl (one_of HT_.out kr) (by decide) (fun K hK => ?_)
     refine slice1 17 2 #[.int .i64 a1, .int .i64 a2, .int .i64 a3, .string a4, .bool a5, .int .i64 a6, .int .i64 b1, .int .i64 b2, .int .i64 b3, .string b4, .bool b5, .int .i64 b6] 25 rfl rfl gr ?_
     clear BX
     intro g17 wv2 BX
     refine hK.out _ _ bxs (fun hHeld => ?_)
     clear hK K hHeld
     refine norm_ (a' := ?_) ?_ ?_
     rotate_left
     · show Act.put _ (some 17) _ = _
       exact nr1
     refine one_ (i := 3) (N := some 18) #[true, true, true, true, true, true, false, true, false, false, false, false, false, false, false, false, false, false, false, false, false, false, false, false, false, false, false, false] rfl rfl (one_of HT_.out kr) (by decide) (fun K hK => ?_)
     refine goes_ Tryd.func36 kr rfl #[.slice (some ⟨g17, 0, none⟩) 2 2] (by rfl) rfl rfl ga ?_
     with_reducible refine (Join_callsN k (some ⟨g17, 0, none⟩) 2 2 [(a1, a2, a3, a4, a5, a6), (b1, b2, b3, b4, b5, b6)] rfl _ ?sd35a ?sd35b (by decide) s1 s2 s3 s4 s5 s6 2 x2 x3 x4 x5 x6 HS.out HJ2.out).mono ?_
     (case sd35a => exact HT.out.on bx_bl)
     (case sd35b => exact row_of_box (l := [(a1, a2, a3, a4, a5, a6), (b1, b2, b3, b4, b5, b6)]) bx_get)
     rintro e wv3 ⟨rfl, hb⟩
     refine ⟨_, rfl, ?_⟩
     replace BX := bx_call hb
     clear hb
     refine hK.out _ _ bxs (fun hHeld => ?_)
     clear hK K hHeld
     refine norm_ (a' := ?_) ?_ ?_
     rotate_left
     · show Act.put _ (some 18) _ = _
       exact nr1
     exact norm_ nrm (hJ (g17, g20) _ (bxw bxs))
 rintro ⟨g17, g20⟩ wj BX2
 clear BX
 have BX := BX2
 clear BX2
 refine norm_ (a' := ?_) ?_ ?_
 rotate_left
 · simp only [putAll, Act.put, List.setIfInBounds_toArray, List.set_cons_zero, List.set_cons_succ]
   rfl
 refine one_ (i := 6) (N := some 21) #[true, true, true, true, true, true, true, true, false, false, false, false, false, false, false, false, false, false, false, false, false, false, false, false, false, false, false, false] rfl rfl (one_of HT_.out kr) (by decide) (fun K hK => ?_)
 refine goes_ Tryd.func36 kr rfl #[.slice (some ⟨g20, 0, none⟩) 1 1] (by rfl) rfl rfl ga ?_
 with_reducible refine (Join_callsN k (some ⟨g20, 0, none⟩) 1 1 [(a1, a2, a3, a4, a5, a6)] rfl _ ?sd36a ?sd36b (by decide) s1 s2 s3 s4 s5 s6 i1 i2 i3 i4 i5 i6 HS.out HJ1.out).mono ?_
 (case sd36a => exact HT.out.on bx_bl)
 (case sd36b => exact row_of_box (l := [(a1, a2, a3, a4, a5, a6)]) bx_get)
 rintro e wv6 ⟨rfl, hb⟩
 refine ⟨_, rfl, ?_⟩
 replace BX := bx_call hb
 clear hb
 refine hK.out _ _ bxs (fun hHeld => ?_)
 clear hK K hHeld
 refine norm_ (a' := ?_) ?_ ?_
 rotate_left
 · show Act.put _ (some 21) _ = _
   exact nr1
 refine one_ (i := 8) (N := some 23) #[true, true, true, true, true, true, true, true, true, false, false, false, false, false, false, false, false, false, false, false, false, false, false, false, false, false, false, false] rfl rfl (one_of HT_.out kr) (by decide) (fun K hK => ?_)
 refine goes_ Tryd.func31 kr rfl #[.int .i64 16, .agg #[.int .i64 i1, .int .i64 i2, .int .i64 i3, .string i4, .bool i5, .int .i64 i6], .agg #[.int .i64 b1, .int .i64 b2, .int .i64 b3, .string b4, .bool b5, .int .i64 b6]] (by rfl) rfl rfl ga ?_
 with_reducible refine (value_Bin.calls k 16 i1 i2 i3 i4 i5 i6 b1 b2 b3 b4 b5 b6 2 x2 x3 x4 x5 x6 _ ?sd37a HB.out).mono ?_
 (case sd37a => exact HT.out.on bx_bl)
 rintro e wv8 ⟨rfl, hb⟩
 refine ⟨_, rfl, ?_⟩
 replace BX := bx_call hb
 clear hb
 refine hK.out _ _ bxs (fun hHeld => ?_)
 clear hK K hHeld
 refine norm_ (a' := ?_) ?_ ?_
 rotate_left
 · show Act.put _ (some 23) _ = _
   exact nr1
 refine pure_ (i := 9) (N := some 24) (v := ?_) (a' := ?_) #[true, true, true, true, true, true, true, true, true, true, false, false, false, false, false, false, false, false, false, false, false, false, false, false, false, false, false, false] rfl rfl (any_of HT_.out kr) (fun _ _ _ h => h) (Or.inl ⟨by rfl, ?_⟩) ?_ ?_
 rotate_left
 · intro w'
   go_simp
   with_reducible rfl
 rotate_left
 · exact nr1
 refine pure_ (i := 10) (N := some 25) (v := ?_) (a' := ?_) #[true, true, true, true, true, true, true, true, true, true, true, false, false, false, false, false, false, false, false, false, false, false, false, false, false, false, false, false] rfl rfl (any_of HT_.out kr) (fun _ _ _ h => h) (Or.inl ⟨by rfl, ?_⟩) ?_ ?_
 rotate_left
 · intro w'
   go_simp
   with_reducible rfl
 rotate_left
 · exact nr1
 refine pure_ (i := 11) (N := some 26) (v := ?_) (a' := ?_) #[true, true, true, true, true, true, true, true, true, true, true, true, false, false, false, false, false, false, false, false, false, false, false, false, false, false, false, false] rfl rfl (any_of HT_.out kr) (fun _ _ _ h => h) (Or.inl ⟨by rfl, ?_⟩) ?_ ?_
 rotate_left
 · intro w'
   go_simp
   with_reducible rfl
 rotate_left
 · exact nr1
 refine take_ (i := 12) (N := some 27) (v := ?_) (a' := ?_) #[true, true, true, true, true, true, true, true, true, true, true, true, true, false, false, false, false, false, false, false, false, false, false, false, false, false, false, false] rfl rfl (take_ofW HT_.out HW_.out kr) (fun _ _ _ h => h) (Or.inl ⟨by rfl, ?_⟩) bxs ?_ ?_
 rotate_left
 · intro w' hS
   go_simp
   with_reducible rfl
 rotate_left
 · exact nr1
 refine pure_ (i := 13) (N := some 28) (v := ?_) (a' := ?_) #[true, true, true, true, true, true, true, true, true, true, true, true, true, true, false, false, false, false, false, false, false, false, false, false, false, false, false, false] rfl rfl (any_of HT_.out kr) (fun _ _ _ h => h) (Or.inl ⟨by rfl, ?_⟩) ?_ ?_
 rotate_left
 · intro w'
   go_simp
   with_reducible rfl
 rotate_left
 · exact nr1
 refine pure_ (i := 14) (N := some 29) (v := ?_) (a' := ?_) #[true, true, true, true, true, true, true, true, true, true, true, true, true, true, true, false, false, false, false, false, false, false, false, false, false, false, false, false] rfl rfl (any_of HT_.out kr) (fun _ _ _ h => h) (Or.inl ⟨by rfl, ?_⟩) ?_ ?_
 rotate_left
 · intro w'
   go_simp
   with_reducible rfl
 rotate_left
 · exact nr1
 refine take_ (i := 15) (N := some 30) (v := ?_) (a' := ?_) #[true, true, true, true, true, true, true, true, true, true, true, true, true, true, true, true, false, false, false, false, false, false, false, false, false, false, false, false] rfl rfl (take_ofW HT_.out HW_.out kr) (fun _ _ _ h => h) (Or.inl ⟨by rfl, ?_⟩) bxs ?_ ?_
 rotate_left
 · intro w' hS
   go_simp
   with_reducible rfl
 rotate_left
 · exact nr1
 refine take_ (i := 16) (N := some 31) (v := ?_) (a' := ?_) #[true, true, true, true, true, true, true, true, true, true, true, true, true, true, true, true, true, false, false, false, false, false, false, false, false, false, false, false] rfl rfl (take_ofW HT_.out HW_.out kr) (fun _ _ _ h => h) (Or.inl ⟨by rfl, ?_⟩) bxs ?_ ?_
 rotate_left
 · intro w' hS
   go_simp
   with_reducible rfl
 rotate_left
 · exact nr1
 refine take_ (i := 19) (N := some 34) (v := ?_) (a' := ?_) #[true, true, true, true, true, true, true, true, true, true, true, true, true, true, true, true, true, false, false, true, false, false, false, false, false, false, false, false] rfl rfl (take_ofW HT_.out HW_.out kr) (fun _ _ _ h => h) (Or.inl ⟨by rfl, ?_⟩) bxs ?_ ?_
 rotate_left
 · intro w' hS
   go_simp
   with_reducible rfl
 rotate_left
 · exact nr1
 refine one_ (i := 17) (N := some 32) #[true, true, true, true, true, true, true, true, true, true, true, true, true, true, true, true, true, true, false, true, false, false, false, false, false, false, false, false] rfl rfl (one_of HT_.out kr) (by decide) (fun K hK => ?_)
 refine slice1 32 2 #[.int .i64 a1, .int .i64 a2, .int .i64 a3, .string a4, .bool a5, .int .i64 a6, .int .i64 b1, .int .i64 b2, .int .i64 b3, .string b4, .bool b5, .int .i64 b6] 25 rfl rfl gr ?_
 clear BX
 intro g32 wv17 BX
 refine hK.out _ _ bxs (fun hHeld => ?_)
 clear hK K hHeld
 refine norm_ (a' := ?_) ?_ ?_
 rotate_left
 · show Act.put _ (some 32) _ = _
   exact nr1
 refine one_ (i := 18) (N := some 33) #[true, true, true, true, true, true, true, true, true, true, true, true, true, true, true, true, true, true, true, true, false, false, false, false, false, false, false, false] rfl rfl (one_of HT_.out kr) (by decide) (fun K hK => ?_)
 refine goes_ Tryd.func36 kr rfl #[.slice (some ⟨g32, 0, none⟩) 2 2] (by rfl) rfl rfl ga ?_
 with_reducible refine (Join_callsN k (some ⟨g32, 0, none⟩) 2 2 [(a1, a2, a3, a4, a5, a6), (b1, b2, b3, b4, b5, b6)] rfl _ ?sd38a ?sd38b (by decide) s1 s2 s3 s4 s5 s6 2 x2 x3 x4 x5 x6 HS.out HJ2.out).mono ?_
 (case sd38a => exact HT.out.on bx_bl)
 (case sd38b => exact row_of_box (l := [(a1, a2, a3, a4, a5, a6), (b1, b2, b3, b4, b5, b6)]) bx_get)
 rintro e wv18 ⟨rfl, hb⟩
 refine ⟨_, rfl, ?_⟩
 replace BX := bx_call hb
 clear hb
 refine hK.out _ _ bxs (fun hHeld => ?_)
 clear hK K hHeld
 refine norm_ (a' := ?_) ?_ ?_
 rotate_left
 · show Act.put _ (some 33) _ = _
   exact nr1
 refine pure_ (i := 20) (N := some 35) (v := ?_) (a' := ?_) #[true, true, true, true, true, true, true, true, true, true, true, true, true, true, true, true, true, true, true, true, true, false, false, false, false, false, false, false] rfl rfl (any_of HT_.out kr) (fun _ _ _ h => h) (Or.inl ⟨by rfl, ?_⟩) ?_ ?_
 rotate_left
 · intro w'
   go_simp
   with_reducible rfl
 rotate_left
 · exact nr1
 refine pure_ (i := 21) (N := some 36) (v := ?_) (a' := ?_) #[true, true, true, true, true, true, true, true, true, true, true, true, true, true, true, true, true, true, true, true, true, true, false, false, false, false, false, false] rfl rfl (any_of HT_.out kr) (fun _ _ _ h => h) (Or.inl ⟨by rfl, ?_⟩) ?_ ?_
 rotate_left
 · intro w'
   go_simp
   with_reducible rfl
 rotate_left
 · exact nr1
 refine pure_ (i := 22) (N := some 37) (v := ?_) (a' := ?_) #[true, true, true, true, true, true, true, true, true, true, true, true, true, true, true, true, true, true, true, true, true, true, true, false, false, false, false, false] rfl rfl (any_of HT_.out kr) (fun _ _ _ h => h) (Or.inl ⟨by rfl, ?_⟩) ?_ ?_
 rotate_left
 · intro w'
   go_simp
   with_reducible rfl
 rotate_left
 · exact nr1
 refine take_ (i := 23) (N := some 38) (v := ?_) (a' := ?_) #[true, true, true, true, true, true, true, true, true, true, true, true, true, true, true, true, true, true, true, true, true, true, true, true, false, false, false, false] rfl rfl (take_ofW HT_.out HW_.out kr) (fun _ _ _ h => h) (Or.inl ⟨by rfl, ?_⟩) bxs ?_ ?_
 rotate_left
 · intro w' hS
   go_simp
   with_reducible rfl
 rotate_left
 · exact nr1
 refine pure_ (i := 24) (N := some 39) (v := ?_) (a' := ?_) #[true, true, true, true, true, true, true, true, true, true, true, true, true, true, true, true, true, true, true, true, true, true, true, true, true, false, false, false] rfl rfl (any_of HT_.out kr) (fun _ _ _ h => h) (Or.inl ⟨by rfl, ?_⟩) ?_ ?_
 rotate_left
 · intro w'
   go_simp
   with_reducible rfl
 rotate_left
 · exact nr1
 refine pure_ (i := 25) (N := some 40) (v := ?_) (a' := ?_) #[true, true, true, true, true, true, true, true, true, true, true, true, true, true, true, true, true, true, true, true, true, true, true, true, true, true, false, false] rfl rfl (any_of HT_.out kr) (fun _ _ _ h => h) (Or.inl ⟨by rfl, ?_⟩) ?_ ?_
 rotate_left
 · intro w'
   go_simp
   with_reducible rfl
 rotate_left
 · exact nr1
 refine pure_ (i := 26) (N := some 41) (v := ?_) (a' := ?_) #[true, true, true, true, true, true, true, true, true, true, true, true, true, true, true, true, true, true, true, true, true, true, true, true, true, true, true, false] rfl rfl (any_of HT_.out kr) (fun _ _ _ h => h) (Or.inl ⟨by rfl, ?_⟩) ?_ ?_
 rotate_left
 · intro w'
   go_simp
   with_reducible rfl
 rotate_left
 · exact nr1
 refine pure_ (i := 27) (N := some 42) (v := ?_) (a' := ?_) #[true, true, true, true, true, true, true, true, true, true, true, true, true, true, true, true, true, true, true, true, true, true, true, true, true, true, true, true] rfl rfl (any_of HT_.out kr) (fun _ _ _ h => h) (Or.inl ⟨by rfl, ?_⟩) ?_ ?_
 rotate_left
 · intro w'
   go_simp
   with_reducible rfl
 rotate_left
 · exact nr1
 refine done_ (done_of HT_.out kr) ?_
 try go_wp2_with (first
  | ((with_reducible refine gate_callee (f := 31) rfl ?_); refine goesL_ (some 45) rfl rfl Tryd.func31 kr rfl #[.int .i64 16, .agg #[.int .i64 2, .int .i64 x2, .int .i64 x3, .string x4, .bool x5, .int .i64 x6], .agg #[.int .i64 c1, .int .i64 c2, .int .i64 c3, .string c4, .bool c5, .int .i64 c6]] rfl ga ?_; (with_reducible refine (value_Bin.calls k 16 2 x2 x3 x4 x5 x6 c1 c2 c3 c4 c5 c6 l1 l2 l3 l4 l5 l6 _ ?side1 HL.out).mono ?_); (case side1 => exact HT.out.on bx_bl); rintro e wc45 ⟨rfl, hb⟩; refine ⟨_, rfl, ?_⟩; replace BX := bx_call hb; clear hb)
  | ((with_reducible refine gate_dst (N := 8) rfl ?_); refine bxe 8 #[.int .i64 0, .int .i64 0, .int .i64 0, .string (⟨#[]⟩ : ByteArray), .bool false, .int .i64 0] 25 rfl rfl gr ?_; clear BX; intro g8 w_g8 GEg8 BX))
 refine startb (n := 7) (ds := [6]) #[false, false, false, false, false, false, false] kr rfl rfl (fun BX1 => ?_)
 clear BX
 have BX := BX1
 clear BX1
 skip
 refine take_ (i := 0) (N := some 46) (v := ?_) (a' := ?_) #[true, false, false, false, false, false, false] rfl rfl kr (fun _ _ _ h => h) (Or.inl ⟨by rfl, ?_⟩) bxs ?_ ?_
 rotate_left
 · intro w' hS
   go_simp
   with_reducible rfl
 rotate_left
 · exact nr1
 refine take_ (i := 1) (N := some 47) (v := ?_) (a' := ?_) #[true, true, false, false, false, false, false] rfl rfl kr (fun _ _ _ h => h) (Or.inl ⟨by rfl, ?_⟩) bxs ?_ ?_
 rotate_left
 · intro w' hS
   go_simp
   with_reducible rfl
 rotate_left
 · exact nr1
 refine take_ (i := 2) (N := some 48) (v := ?_) (a' := ?_) #[true, true, true, false, false, false, false] rfl rfl kr (fun _ _ _ h => h) (Or.inl ⟨by rfl, ?_⟩) bxs ?_ ?_
 rotate_left
 · intro w' hS
   go_simp
   with_reducible rfl
 rotate_left
 · exact nr1
 refine join_ (σ := Nat) 1 #[true, true, true, true, true, true, false] (fun s_ => [(49, .agg #[.int .i64 q1, .int .i64 q2, .int .i64 q3, .string q4, .bool q5, .int .i64 q6]), (50, .agg #[.int .i64 l1, .int .i64 l2, .int .i64 l3, .string l4, .bool l5, .int .i64 l6]), (9, .pointer (some ⟨s_, 0, none⟩))]) (fun s_ w' => Bx w w' ((s_, 25, #[.int .i64 0, .int .i64 0, .int .i64 0, .string (⟨#[]⟩ : ByteArray), .bool false, .int .i64 0]) :: [(g8, 25, #[.int .i64 l1, .int .i64 l2, .int .i64 l3, .string l4, .bool l5, .int .i64 l6]), (g7, 25, #[.int .i64 2, .int .i64 x2, .int .i64 x3, .string x4, .bool x5, .int .i64 x6]), (g5, 25, #[.int .i64 c1, .int .i64 c2, .int .i64 c3, .string c4, .bool c5, .int .i64 c6]), (g4, 25, #[.int .i64 b1, .int .i64 b2, .int .i64 b3, .string b4, .bool b5, .int .i64 b6]), (g3, 25, #[.int .i64 a1, .int .i64 a2, .int .i64 a3, .string a4, .bool a5, .int .i64 a6])])) ?_ (fun hJ => ?_)
 rotate_left
 · skip
   refine two_ (i := 3) (j := 5) (Ni := some 49) (Nj := some 9) #[true, true, true, true, false, false, false] #[true, true, true, false, false, true, false] rfl rfl rfl rfl kr (by decide) (by decide) (fun K hK => ?_) (fun K hK => ?_)
   · skip
     refine goes_ Tryd.func31 kr rfl #[.int .i64 16, .agg #[.int .i64 b1, .int .i64 b2, .int .i64 b3, .string b4, .bool b5, .int .i64 b6], .agg #[.int .i64 c1, .int .i64 c2, .int .i64 c3, .string c4, .bool c5, .int .i64 c6]] (by rfl) rfl rfl ga ?_
     with_reducible refine (value_Bin.calls k 16 b1 b2 b3 b4 b5 b6 c1 c2 c3 c4 c5 c6 q1 q2 q3 q4 q5 q6 _ ?sd39a HQ.out).mono ?_
     (case sd39a => exact HT.out.on bx_bl)
     rintro e wv3 ⟨rfl, hb⟩
     refine ⟨_, rfl, ?_⟩
     replace BX := bx_call hb
     clear hb
     refine hK.out _ _ bxs (fun hHeld => ?_)
     clear hK K hHeld
     refine norm_ (a' := ?_) ?_ ?_
     rotate_left
     · show Act.put _ (some 49) _ = _
       exact nr1
     refine two_ (i := 4) (j := 5) (Ni := some 50) (Nj := some 9) #[true, true, true, true, true, false, false] #[true, true, true, true, false, true, false] rfl rfl rfl rfl kr (by decide) (by decide) (fun K hK => ?_) (fun K hK => ?_)
     · skip
       refine goes_ Tryd.func31 kr rfl #[.int .i64 16, .agg #[.int .i64 a1, .int .i64 a2, .int .i64 a3, .string a4, .bool a5, .int .i64 a6], .agg #[.int .i64 q1, .int .i64 q2, .int .i64 q3, .string q4, .bool q5, .int .i64 q6]] (by rfl) rfl rfl ga ?_
       with_reducible refine (value_Bin.calls k 16 a1 a2 a3 a4 a5 a6 q1 q2 q3 q4 q5 q6 l1 l2 l3 l4 l5 l6 _ ?sd40a HRR.out).mono ?_
       (case sd40a => exact HT.out.on bx_bl)
       rintro e wv4 ⟨rfl, hb⟩
       refine ⟨_, rfl, ?_⟩
       replace BX := bx_call hb
       clear hb
       refine hK.out _ _ bxs (fun hHeld => ?_)
       clear hK K hHeld
       refine norm_ (a' := ?_) ?_ ?_
       rotate_left
       · show Act.put _ (some 50) _ = _
         exact nr1
       refine one_ (i := 5) (N := some 9) #[true, true, true, true, true, true, false] rfl rfl kr (by decide) (fun K hK => ?_)
       refine bxe1 9 #[.int .i64 0, .int .i64 0, .int .i64 0, .string (⟨#[]⟩ : ByteArray), .bool false, .int .i64 0] 25 rfl rfl gr ?_
       clear BX
       intro g9 wv5 GE_g9 BX
       refine hK.out _ _ bxs (fun hHeld => ?_)
       clear hK K hHeld
       refine norm_ (a' := ?_) ?_ ?_
       rotate_left
       · show Act.put _ (some 9) _ = _
         exact nr1
       exact norm_ nrm (hJ g9 _ bxs)
     · skip
       refine bxe1 9 #[.int .i64 0, .int .i64 0, .int .i64 0, .string (⟨#[]⟩ : ByteArray), .bool false, .int .i64 0] 25 rfl rfl gr ?_
       clear BX
       intro g9 wv5 GE_g9 BX
       refine hK.out _ _ bxs (fun hHeld => ?_)
       clear hK K hHeld
       refine norm_ (a' := ?_) ?_ ?_
       rotate_left
       · show Act.put _ (some 9) _ = _
         exact nr1
       refine one_ (i := 4) (N := some 50) #[true, true, true, true, true, true, false] rfl rfl kr (by decide) (fun K hK => ?_)
       refine goes_ Tryd.func31 kr rfl #[.int .i64 16, .agg #[.int .i64 a1, .int .i64 a2, .int .i64 a3, .string a4, .bool a5, .int .i64 a6], .agg #[.int .i64 q1, .int .i64 q2, .int .i64 q3, .string q4, .bool q5, .int .i64 q6]] (by rfl) rfl rfl ga ?_
       with_reducible refine (value_Bin.calls k 16 a1 a2 a3 a4 a5 a6 q1 q2 q3 q4 q5 q6 l1 l2 l3 l4 l5 l6 _ ?sd41a HRR.out).mono ?_
       (case sd41a => exact HT.out.on bx_bl)
       rintro e wv4 ⟨rfl, hb⟩
       refine ⟨_, rfl, ?_⟩
       replace BX := bx_call hb
       clear hb
       refine hK.out _ _ bxs (fun hHeld => ?_)
       clear hK K hHeld
       refine norm_ (a' := ?_) ?_ ?_
       rotate_left
       · show Act.put _ (some 50) _ = _
         exact nr1
       exact norm_ nrm (hJ g9 _ bxs)
   · skip
     refine bxe1 9 #[.int .i64 0, .int .i64 0, .int .i64 0, .string (⟨#[]⟩ : ByteArray), .bool false, .int .i64 0] 25 rfl rfl gr ?_
     clear BX
     intro g9 wv5 GE_g9 BX
     refine hK.out _ _ bxs (fun hHeld => ?_)
     clear hK K hHeld
     refine norm_ (a' := ?_) ?_ ?_
     rotate_left
     · show Act.put _ (some 9) _ = _
       exact nr1
     refine one_ (i := 3) (N := some 49) #[true, true, true, true, false, true, false] rfl rfl kr (by decide) (fun K hK => ?_)
     refine goes_ Tryd.func31 kr rfl #[.int .i64 16, .agg #[.int .i64 b1, .int .i64 b2, .int .i64 b3, .string b4, .bool b5, .int .i64 b6], .agg #[.int .i64 c1, .int .i64 c2, .int .i64 c3, .string c4, .bool c5, .int .i64 c6]] (by rfl) rfl rfl ga ?_
     with_reducible refine (value_Bin.calls k 16 b1 b2 b3 b4 b5 b6 c1 c2 c3 c4 c5 c6 q1 q2 q3 q4 q5 q6 _ ?sd42a HQ.out).mono ?_
     (case sd42a => exact HT.out.on bx_bl)
     rintro e wv3 ⟨rfl, hb⟩
     refine ⟨_, rfl, ?_⟩
     replace BX := bx_call hb
     clear hb
     refine hK.out _ _ bxs (fun hHeld => ?_)
     clear hK K hHeld
     refine norm_ (a' := ?_) ?_ ?_
     rotate_left
     · show Act.put _ (some 49) _ = _
       exact nr1
     refine one_ (i := 4) (N := some 50) #[true, true, true, true, true, true, false] rfl rfl kr (by decide) (fun K hK => ?_)
     refine goes_ Tryd.func31 kr rfl #[.int .i64 16, .agg #[.int .i64 a1, .int .i64 a2, .int .i64 a3, .string a4, .bool a5, .int .i64 a6], .agg #[.int .i64 q1, .int .i64 q2, .int .i64 q3, .string q4, .bool q5, .int .i64 q6]] (by rfl) rfl rfl ga ?_
     with_reducible refine (value_Bin.calls k 16 a1 a2 a3 a4 a5 a6 q1 q2 q3 q4 q5 q6 l1 l2 l3 l4 l5 l6 _ ?sd43a HRR.out).mono ?_
     (case sd43a => exact HT.out.on bx_bl)
     rintro e wv4 ⟨rfl, hb⟩
     refine ⟨_, rfl, ?_⟩
     replace BX := bx_call hb
     clear hb
     refine hK.out _ _ bxs (fun hHeld => ?_)
     clear hK K hHeld
     refine norm_ (a' := ?_) ?_ ?_
     rotate_left
     · show Act.put _ (some 50) _ = _
       exact nr1
     exact norm_ nrm (hJ g9 _ bxs)
 rintro g9 wj BX2
 clear BX
 have BX := BX2
 clear BX2
 refine norm_ (a' := ?_) ?_ ?_
 rotate_left
 · simp only [putAll, Act.put, List.setIfInBounds_toArray, List.set_cons_zero, List.set_cons_succ]
   rfl
 refine last_ (i := 6) (N := none) #[true, true, true, true, true, true, true] rfl rfl kr (by decide) (fun K hK => ?_)
 refine skip_ (w1 := ?_) (by rfl) rfl ?_ ?_
 rotate_left
 · go_simp
   rfl
 refine hK.out _ _ ?_
 clear hK K
 refine done_ kr ?_
 try go_wp2
 refine startb (n := 23) (ds := []) #[false, false, false, false, false, false, false, false, false, false, false, false, false, false, false, false, false, false, false, false, false, false, false] kr rfl rfl (fun BX1 => ?_)
 refine with_tabW VT8_tab VT8_bits (fun HT_ HW_ => ?_)
 clear BX
 have BX := BX1
 clear BX1
 skip
 refine pure_ (i := 0) (N := some 51) (v := ?_) (a' := ?_) #[true, false, false, false, false, false, false, false, false, false, false, false, false, false, false, false, false, false, false, false, false, false, false] rfl rfl (any_of HT_.out kr) (fun _ _ _ h => h) (Or.inl ⟨by rfl, ?_⟩) ?_ ?_
 rotate_left
 · intro w'
   go_simp
   with_reducible rfl
 rotate_left
 · exact nr1
 refine take_ (i := 1) (N := some 52) (v := ?_) (a' := ?_) #[true, true, false, false, false, false, false, false, false, false, false, false, false, false, false, false, false, false, false, false, false, false, false] rfl rfl (take_ofW HT_.out HW_.out kr) (fun _ _ _ h => h) (Or.inl ⟨by rfl, ?_⟩) bxs ?_ ?_
 rotate_left
 · intro w' hS
   go_simp
   with_reducible rfl
 rotate_left
 · exact nr1
 refine pure_ (i := 2) (N := some 53) (v := ?_) (a' := ?_) #[true, true, true, false, false, false, false, false, false, false, false, false, false, false, false, false, false, false, false, false, false, false, false] rfl rfl (any_of HT_.out kr) (fun _ _ _ h => h) (Or.inl ⟨by rfl, ?_⟩) ?_ ?_
 rotate_left
 · intro w'
   go_simp
   with_reducible rfl
 rotate_left
 · exact nr1
 refine pure_ (i := 3) (N := some 54) (v := ?_) (a' := ?_) #[true, true, true, true, false, false, false, false, false, false, false, false, false, false, false, false, false, false, false, false, false, false, false] rfl rfl (any_of HT_.out kr) (fun _ _ _ h => h) (Or.inl ⟨by rfl, ?_⟩) ?_ ?_
 rotate_left
 · intro w'
   go_simp
   with_reducible rfl
 rotate_left
 · exact nr1
 refine pure_ (i := 4) (N := some 55) (v := ?_) (a' := ?_) #[true, true, true, true, true, false, false, false, false, false, false, false, false, false, false, false, false, false, false, false, false, false, false] rfl rfl (any_of HT_.out kr) (fun _ _ _ h => h) (Or.inl ⟨by rfl, ?_⟩) ?_ ?_
 rotate_left
 · intro w'
   go_simp
   with_reducible rfl
 rotate_left
 · exact nr1
 refine take_ (i := 5) (N := some 56) (v := ?_) (a' := ?_) #[true, true, true, true, true, true, false, false, false, false, false, false, false, false, false, false, false, false, false, false, false, false, false] rfl rfl (take_ofW HT_.out HW_.out kr) (fun _ _ _ h => h) (Or.inl ⟨by rfl, ?_⟩) bxs ?_ ?_
 rotate_left
 · intro w' hS
   go_simp
   with_reducible rfl
 rotate_left
 · exact nr1
 refine pure_ (i := 6) (N := some 57) (v := ?_) (a' := ?_) #[true, true, true, true, true, true, true, false, false, false, false, false, false, false, false, false, false, false, false, false, false, false, false] rfl rfl (any_of HT_.out kr) (fun _ _ _ h => h) (Or.inl ⟨by rfl, ?_⟩) ?_ ?_
 rotate_left
 · intro w'
   go_simp
   with_reducible rfl
 rotate_left
 · exact nr1
 refine pure_ (i := 7) (N := some 58) (v := ?_) (a' := ?_) #[true, true, true, true, true, true, true, true, false, false, false, false, false, false, false, false, false, false, false, false, false, false, false] rfl rfl (any_of HT_.out kr) (fun _ _ _ h => h) (Or.inl ⟨by rfl, ?_⟩) ?_ ?_
 rotate_left
 · intro w'
   go_simp
   with_reducible rfl
 rotate_left
 · exact nr1
 refine pure_ (i := 8) (N := some 59) (v := ?_) (a' := ?_) #[true, true, true, true, true, true, true, true, true, false, false, false, false, false, false, false, false, false, false, false, false, false, false] rfl rfl (any_of HT_.out kr) (fun _ _ _ h => h) (Or.inl ⟨by rfl, ?_⟩) ?_ ?_
 rotate_left
 · intro w'
   go_simp
   with_reducible rfl
 rotate_left
 · exact nr1
 refine take_ (i := 9) (N := some 60) (v := ?_) (a' := ?_) #[true, true, true, true, true, true, true, true, true, true, false, false, false, false, false, false, false, false, false, false, false, false, false] rfl rfl (take_ofW HT_.out HW_.out kr) (fun _ _ _ h => h) (Or.inl ⟨by rfl, ?_⟩) bxs ?_ ?_
 rotate_left
 · intro w' hS
   go_simp
   with_reducible rfl
 rotate_left
 · exact nr1
 refine take_ (i := 10) (N := some 61) (v := ?_) (a' := ?_) #[true, true, true, true, true, true, true, true, true, true, true, false, false, false, false, false, false, false, false, false, false, false, false] rfl rfl (take_ofW HT_.out HW_.out kr) (fun _ _ _ h => h) (Or.inl ⟨by rfl, ?_⟩) bxs ?_ ?_
 rotate_left
 · intro w' hS
   go_simp
   with_reducible rfl
 rotate_left
 · exact nr1
 refine pure_ (i := 11) (N := some 62) (v := ?_) (a' := ?_) #[true, true, true, true, true, true, true, true, true, true, true, true, false, false, false, false, false, false, false, false, false, false, false] rfl rfl (any_of HT_.out kr) (fun _ _ _ h => h) (Or.inl ⟨by rfl, ?_⟩) ?_ ?_
 rotate_left
 · intro w'
   go_simp
   with_reducible rfl
 rotate_left
 · exact nr1
 refine pure_ (i := 12) (N := some 63) (v := ?_) (a' := ?_) #[true, true, true, true, true, true, true, true, true, true, true, true, true, false, false, false, false, false, false, false, false, false, false] rfl rfl (any_of HT_.out kr) (fun _ _ _ h => h) (Or.inl ⟨by rfl, ?_⟩) ?_ ?_
 rotate_left
 · intro w'
   go_simp
   with_reducible rfl
 rotate_left
 · exact nr1
 refine take_ (i := 13) (N := some 64) (v := ?_) (a' := ?_) #[true, true, true, true, true, true, true, true, true, true, true, true, true, true, false, false, false, false, false, false, false, false, false] rfl rfl (take_ofW HT_.out HW_.out kr) (fun _ _ _ h => h) (Or.inl ⟨by rfl, ?_⟩) bxs ?_ ?_
 rotate_left
 · intro w' hS
   go_simp
   with_reducible rfl
 rotate_left
 · exact nr1
 refine take_ (i := 14) (N := some 65) (v := ?_) (a' := ?_) #[true, true, true, true, true, true, true, true, true, true, true, true, true, true, true, false, false, false, false, false, false, false, false] rfl rfl (take_ofW HT_.out HW_.out kr) (fun _ _ _ h => h) (Or.inl ⟨by rfl, ?_⟩) bxs ?_ ?_
 rotate_left
 · intro w' hS
   go_simp
   with_reducible rfl
 rotate_left
 · exact nr1
 refine take_ (i := 15) (N := some 66) (v := ?_) (a' := ?_) #[true, true, true, true, true, true, true, true, true, true, true, true, true, true, true, true, false, false, false, false, false, false, false] rfl rfl (take_ofW HT_.out HW_.out kr) (fun _ _ _ h => h) (Or.inl ⟨by rfl, ?_⟩) bxs ?_ ?_
 rotate_left
 · intro w' hS
   go_simp
   with_reducible rfl
 rotate_left
 · exact nr1
 refine take_ (i := 18) (N := some 69) (v := ?_) (a' := ?_) #[true, true, true, true, true, true, true, true, true, true, true, true, true, true, true, true, false, false, true, false, false, false, false] rfl rfl (take_ofW HT_.out HW_.out kr) (fun _ _ _ h => h) (Or.inl ⟨by rfl, ?_⟩) bxs ?_ ?_
 rotate_left
 · intro w' hS
   go_simp
   with_reducible rfl
 rotate_left
 · exact nr1
 refine one_ (i := 16) (N := some 67) #[true, true, true, true, true, true, true, true, true, true, true, true, true, true, true, true, true, false, true, false, false, false, false] rfl rfl (one_of HT_.out kr) (by decide) (fun K hK => ?_)
 refine slice1 67 3 #[.int .i64 a1, .int .i64 a2, .int .i64 a3, .string a4, .bool a5, .int .i64 a6, .int .i64 b1, .int .i64 b2, .int .i64 b3, .string b4, .bool b5, .int .i64 b6, .int .i64 c1, .int .i64 c2, .int .i64 c3, .string c4, .bool c5, .int .i64 c6] 25 rfl rfl gr ?_
 clear BX
 intro g67 wv16 BX
 refine hK.out _ _ bxs (fun hHeld => ?_)
 clear hK K hHeld
 refine norm_ (a' := ?_) ?_ ?_
 rotate_left
 · show Act.put _ (some 67) _ = _
   exact nr1
 refine one_ (i := 17) (N := some 68) #[true, true, true, true, true, true, true, true, true, true, true, true, true, true, true, true, true, true, true, false, false, false, false] rfl rfl (one_of HT_.out kr) (by decide) (fun K hK => ?_)
 refine goes_ Tryd.func36 kr rfl #[.slice (some ⟨g67, 0, none⟩) 3 3] (by rfl) rfl rfl ga ?_
 with_reducible refine (Join_callsN k (some ⟨g67, 0, none⟩) 3 3 [(a1, a2, a3, a4, a5, a6), (b1, b2, b3, b4, b5, b6), (c1, c2, c3, c4, c5, c6)] rfl _ ?sd44a ?sd44b (by decide) s1 s2 s3 s4 s5 s6 l1 l2 l3 l4 l5 l6 HS.out HJ3.out).mono ?_
 (case sd44a => exact HT.out.on bx_bl)
 (case sd44b => exact row_of_box (l := [(a1, a2, a3, a4, a5, a6), (b1, b2, b3, b4, b5, b6), (c1, c2, c3, c4, c5, c6)]) bx_get)
 rintro e wv17 ⟨rfl, hb⟩
 refine ⟨_, rfl, ?_⟩
 replace BX := bx_call hb
 clear hb
 refine hK.out _ _ bxs (fun hHeld => ?_)
 clear hK K hHeld
 refine norm_ (a' := ?_) ?_ ?_
 rotate_left
 · show Act.put _ (some 68) _ = _
   exact nr1
 refine pure_ (i := 19) (N := some 70) (v := ?_) (a' := ?_) #[true, true, true, true, true, true, true, true, true, true, true, true, true, true, true, true, true, true, true, true, false, false, false] rfl rfl (any_of HT_.out kr) (fun _ _ _ h => h) (Or.inl ⟨by rfl, ?_⟩) ?_ ?_
 rotate_left
 · intro w'
   go_simp
   with_reducible rfl
 rotate_left
 · exact nr1
 refine pure_ (i := 20) (N := some 71) (v := ?_) (a' := ?_) #[true, true, true, true, true, true, true, true, true, true, true, true, true, true, true, true, true, true, true, true, true, false, false] rfl rfl (any_of HT_.out kr) (fun _ _ _ h => h) (Or.inl ⟨by rfl, ?_⟩) ?_ ?_
 rotate_left
 · intro w'
   go_simp
   with_reducible rfl
 rotate_left
 · exact nr1
 refine pure_ (i := 21) (N := some 72) (v := ?_) (a' := ?_) #[true, true, true, true, true, true, true, true, true, true, true, true, true, true, true, true, true, true, true, true, true, true, false] rfl rfl (any_of HT_.out kr) (fun _ _ _ h => h) (Or.inl ⟨by rfl, ?_⟩) ?_ ?_
 rotate_left
 · intro w'
   go_simp
   with_reducible rfl
 rotate_left
 · exact nr1
 refine pure_ (i := 22) (N := some 6) (v := ?_) (a' := ?_) #[true, true, true, true, true, true, true, true, true, true, true, true, true, true, true, true, true, true, true, true, true, true, true] rfl rfl (any_of HT_.out kr) (fun _ _ _ h => h) (Or.inl ⟨by rfl, ?_⟩) ?_ ?_
 rotate_left
 · intro w'
   go_simp
   with_reducible rfl
 rotate_left
 · exact nr1
 refine done_ (done_of HT_.out kr) ?_
 try go_wp2
 go_ret
 exact ⟨rfl, bx_bl⟩
end Go.Proofs.YtmakkdlkgfgaoaaDoor.F
