/-
The walk of ValueOpposite: the comparisons tell opposites, and what Cmp tells.
-/
import Derived.Test.YtmakkdlkgfgaoaaDoorH1
import Derived.Test.YtmakkdlkgfgaoaaDoorF100
import Derived.Test.YtmakkdlkgfgaoaaDoorF104
import Derived.Test.YtmakkdlkgfgaoaaDoorF105
import Derived.Test.YtmakkdlkgfgaoaaDoorF112
namespace Go.Proofs.YtmakkdlkgfgaoaaDoor.F
open Go.RowKit Go.Proofs.YtmakkdlkgfgaoaaDoorW.PrintWords Go.Proofs.YtmakkdlkgfgaoaaDoorW.PrintLast Go.Proofs.YtmakkdlkgfgaoaaDoorW.PrintMore
attribute [local go_sem high] bx_cell bx_frozen eqA25
set_option linter.unusedVariables false
set_option linter.unusedSimpArgs false
section
variable {P : Program} {ops : Array Oper} {rest : List Oper} {o : Oper} {a : Act} {Q : Exit → Act → World → Prop} {w0 : World} {L : List BoxE}
/-- a slice that is written out, read as a list -/
theorem sliceR {W : World} [k : Bx w0 W L] (N : Tmp) (l : List VV) (n : Nat) (hgd : o.guard = none) (hd : o.dst = some N)
    (hrun : (execOp a.eval o).run P W = .ok (.value (.slice (some ⟨W.heap.size, 0, none⟩) n n)) (W.alloc (.cells (rowV l).toArray 25 (0, 0))))
    (h : ∀ ad w1, Aside0 (RowAt w1 (some ad) l) → Bx w0 w1 L → wpList P ops Q rest (a.put o.dst (.slice (some ad) n n)) w1) : wpList P ops Q (o :: rest) a W :=
  Kd.event_run hgd hrun (h _ _ ⟨row_of_box (blk_new W _)⟩ inferInstance)
end
set_option maxHeartbeats 8000000 in
set_option maxRecDepth 100000 in
theorem ValueOpposite_walk (k : Nat) (a1 a2 a3 : Int) (a4 : ByteArray) (a5 : Bool) (a6 : Int) (b1 b2 b3 : Int) (b4 : ByteArray) (b5 : Bool) (b6 : Int) (p1 p2 p3 : Int) (p4 : ByteArray) (p5 : Bool) (p6 : Int) (n1 n2 n3 : Int) (n4 : ByteArray) (n5 : Bool) (n6 : Int) (s1 s2 s3 : Int) (s4 : ByteArray) (s5 : Bool) (s6 : Int) (y1 y2 y3 : Int) (y4 : ByteArray) (y5 : Bool) (y6 : Int) (u1 u2 u3 : Int) (u4 : ByteArray) (u5 : Bool) (u6 : Int) (v1 v2 v3 : Int) (v4 : ByteArray) (v5 : Bool) (v6 : Int) (o d : Int) (w : World) (HT0 : TabAt w) (hA : whittlelaw2_able.f k = some true) (hp : value_Bin.f k 21 a1 a2 a3 a4 a5 a6 b1 b2 b3 b4 b5 b6 = some (p1, p2, p3, p4, p5, p6)) (hn : value_Bin.f k 22 a1 a2 a3 a4 a5 a6 b1 b2 b3 b4 b5 b6 = some (n1, n2, n3, n4, n5, n6)) (hs : value_Bin.f k 23 a1 a2 a3 a4 a5 a6 b1 b2 b3 b4 b5 b6 = some (s1, s2, s3, s4, s5, s6)) (hy : value_Bin.f k 26 a1 a2 a3 a4 a5 a6 b1 b2 b3 b4 b5 b6 = some (y1, y2, y3, y4, y5, y6)) (hu : value_Bin.f k 25 a1 a2 a3 a4 a5 a6 b1 b2 b3 b4 b5 b6 = some (u1, u2, u3, u4, u5, u6)) (hv : value_Bin.f k 24 a1 a2 a3 a4 a5 a6 b1 b2 b3 b4 b5 b6 = some (v1, v2, v3, v4, v5, v6)) (hc : value_Cmp.f k a1 a2 a3 a4 a5 a6 b1 b2 b3 b4 b5 b6 = some o)
   (hcase : (((p1, p2, p3, p4, p5, p6) : VV) = (4, 0, 0, ⟨#[]⟩, false, d) ∧ ((n1, n2, n3, n4, n5, n6) : VV) = (4, 0, 0, ⟨#[]⟩, false, d) ∧ ((s1, s2, s3, s4, s5, s6) : VV) = (4, 0, 0, ⟨#[]⟩, false, d) ∧ ((y1, y2, y3, y4, y5, y6) : VV) = (4, 0, 0, ⟨#[]⟩, false, d) ∧ ((u1, u2, u3, u4, u5, u6) : VV) = (4, 0, 0, ⟨#[]⟩, false, d) ∧ ((v1, v2, v3, v4, v5, v6) : VV) = (4, 0, 0, ⟨#[]⟩, false, d)) ∨ ((p1 = 3 ∧ p2 = 0 ∧ p3 = 0 ∧ p4 = ⟨#[]⟩ ∧ p6 = 0) ∧ (n1 = 3 ∧ n2 = 0 ∧ n3 = 0 ∧ n4 = ⟨#[]⟩ ∧ n6 = 0) ∧ (s1 = 3 ∧ s2 = 0 ∧ s3 = 0 ∧ s4 = ⟨#[]⟩ ∧ s6 = 0) ∧ (y1 = 3 ∧ y2 = 0 ∧ y3 = 0 ∧ y4 = ⟨#[]⟩ ∧ y6 = 0) ∧ (u1 = 3 ∧ u2 = 0 ∧ u3 = 0 ∧ u4 = ⟨#[]⟩ ∧ u6 = 0) ∧ (v1 = 3 ∧ v2 = 0 ∧ v3 = 0 ∧ v4 = ⟨#[]⟩ ∧ v6 = 0) ∧ Aside0 ((o = -1 ∧ p5 = false ∧ n5 = true ∧ s5 = true ∧ y5 = false ∧ u5 = false ∧ v5 = true) ∨ (o = 0 ∧ p5 = true ∧ n5 = false ∧ s5 = false ∧ y5 = true ∧ u5 = false ∧ v5 = true) ∨ (o = 1 ∧ p5 = false ∧ n5 = true ∧ s5 = false ∧ y5 = true ∧ u5 = true ∧ v5 = false)))) :
  Calls Tryd.prog 7 #[.agg #[.int .i64 a1, .int .i64 a2, .int .i64 a3, .string a4, .bool a5, .int .i64 a6], .agg #[.int .i64 b1, .int .i64 b2, .int .i64 b3, .string b4, .bool b5, .int .i64 b6]] w fun e w' => e = .returned (.bool true) ∧ Below w.heap.size w w' := by
 have hu25 := Tryd.underlying25
 have HT := Aside0.mk HT0
 have HA := Aside0.mk hA
 have HC := Aside0.mk hc
 have HCASE := Aside0.mk hcase
 have Hp := Aside0.mk hp
 have Hn := Aside0.mk hn
 have Hs := Aside0.mk hs
 have Hy := Aside0.mk hy
 have Hu := Aside0.mk hu
 have Hv := Aside0.mk hv
 clear HT0 hA hc hcase hp hn hs hy hu hv
 have BX := Bx.start w
 go_enter Tryd.func7, Tryd.ntmps7
 go_wp2_with (first
  | ((with_reducible refine gate_dst (N := 2) rfl ?_); refine bxe 2 #[.int .i64 a1, .int .i64 a2, .int .i64 a3, .string a4, .bool a5, .int .i64 a6] 25 rfl rfl gr ?_; clear BX; intro g2 w_g2 GEg2 BX)
  | ((with_reducible refine gate_dst (N := 3) rfl ?_); refine bxe 3 #[.int .i64 b1, .int .i64 b2, .int .i64 b3, .string b4, .bool b5, .int .i64 b6] 25 rfl rfl gr ?_; clear BX; intro g3 w_g3 GEg3 BX)
  | ((with_reducible refine gate_callee (f := 15) rfl ?_); refine goesL_ (some 14) rfl rfl Tryd.func15 kr rfl #[] rfl ga ?_; (with_reducible refine (whittlelaw2_able.calls k true _ ?side1 HA.out).mono ?_); (case side1 => exact HT.out.on bx_bl); rintro e wc14 ⟨rfl, hb⟩; refine ⟨_, rfl, ?_⟩; replace BX := bx_call hb; clear hb))
 refine startb (n := 10) (ds := [8, 9]) #[false, false, false, false, false, false, false, false, false, false] kr rfl rfl (fun BX1 => ?_)
 clear BX
 have BX := BX1
 clear BX1
 skip
 refine take_ (i := 0) (N := some 16) (v := ?_) (a' := ?_) #[true, false, false, false, false, false, false, false, false, false] rfl rfl kr (fun _ _ _ h => h) (Or.inl ⟨by rfl, ?_⟩) bxs ?_ ?_
 rotate_left
 · intro w' hS
   go_simp
   with_reducible rfl
 rotate_left
 · exact nr1
 refine take_ (i := 1) (N := some 17) (v := ?_) (a' := ?_) #[true, true, false, false, false, false, false, false, false, false] rfl rfl kr (fun _ _ _ h => h) (Or.inl ⟨by rfl, ?_⟩) bxs ?_ ?_
 rotate_left
 · intro w' hS
   go_simp
   with_reducible rfl
 rotate_left
 · exact nr1
 refine take_ (i := 3) (N := some 19) (v := ?_) (a' := ?_) #[true, true, false, true, false, false, false, false, false, false] rfl rfl kr (fun _ _ _ h => h) (Or.inl ⟨by rfl, ?_⟩) bxs ?_ ?_
 rotate_left
 · intro w' hS
   go_simp
   with_reducible rfl
 rotate_left
 · exact nr1
 refine take_ (i := 4) (N := some 20) (v := ?_) (a' := ?_) #[true, true, false, true, true, false, false, false, false, false] rfl rfl kr (fun _ _ _ h => h) (Or.inl ⟨by rfl, ?_⟩) bxs ?_ ?_
 rotate_left
 · intro w' hS
   go_simp
   with_reducible rfl
 rotate_left
 · exact nr1
 refine join_ (σ := Nat × Nat) 2 #[true, true, true, true, true, true, true, true, false, false] (fun s_ => [(18, .agg #[.int .i64 p1, .int .i64 p2, .int .i64 p3, .string p4, .bool p5, .int .i64 p6]), (21, .agg #[.int .i64 n1, .int .i64 n2, .int .i64 n3, .string n4, .bool n5, .int .i64 n6]), (5, .pointer (some ⟨s_.1, 0, none⟩)), (6, .pointer (some ⟨s_.2, 0, none⟩))]) (fun s_ w' => Bx w w' ((s_.2, 25, #[.int .i64 0, .int .i64 0, .int .i64 0, .string (⟨#[]⟩ : ByteArray), .bool false, .int .i64 0]) :: (s_.1, 25, #[.int .i64 0, .int .i64 0, .int .i64 0, .string (⟨#[]⟩ : ByteArray), .bool false, .int .i64 0]) :: [(g3, 25, #[.int .i64 b1, .int .i64 b2, .int .i64 b3, .string b4, .bool b5, .int .i64 b6]), (g2, 25, #[.int .i64 a1, .int .i64 a2, .int .i64 a3, .string a4, .bool a5, .int .i64 a6])])) ?_ (fun hJ2_5_6_7 => ?_)
 rotate_left
 refine join_ (σ := Nat) 3 #[true, true, true, true, true, true, true, false, false, false] (fun s_ => [(18, .agg #[.int .i64 p1, .int .i64 p2, .int .i64 p3, .string p4, .bool p5, .int .i64 p6]), (21, .agg #[.int .i64 n1, .int .i64 n2, .int .i64 n3, .string n4, .bool n5, .int .i64 n6]), (5, .pointer (some ⟨s_, 0, none⟩))]) (fun s_ w' => Bx w w' ((s_, 25, #[.int .i64 0, .int .i64 0, .int .i64 0, .string (⟨#[]⟩ : ByteArray), .bool false, .int .i64 0]) :: [(g3, 25, #[.int .i64 b1, .int .i64 b2, .int .i64 b3, .string b4, .bool b5, .int .i64 b6]), (g2, 25, #[.int .i64 a1, .int .i64 a2, .int .i64 a3, .string a4, .bool a5, .int .i64 a6])])) ?_ (fun hJ2_5_6 => ?_)
 · skip
   rintro g5 wj BX2
   clear BX
   have BX := BX2
   clear BX2
   refine norm_ (a' := ?_) ?_ ?_
   rotate_left
   · simp only [putAll, Act.put, List.setIfInBounds_toArray, List.set_cons_zero, List.set_cons_succ]
     rfl
   refine one_ (i := 7) (N := some 6) #[true, true, true, true, true, true, true, true, false, false] rfl rfl kr (by decide) (fun K hK => ?_)
   refine bxe1 6 #[.int .i64 0, .int .i64 0, .int .i64 0, .string (⟨#[]⟩ : ByteArray), .bool false, .int .i64 0] 25 rfl rfl gr ?_
   clear BX
   intro g6 wv7 GE_g6 BX
   refine hK.out _ _ bxs (fun hHeld => ?_)
   clear hK K hHeld
   refine norm_ (a' := ?_) ?_ ?_
   rotate_left
   · show Act.put _ (some 6) _ = _
     exact nr1
   exact norm_ nrm (hJ2_5_6_7 (g5, g6) _ bxs)
 refine join_ (σ := Nat) 3 #[true, true, true, true, true, true, false, true, false, false] (fun s_ => [(18, .agg #[.int .i64 p1, .int .i64 p2, .int .i64 p3, .string p4, .bool p5, .int .i64 p6]), (21, .agg #[.int .i64 n1, .int .i64 n2, .int .i64 n3, .string n4, .bool n5, .int .i64 n6]), (6, .pointer (some ⟨s_, 0, none⟩))]) (fun s_ w' => Bx w w' ((s_, 25, #[.int .i64 0, .int .i64 0, .int .i64 0, .string (⟨#[]⟩ : ByteArray), .bool false, .int .i64 0]) :: [(g3, 25, #[.int .i64 b1, .int .i64 b2, .int .i64 b3, .string b4, .bool b5, .int .i64 b6]), (g2, 25, #[.int .i64 a1, .int .i64 a2, .int .i64 a3, .string a4, .bool a5, .int .i64 a6])])) ?_ (fun hJ2_5_7 => ?_)
 · skip
   rintro g6 wj BX2
   clear BX
   have BX := BX2
   clear BX2
   refine norm_ (a' := ?_) ?_ ?_
   rotate_left
   · simp only [putAll, Act.put, List.setIfInBounds_toArray, List.set_cons_zero, List.set_cons_succ]
     rfl
   refine one_ (i := 6) (N := some 5) #[true, true, true, true, true, true, true, true, false, false] rfl rfl kr (by decide) (fun K hK => ?_)
   refine bxe1 5 #[.int .i64 0, .int .i64 0, .int .i64 0, .string (⟨#[]⟩ : ByteArray), .bool false, .int .i64 0] 25 rfl rfl gr ?_
   clear BX
   intro g5 wv6 GE_g5 BX
   refine hK.out _ _ bxs (fun hHeld => ?_)
   clear hK K hHeld
   refine norm_ (a' := ?_) ?_ ?_
   rotate_left
   · show Act.put _ (some 5) _ = _
     exact nr1
   exact norm_ nrm (hJ2_5_6_7 (g5, g6) _ (bxw bxs))
 refine join_ (σ := Nat × Nat) 3 #[true, true, true, true, true, false, true, true, false, false] (fun s_ => [(18, .agg #[.int .i64 p1, .int .i64 p2, .int .i64 p3, .string p4, .bool p5, .int .i64 p6]), (5, .pointer (some ⟨s_.1, 0, none⟩)), (6, .pointer (some ⟨s_.2, 0, none⟩))]) (fun s_ w' => Bx w w' ((s_.2, 25, #[.int .i64 0, .int .i64 0, .int .i64 0, .string (⟨#[]⟩ : ByteArray), .bool false, .int .i64 0]) :: (s_.1, 25, #[.int .i64 0, .int .i64 0, .int .i64 0, .string (⟨#[]⟩ : ByteArray), .bool false, .int .i64 0]) :: [(g3, 25, #[.int .i64 b1, .int .i64 b2, .int .i64 b3, .string b4, .bool b5, .int .i64 b6]), (g2, 25, #[.int .i64 a1, .int .i64 a2, .int .i64 a3, .string a4, .bool a5, .int .i64 a6])])) ?_ (fun hJ2_6_7 => ?_)
 · skip
   rintro ⟨g5, g6⟩ wj BX2
   clear BX
   have BX := BX2
   clear BX2
   refine norm_ (a' := ?_) ?_ ?_
   rotate_left
   · simp only [putAll, Act.put, List.setIfInBounds_toArray, List.set_cons_zero, List.set_cons_succ]
     rfl
   refine one_ (i := 5) (N := some 21) #[true, true, true, true, true, true, true, true, false, false] rfl rfl kr (by decide) (fun K hK => ?_)
   refine goes_ Tryd.func31 kr rfl #[.int .i64 22, .agg #[.int .i64 a1, .int .i64 a2, .int .i64 a3, .string a4, .bool a5, .int .i64 a6], .agg #[.int .i64 b1, .int .i64 b2, .int .i64 b3, .string b4, .bool b5, .int .i64 b6]] (by rfl) rfl rfl ga ?_
   with_reducible refine (value_Bin.calls k 22 a1 a2 a3 a4 a5 a6 b1 b2 b3 b4 b5 b6 n1 n2 n3 n4 n5 n6 _ ?sd1a Hn.out).mono ?_
   (case sd1a => exact HT.out.on bx_bl)
   rintro e wv5 ⟨rfl, hb⟩
   refine ⟨_, rfl, ?_⟩
   replace BX := bx_call hb
   clear hb
   refine hK.out _ _ bxs (fun hHeld => ?_)
   clear hK K hHeld
   refine norm_ (a' := ?_) ?_ ?_
   rotate_left
   · show Act.put _ (some 21) _ = _
     exact nr1
   exact norm_ nrm (hJ2_5_6_7 (g5, g6) _ bxs)
 refine join_ (σ := Unit) 4 #[true, true, true, true, true, true, false, false, false, false] (fun s_ => [(18, .agg #[.int .i64 p1, .int .i64 p2, .int .i64 p3, .string p4, .bool p5, .int .i64 p6]), (21, .agg #[.int .i64 n1, .int .i64 n2, .int .i64 n3, .string n4, .bool n5, .int .i64 n6])]) (fun s_ w' => Bx w w' ([(g3, 25, #[.int .i64 b1, .int .i64 b2, .int .i64 b3, .string b4, .bool b5, .int .i64 b6]), (g2, 25, #[.int .i64 a1, .int .i64 a2, .int .i64 a3, .string a4, .bool a5, .int .i64 a6])])) ?_ (fun hJ2_5 => ?_)
 · skip
   rintro _ wj BX2
   clear BX
   have BX := BX2
   clear BX2
   refine norm_ (a' := ?_) ?_ ?_
   rotate_left
   · simp only [putAll, Act.put, List.setIfInBounds_toArray, List.set_cons_zero, List.set_cons_succ]
     rfl
   refine two_ (i := 6) (j := 7) (Ni := some 5) (Nj := some 6) #[true, true, true, true, true, true, true, false, false, false] #[true, true, true, true, true, true, false, true, false, false] rfl rfl rfl rfl kr (by decide) (by decide) (fun K hK => ?_) (fun K hK => ?_)
   · skip
     refine bxe1 5 #[.int .i64 0, .int .i64 0, .int .i64 0, .string (⟨#[]⟩ : ByteArray), .bool false, .int .i64 0] 25 rfl rfl gr ?_
     clear BX
     intro g5 wv6 GE_g5 BX
     refine hK.out _ _ bxs (fun hHeld => ?_)
     clear hK K hHeld
     refine norm_ (a' := ?_) ?_ ?_
     rotate_left
     · show Act.put _ (some 5) _ = _
       exact nr1
     exact norm_ nrm (hJ2_5_6 g5 _ bxs)
   · skip
     refine bxe1 6 #[.int .i64 0, .int .i64 0, .int .i64 0, .string (⟨#[]⟩ : ByteArray), .bool false, .int .i64 0] 25 rfl rfl gr ?_
     clear BX
     intro g6 wv7 GE_g6 BX
     refine hK.out _ _ bxs (fun hHeld => ?_)
     clear hK K hHeld
     refine norm_ (a' := ?_) ?_ ?_
     rotate_left
     · show Act.put _ (some 6) _ = _
       exact nr1
     exact norm_ nrm (hJ2_5_7 g6 _ bxs)
 refine join_ (σ := Nat) 4 #[true, true, true, true, true, false, true, false, false, false] (fun s_ => [(18, .agg #[.int .i64 p1, .int .i64 p2, .int .i64 p3, .string p4, .bool p5, .int .i64 p6]), (5, .pointer (some ⟨s_, 0, none⟩))]) (fun s_ w' => Bx w w' ((s_, 25, #[.int .i64 0, .int .i64 0, .int .i64 0, .string (⟨#[]⟩ : ByteArray), .bool false, .int .i64 0]) :: [(g3, 25, #[.int .i64 b1, .int .i64 b2, .int .i64 b3, .string b4, .bool b5, .int .i64 b6]), (g2, 25, #[.int .i64 a1, .int .i64 a2, .int .i64 a3, .string a4, .bool a5, .int .i64 a6])])) ?_ (fun hJ2_6 => ?_)
 · skip
   rintro g5 wj BX2
   clear BX
   have BX := BX2
   clear BX2
   refine norm_ (a' := ?_) ?_ ?_
   rotate_left
   · simp only [putAll, Act.put, List.setIfInBounds_toArray, List.set_cons_zero, List.set_cons_succ]
     rfl
   refine two_ (i := 5) (j := 7) (Ni := some 21) (Nj := some 6) #[true, true, true, true, true, true, true, false, false, false] #[true, true, true, true, true, false, true, true, false, false] rfl rfl rfl rfl kr (by decide) (by decide) (fun K hK => ?_) (fun K hK => ?_)
   · skip
     refine goes_ Tryd.func31 kr rfl #[.int .i64 22, .agg #[.int .i64 a1, .int .i64 a2, .int .i64 a3, .string a4, .bool a5, .int .i64 a6], .agg #[.int .i64 b1, .int .i64 b2, .int .i64 b3, .string b4, .bool b5, .int .i64 b6]] (by rfl) rfl rfl ga ?_
     with_reducible refine (value_Bin.calls k 22 a1 a2 a3 a4 a5 a6 b1 b2 b3 b4 b5 b6 n1 n2 n3 n4 n5 n6 _ ?sd2a Hn.out).mono ?_
     (case sd2a => exact HT.out.on bx_bl)
     rintro e wv5 ⟨rfl, hb⟩
     refine ⟨_, rfl, ?_⟩
     replace BX := bx_call hb
     clear hb
     refine hK.out _ _ bxs (fun hHeld => ?_)
     clear hK K hHeld
     refine norm_ (a' := ?_) ?_ ?_
     rotate_left
     · show Act.put _ (some 21) _ = _
       exact nr1
     exact norm_ nrm (hJ2_5_6 g5 _ bxs)
   · skip
     refine bxe1 6 #[.int .i64 0, .int .i64 0, .int .i64 0, .string (⟨#[]⟩ : ByteArray), .bool false, .int .i64 0] 25 rfl rfl gr ?_
     clear BX
     intro g6 wv7 GE_g6 BX
     refine hK.out _ _ bxs (fun hHeld => ?_)
     clear hK K hHeld
     refine norm_ (a' := ?_) ?_ ?_
     rotate_left
     · show Act.put _ (some 6) _ = _
       exact nr1
     exact norm_ nrm (hJ2_6_7 (g5, g6) _ bxs)
 refine join_ (σ := Nat) 4 #[true, true, true, true, true, false, false, true, false, false] (fun s_ => [(18, .agg #[.int .i64 p1, .int .i64 p2, .int .i64 p3, .string p4, .bool p5, .int .i64 p6]), (6, .pointer (some ⟨s_, 0, none⟩))]) (fun s_ w' => Bx w w' ((s_, 25, #[.int .i64 0, .int .i64 0, .int .i64 0, .string (⟨#[]⟩ : ByteArray), .bool false, .int .i64 0]) :: [(g3, 25, #[.int .i64 b1, .int .i64 b2, .int .i64 b3, .string b4, .bool b5, .int .i64 b6]), (g2, 25, #[.int .i64 a1, .int .i64 a2, .int .i64 a3, .string a4, .bool a5, .int .i64 a6])])) ?_ (fun hJ2_7 => ?_)
 · skip
   rintro g6 wj BX2
   clear BX
   have BX := BX2
   clear BX2
   refine norm_ (a' := ?_) ?_ ?_
   rotate_left
   · simp only [putAll, Act.put, List.setIfInBounds_toArray, List.set_cons_zero, List.set_cons_succ]
     rfl
   refine two_ (i := 5) (j := 6) (Ni := some 21) (Nj := some 5) #[true, true, true, true, true, true, false, true, false, false] #[true, true, true, true, true, false, true, true, false, false] rfl rfl rfl rfl kr (by decide) (by decide) (fun K hK => ?_) (fun K hK => ?_)
   · skip
     refine goes_ Tryd.func31 kr rfl #[.int .i64 22, .agg #[.int .i64 a1, .int .i64 a2, .int .i64 a3, .string a4, .bool a5, .int .i64 a6], .agg #[.int .i64 b1, .int .i64 b2, .int .i64 b3, .string b4, .bool b5, .int .i64 b6]] (by rfl) rfl rfl ga ?_
     with_reducible refine (value_Bin.calls k 22 a1 a2 a3 a4 a5 a6 b1 b2 b3 b4 b5 b6 n1 n2 n3 n4 n5 n6 _ ?sd3a Hn.out).mono ?_
     (case sd3a => exact HT.out.on bx_bl)
     rintro e wv5 ⟨rfl, hb⟩
     refine ⟨_, rfl, ?_⟩
     replace BX := bx_call hb
     clear hb
     refine hK.out _ _ bxs (fun hHeld => ?_)
     clear hK K hHeld
     refine norm_ (a' := ?_) ?_ ?_
     rotate_left
     · show Act.put _ (some 21) _ = _
       exact nr1
     exact norm_ nrm (hJ2_5_7 g6 _ bxs)
   · skip
     refine bxe1 5 #[.int .i64 0, .int .i64 0, .int .i64 0, .string (⟨#[]⟩ : ByteArray), .bool false, .int .i64 0] 25 rfl rfl gr ?_
     clear BX
     intro g5 wv6 GE_g5 BX
     refine hK.out _ _ bxs (fun hHeld => ?_)
     clear hK K hHeld
     refine norm_ (a' := ?_) ?_ ?_
     rotate_left
     · show Act.put _ (some 5) _ = _
       exact nr1
     exact norm_ nrm (hJ2_6_7 (g5, g6) _ (bxw bxs))
 refine join_ (σ := Nat × Nat) 4 #[true, true, false, true, true, false, true, true, false, false] (fun s_ => [(5, .pointer (some ⟨s_.1, 0, none⟩)), (6, .pointer (some ⟨s_.2, 0, none⟩))]) (fun s_ w' => Bx w w' ((s_.2, 25, #[.int .i64 0, .int .i64 0, .int .i64 0, .string (⟨#[]⟩ : ByteArray), .bool false, .int .i64 0]) :: (s_.1, 25, #[.int .i64 0, .int .i64 0, .int .i64 0, .string (⟨#[]⟩ : ByteArray), .bool false, .int .i64 0]) :: [(g3, 25, #[.int .i64 b1, .int .i64 b2, .int .i64 b3, .string b4, .bool b5, .int .i64 b6]), (g2, 25, #[.int .i64 a1, .int .i64 a2, .int .i64 a3, .string a4, .bool a5, .int .i64 a6])])) ?_ (fun hJ6_7 => ?_)
 · skip
   rintro ⟨g5, g6⟩ wj BX2
   clear BX
   have BX := BX2
   clear BX2
   refine norm_ (a' := ?_) ?_ ?_
   rotate_left
   · simp only [putAll, Act.put, List.setIfInBounds_toArray, List.set_cons_zero, List.set_cons_succ]
     rfl
   refine one_ (i := 2) (N := some 18) #[true, true, true, true, true, false, true, true, false, false] rfl rfl kr (by decide) (fun K hK => ?_)
   refine goes_ Tryd.func31 kr rfl #[.int .i64 21, .agg #[.int .i64 a1, .int .i64 a2, .int .i64 a3, .string a4, .bool a5, .int .i64 a6], .agg #[.int .i64 b1, .int .i64 b2, .int .i64 b3, .string b4, .bool b5, .int .i64 b6]] (by rfl) rfl rfl ga ?_
   with_reducible refine (value_Bin.calls k 21 a1 a2 a3 a4 a5 a6 b1 b2 b3 b4 b5 b6 p1 p2 p3 p4 p5 p6 _ ?sd4a Hp.out).mono ?_
   (case sd4a => exact HT.out.on bx_bl)
   rintro e wv2 ⟨rfl, hb⟩
   refine ⟨_, rfl, ?_⟩
   replace BX := bx_call hb
   clear hb
   refine hK.out _ _ bxs (fun hHeld => ?_)
   clear hK K hHeld
   refine norm_ (a' := ?_) ?_ ?_
   rotate_left
   · show Act.put _ (some 18) _ = _
     exact nr1
   exact norm_ nrm (hJ2_6_7 (g5, g6) _ bxs)
 refine join_ (σ := Unit) 5 #[true, true, true, true, true, false, false, false, false, false] (fun s_ => [(18, .agg #[.int .i64 p1, .int .i64 p2, .int .i64 p3, .string p4, .bool p5, .int .i64 p6])]) (fun s_ w' => Bx w w' ([(g3, 25, #[.int .i64 b1, .int .i64 b2, .int .i64 b3, .string b4, .bool b5, .int .i64 b6]), (g2, 25, #[.int .i64 a1, .int .i64 a2, .int .i64 a3, .string a4, .bool a5, .int .i64 a6])])) ?_ (fun hJ2 => ?_)
 · skip
   rintro _ wj BX2
   clear BX
   have BX := BX2
   clear BX2
   refine norm_ (a' := ?_) ?_ ?_
   rotate_left
   · simp only [putAll, Act.put, List.setIfInBounds_toArray, List.set_cons_zero, List.set_cons_succ]
     rfl
   refine three_ (i := 5) (j := 6) (k := 7) (Ni := some 21) (Nj := some 5) (Nk := some 6) #[true, true, true, true, true, true, false, false, false, false] #[true, true, true, true, true, false, true, false, false, false] #[true, true, true, true, true, false, false, true, false, false] rfl rfl rfl rfl rfl rfl kr (by decide) (by decide) (by decide) (fun K hK => ?_) (fun K hK => ?_) (fun K hK => ?_)
   · skip
     refine goes_ Tryd.func31 kr rfl #[.int .i64 22, .agg #[.int .i64 a1, .int .i64 a2, .int .i64 a3, .string a4, .bool a5, .int .i64 a6], .agg #[.int .i64 b1, .int .i64 b2, .int .i64 b3, .string b4, .bool b5, .int .i64 b6]] (by rfl) rfl rfl ga ?_
     with_reducible refine (value_Bin.calls k 22 a1 a2 a3 a4 a5 a6 b1 b2 b3 b4 b5 b6 n1 n2 n3 n4 n5 n6 _ ?sd5a Hn.out).mono ?_
     (case sd5a => exact HT.out.on bx_bl)
     rintro e wv5 ⟨rfl, hb⟩
     refine ⟨_, rfl, ?_⟩
     replace BX := bx_call hb
     clear hb
     refine hK.out _ _ bxs (fun hHeld => ?_)
     clear hK K hHeld
     refine norm_ (a' := ?_) ?_ ?_
     rotate_left
     · show Act.put _ (some 21) _ = _
       exact nr1
     exact norm_ nrm (hJ2_5 () _ bxs)
   · skip
     refine bxe1 5 #[.int .i64 0, .int .i64 0, .int .i64 0, .string (⟨#[]⟩ : ByteArray), .bool false, .int .i64 0] 25 rfl rfl gr ?_
     clear BX
     intro g5 wv6 GE_g5 BX
     refine hK.out _ _ bxs (fun hHeld => ?_)
     clear hK K hHeld
     refine norm_ (a' := ?_) ?_ ?_
     rotate_left
     · show Act.put _ (some 5) _ = _
       exact nr1
     exact norm_ nrm (hJ2_6 g5 _ bxs)
   · skip
     refine bxe1 6 #[.int .i64 0, .int .i64 0, .int .i64 0, .string (⟨#[]⟩ : ByteArray), .bool false, .int .i64 0] 25 rfl rfl gr ?_
     clear BX
     intro g6 wv7 GE_g6 BX
     refine hK.out _ _ bxs (fun hHeld => ?_)
     clear hK K hHeld
     refine norm_ (a' := ?_) ?_ ?_
     rotate_left
     · show Act.put _ (some 6) _ = _
       exact nr1
     exact norm_ nrm (hJ2_7 g6 _ bxs)
 refine join_ (σ := Nat) 5 #[true, true, false, true, true, false, true, false, false, false] (fun s_ => [(5, .pointer (some ⟨s_, 0, none⟩))]) (fun s_ w' => Bx w w' ((s_, 25, #[.int .i64 0, .int .i64 0, .int .i64 0, .string (⟨#[]⟩ : ByteArray), .bool false, .int .i64 0]) :: [(g3, 25, #[.int .i64 b1, .int .i64 b2, .int .i64 b3, .string b4, .bool b5, .int .i64 b6]), (g2, 25, #[.int .i64 a1, .int .i64 a2, .int .i64 a3, .string a4, .bool a5, .int .i64 a6])])) ?_ (fun hJ6 => ?_)
 · skip
   rintro g5 wj BX2
   clear BX
   have BX := BX2
   clear BX2
   refine norm_ (a' := ?_) ?_ ?_
   rotate_left
   · simp only [putAll, Act.put, List.setIfInBounds_toArray, List.set_cons_zero, List.set_cons_succ]
     rfl
   refine two_ (i := 2) (j := 7) (Ni := some 18) (Nj := some 6) #[true, true, true, true, true, false, true, false, false, false] #[true, true, false, true, true, false, true, true, false, false] rfl rfl rfl rfl kr (by decide) (by decide) (fun K hK => ?_) (fun K hK => ?_)
   · skip
     refine goes_ Tryd.func31 kr rfl #[.int .i64 21, .agg #[.int .i64 a1, .int .i64 a2, .int .i64 a3, .string a4, .bool a5, .int .i64 a6], .agg #[.int .i64 b1, .int .i64 b2, .int .i64 b3, .string b4, .bool b5, .int .i64 b6]] (by rfl) rfl rfl ga ?_
     with_reducible refine (value_Bin.calls k 21 a1 a2 a3 a4 a5 a6 b1 b2 b3 b4 b5 b6 p1 p2 p3 p4 p5 p6 _ ?sd6a Hp.out).mono ?_
     (case sd6a => exact HT.out.on bx_bl)
     rintro e wv2 ⟨rfl, hb⟩
     refine ⟨_, rfl, ?_⟩
     replace BX := bx_call hb
     clear hb
     refine hK.out _ _ bxs (fun hHeld => ?_)
     clear hK K hHeld
     refine norm_ (a' := ?_) ?_ ?_
     rotate_left
     · show Act.put _ (some 18) _ = _
       exact nr1
     exact norm_ nrm (hJ2_6 g5 _ bxs)
   · skip
     refine bxe1 6 #[.int .i64 0, .int .i64 0, .int .i64 0, .string (⟨#[]⟩ : ByteArray), .bool false, .int .i64 0] 25 rfl rfl gr ?_
     clear BX
     intro g6 wv7 GE_g6 BX
     refine hK.out _ _ bxs (fun hHeld => ?_)
     clear hK K hHeld
     refine norm_ (a' := ?_) ?_ ?_
     rotate_left
     · show Act.put _ (some 6) _ = _
       exact nr1
     exact norm_ nrm (hJ6_7 (g5, g6) _ bxs)
 refine join_ (σ := Nat) 5 #[true, true, false, true, true, false, false, true, false, false] (fun s_ => [(6, .pointer (some ⟨s_, 0, none⟩))]) (fun s_ w' => Bx w w' ((s_, 25, #[.int .i64 0, .int .i64 0, .int .i64 0, .string (⟨#[]⟩ : ByteArray), .bool false, .int .i64 0]) :: [(g3, 25, #[.int .i64 b1, .int .i64 b2, .int .i64 b3, .string b4, .bool b5, .int .i64 b6]), (g2, 25, #[.int .i64 a1, .int .i64 a2, .int .i64 a3, .string a4, .bool a5, .int .i64 a6])])) ?_ (fun hJ7 => ?_)
 · skip
   rintro g6 wj BX2
   clear BX
   have BX := BX2
   clear BX2
   refine norm_ (a' := ?_) ?_ ?_
   rotate_left
   · simp only [putAll, Act.put, List.setIfInBounds_toArray, List.set_cons_zero, List.set_cons_succ]
     rfl
   refine two_ (i := 2) (j := 6) (Ni := some 18) (Nj := some 5) #[true, true, true, true, true, false, false, true, false, false] #[true, true, false, true, true, false, true, true, false, false] rfl rfl rfl rfl kr (by decide) (by decide) (fun K hK => ?_) (fun K hK => ?_)
   · skip
     refine goes_ Tryd.func31 kr rfl #[.int .i64 21, .agg #[.int .i64 a1, .int .i64 a2, .int .i64 a3, .string a4, .bool a5, .int .i64 a6], .agg #[.int .i64 b1, .int .i64 b2, .int .i64 b3, .string b4, .bool b5, .int .i64 b6]] (by rfl) rfl rfl ga ?_
     with_reducible refine (value_Bin.calls k 21 a1 a2 a3 a4 a5 a6 b1 b2 b3 b4 b5 b6 p1 p2 p3 p4 p5 p6 _ ?sd7a Hp.out).mono ?_
     (case sd7a => exact HT.out.on bx_bl)
     rintro e wv2 ⟨rfl, hb⟩
     refine ⟨_, rfl, ?_⟩
     replace BX := bx_call hb
     clear hb
     refine hK.out _ _ bxs (fun hHeld => ?_)
     clear hK K hHeld
     refine norm_ (a' := ?_) ?_ ?_
     rotate_left
     · show Act.put _ (some 18) _ = _
       exact nr1
     exact norm_ nrm (hJ2_7 g6 _ bxs)
   · skip
     refine bxe1 5 #[.int .i64 0, .int .i64 0, .int .i64 0, .string (⟨#[]⟩ : ByteArray), .bool false, .int .i64 0] 25 rfl rfl gr ?_
     clear BX
     intro g5 wv6 GE_g5 BX
     refine hK.out _ _ bxs (fun hHeld => ?_)
     clear hK K hHeld
     refine norm_ (a' := ?_) ?_ ?_
     rotate_left
     · show Act.put _ (some 5) _ = _
       exact nr1
     exact norm_ nrm (hJ6_7 (g5, g6) _ (bxw bxs))
 refine three_ (i := 2) (j := 6) (k := 7) (Ni := some 18) (Nj := some 5) (Nk := some 6) #[true, true, true, true, true, false, false, false, false, false] #[true, true, false, true, true, false, true, false, false, false] #[true, true, false, true, true, false, false, true, false, false] rfl rfl rfl rfl rfl rfl kr (by decide) (by decide) (by decide) (fun K hK => ?_) (fun K hK => ?_) (fun K hK => ?_)
 · skip
   refine goes_ Tryd.func31 kr rfl #[.int .i64 21, .agg #[.int .i64 a1, .int .i64 a2, .int .i64 a3, .string a4, .bool a5, .int .i64 a6], .agg #[.int .i64 b1, .int .i64 b2, .int .i64 b3, .string b4, .bool b5, .int .i64 b6]] (by rfl) rfl rfl ga ?_
   with_reducible refine (value_Bin.calls k 21 a1 a2 a3 a4 a5 a6 b1 b2 b3 b4 b5 b6 p1 p2 p3 p4 p5 p6 _ ?sd8a Hp.out).mono ?_
   (case sd8a => exact HT.out.on bx_bl)
   rintro e wv2 ⟨rfl, hb⟩
   refine ⟨_, rfl, ?_⟩
   replace BX := bx_call hb
   clear hb
   refine hK.out _ _ bxs (fun hHeld => ?_)
   clear hK K hHeld
   refine norm_ (a' := ?_) ?_ ?_
   rotate_left
   · show Act.put _ (some 18) _ = _
     exact nr1
   exact norm_ nrm (hJ2 () _ bxs)
 · skip
   refine bxe1 5 #[.int .i64 0, .int .i64 0, .int .i64 0, .string (⟨#[]⟩ : ByteArray), .bool false, .int .i64 0] 25 rfl rfl gr ?_
   clear BX
   intro g5 wv6 GE_g5 BX
   refine hK.out _ _ bxs (fun hHeld => ?_)
   clear hK K hHeld
   refine norm_ (a' := ?_) ?_ ?_
   rotate_left
   · show Act.put _ (some 5) _ = _
     exact nr1
   exact norm_ nrm (hJ6 g5 _ bxs)
 · skip
   refine bxe1 6 #[.int .i64 0, .int .i64 0, .int .i64 0, .string (⟨#[]⟩ : ByteArray), .bool false, .int .i64 0] 25 rfl rfl gr ?_
   clear BX
   intro g6 wv7 GE_g6 BX
   refine hK.out _ _ bxs (fun hHeld => ?_)
   clear hK K hHeld
   refine norm_ (a' := ?_) ?_ ?_
   rotate_left
   · show Act.put _ (some 6) _ = _
     exact nr1
   exact norm_ nrm (hJ7 g6 _ bxs)
 rintro ⟨g5, g6⟩ wj BX2
 clear BX
 have BX := BX2
 clear BX2
 refine norm_ (a' := ?_) ?_ ?_
 rotate_left
 · simp only [putAll, Act.put, List.setIfInBounds_toArray, List.set_cons_zero, List.set_cons_succ]
   rfl
 refine last_ (i := 8) (N := none) #[true, true, true, true, true, true, true, true, true, false] rfl rfl kr (by decide) (fun K hK => ?_)
 refine skip_ (w1 := ?_) (by rfl) rfl ?_ ?_
 rotate_left
 · go_simp
   rfl
 refine hK.out _ _ (name_any fun wq BXq => ?_)
 clear hK K BX
 have BX := BXq
 clear BXq
 refine last_ (i := 9) (N := none) #[true, true, true, true, true, true, true, true, true, true] rfl rfl kr (by decide) (fun K hK => ?_)
 refine skip_ (w1 := ?_) (by rfl) rfl ?_ ?_
 rotate_left
 · go_simp
   rfl
 refine hK.out _ _ (name_any fun wq BXq => ?_)
 clear hK K BX
 have BX := BXq
 clear BXq
 refine done_ kr ?_
 try go_wp2
 refine startb (n := 10) (ds := [8, 9]) #[false, false, false, false, false, false, false, false, false, false] kr rfl rfl (fun BX1 => ?_)
 clear BX
 have BX := BX1
 clear BX1
 skip
 refine take_ (i := 0) (N := some 22) (v := ?_) (a' := ?_) #[true, false, false, false, false, false, false, false, false, false] rfl rfl kr (fun _ _ _ h => h) (Or.inl ⟨by rfl, ?_⟩) bxs ?_ ?_
 rotate_left
 · intro w' hS
   go_simp
   with_reducible rfl
 rotate_left
 · exact nr1
 refine take_ (i := 1) (N := some 23) (v := ?_) (a' := ?_) #[true, true, false, false, false, false, false, false, false, false] rfl rfl kr (fun _ _ _ h => h) (Or.inl ⟨by rfl, ?_⟩) bxs ?_ ?_
 rotate_left
 · intro w' hS
   go_simp
   with_reducible rfl
 rotate_left
 · exact nr1
 refine take_ (i := 3) (N := some 25) (v := ?_) (a' := ?_) #[true, true, false, true, false, false, false, false, false, false] rfl rfl kr (fun _ _ _ h => h) (Or.inl ⟨by rfl, ?_⟩) bxs ?_ ?_
 rotate_left
 · intro w' hS
   go_simp
   with_reducible rfl
 rotate_left
 · exact nr1
 refine take_ (i := 4) (N := some 26) (v := ?_) (a' := ?_) #[true, true, false, true, true, false, false, false, false, false] rfl rfl kr (fun _ _ _ h => h) (Or.inl ⟨by rfl, ?_⟩) bxs ?_ ?_
 rotate_left
 · intro w' hS
   go_simp
   with_reducible rfl
 rotate_left
 · exact nr1
 refine join_ (σ := Nat × Nat) 2 #[true, true, true, true, true, true, true, true, false, false] (fun s_ => [(24, .agg #[.int .i64 s1, .int .i64 s2, .int .i64 s3, .string s4, .bool s5, .int .i64 s6]), (27, .agg #[.int .i64 y1, .int .i64 y2, .int .i64 y3, .string y4, .bool y5, .int .i64 y6]), (7, .pointer (some ⟨s_.1, 0, none⟩)), (8, .pointer (some ⟨s_.2, 0, none⟩))]) (fun s_ w' => Bx w w' ((s_.2, 25, #[.int .i64 0, .int .i64 0, .int .i64 0, .string (⟨#[]⟩ : ByteArray), .bool false, .int .i64 0]) :: (s_.1, 25, #[.int .i64 0, .int .i64 0, .int .i64 0, .string (⟨#[]⟩ : ByteArray), .bool false, .int .i64 0]) :: [(g6, 25, #[.int .i64 n1, .int .i64 n2, .int .i64 n3, .string n4, .bool n5, .int .i64 n6]), (g5, 25, #[.int .i64 p1, .int .i64 p2, .int .i64 p3, .string p4, .bool p5, .int .i64 p6]), (g3, 25, #[.int .i64 b1, .int .i64 b2, .int .i64 b3, .string b4, .bool b5, .int .i64 b6]), (g2, 25, #[.int .i64 a1, .int .i64 a2, .int .i64 a3, .string a4, .bool a5, .int .i64 a6])])) ?_ (fun hJ2_5_6_7 => ?_)
 rotate_left
 refine join_ (σ := Nat) 3 #[true, true, true, true, true, true, true, false, false, false] (fun s_ => [(24, .agg #[.int .i64 s1, .int .i64 s2, .int .i64 s3, .string s4, .bool s5, .int .i64 s6]), (27, .agg #[.int .i64 y1, .int .i64 y2, .int .i64 y3, .string y4, .bool y5, .int .i64 y6]), (7, .pointer (some ⟨s_, 0, none⟩))]) (fun s_ w' => Bx w w' ((s_, 25, #[.int .i64 0, .int .i64 0, .int .i64 0, .string (⟨#[]⟩ : ByteArray), .bool false, .int .i64 0]) :: [(g6, 25, #[.int .i64 n1, .int .i64 n2, .int .i64 n3, .string n4, .bool n5, .int .i64 n6]), (g5, 25, #[.int .i64 p1, .int .i64 p2, .int .i64 p3, .string p4, .bool p5, .int .i64 p6]), (g3, 25, #[.int .i64 b1, .int .i64 b2, .int .i64 b3, .string b4, .bool b5, .int .i64 b6]), (g2, 25, #[.int .i64 a1, .int .i64 a2, .int .i64 a3, .string a4, .bool a5, .int .i64 a6])])) ?_ (fun hJ2_5_6 => ?_)
 · skip
   rintro g7 wj BX2
   clear BX
   have BX := BX2
   clear BX2
   refine norm_ (a' := ?_) ?_ ?_
   rotate_left
   · simp only [putAll, Act.put, List.setIfInBounds_toArray, List.set_cons_zero, List.set_cons_succ]
     rfl
   refine one_ (i := 7) (N := some 8) #[true, true, true, true, true, true, true, true, false, false] rfl rfl kr (by decide) (fun K hK => ?_)
   refine bxe1 8 #[.int .i64 0, .int .i64 0, .int .i64 0, .string (⟨#[]⟩ : ByteArray), .bool false, .int .i64 0] 25 rfl rfl gr ?_
   clear BX
   intro g8 wv7 GE_g8 BX
   refine hK.out _ _ bxs (fun hHeld => ?_)
   clear hK K hHeld
   refine norm_ (a' := ?_) ?_ ?_
   rotate_left
   · show Act.put _ (some 8) _ = _
     exact nr1
   exact norm_ nrm (hJ2_5_6_7 (g7, g8) _ bxs)
 refine join_ (σ := Nat) 3 #[true, true, true, true, true, true, false, true, false, false] (fun s_ => [(24, .agg #[.int .i64 s1, .int .i64 s2, .int .i64 s3, .string s4, .bool s5, .int .i64 s6]), (27, .agg #[.int .i64 y1, .int .i64 y2, .int .i64 y3, .string y4, .bool y5, .int .i64 y6]), (8, .pointer (some ⟨s_, 0, none⟩))]) (fun s_ w' => Bx w w' ((s_, 25, #[.int .i64 0, .int .i64 0, .int .i64 0, .string (⟨#[]⟩ : ByteArray), .bool false, .int .i64 0]) :: [(g6, 25, #[.int .i64 n1, .int .i64 n2, .int .i64 n3, .string n4, .bool n5, .int .i64 n6]), (g5, 25, #[.int .i64 p1, .int .i64 p2, .int .i64 p3, .string p4, .bool p5, .int .i64 p6]), (g3, 25, #[.int .i64 b1, .int .i64 b2, .int .i64 b3, .string b4, .bool b5, .int .i64 b6]), (g2, 25, #[.int .i64 a1, .int .i64 a2, .int .i64 a3, .string a4, .bool a5, .int .i64 a6])])) ?_ (fun hJ2_5_7 => ?_)
 · skip
   rintro g8 wj BX2
   clear BX
   have BX := BX2
   clear BX2
   refine norm_ (a' := ?_) ?_ ?_
   rotate_left
   · simp only [putAll, Act.put, List.setIfInBounds_toArray, List.set_cons_zero, List.set_cons_succ]
     rfl
   refine one_ (i := 6) (N := some 7) #[true, true, true, true, true, true, true, true, false, false] rfl rfl kr (by decide) (fun K hK => ?_)
   refine bxe1 7 #[.int .i64 0, .int .i64 0, .int .i64 0, .string (⟨#[]⟩ : ByteArray), .bool false, .int .i64 0] 25 rfl rfl gr ?_
   clear BX
   intro g7 wv6 GE_g7 BX
   refine hK.out _ _ bxs (fun hHeld => ?_)
   clear hK K hHeld
   refine norm_ (a' := ?_) ?_ ?_
   rotate_left
   · show Act.put _ (some 7) _ = _
     exact nr1
   exact norm_ nrm (hJ2_5_6_7 (g7, g8) _ (bxw bxs))
 refine join_ (σ := Nat × Nat) 3 #[true, true, true, true, true, false, true, true, false, false] (fun s_ => [(24, .agg #[.int .i64 s1, .int .i64 s2, .int .i64 s3, .string s4, .bool s5, .int .i64 s6]), (7, .pointer (some ⟨s_.1, 0, none⟩)), (8, .pointer (some ⟨s_.2, 0, none⟩))]) (fun s_ w' => Bx w w' ((s_.2, 25, #[.int .i64 0, .int .i64 0, .int .i64 0, .string (⟨#[]⟩ : ByteArray), .bool false, .int .i64 0]) :: (s_.1, 25, #[.int .i64 0, .int .i64 0, .int .i64 0, .string (⟨#[]⟩ : ByteArray), .bool false, .int .i64 0]) :: [(g6, 25, #[.int .i64 n1, .int .i64 n2, .int .i64 n3, .string n4, .bool n5, .int .i64 n6]), (g5, 25, #[.int .i64 p1, .int .i64 p2, .int .i64 p3, .string p4, .bool p5, .int .i64 p6]), (g3, 25, #[.int .i64 b1, .int .i64 b2, .int .i64 b3, .string b4, .bool b5, .int .i64 b6]), (g2, 25, #[.int .i64 a1, .int .i64 a2, .int .i64 a3, .string a4, .bool a5, .int .i64 a6])])) ?_ (fun hJ2_6_7 => ?_)
 · skip
   rintro ⟨g7, g8⟩ wj BX2
   clear BX
   have BX := BX2
   clear BX2
   refine norm_ (a' := ?_) ?_ ?_
   rotate_left
   · simp only [putAll, Act.put, List.setIfInBounds_toArray, List.set_cons_zero, List.set_cons_succ]
     rfl
   refine one_ (i := 5) (N := some 27) #[true, true, true, true, true, true, true, true, false, false] rfl rfl kr (by decide) (fun K hK => ?_)
   refine goes_ Tryd.func31 kr rfl #[.int .i64 26, .agg #[.int .i64 a1, .int .i64 a2, .int .i64 a3, .string a4, .bool a5, .int .i64 a6], .agg #[.int .i64 b1, .int .i64 b2, .int .i64 b3, .string b4, .bool b5, .int .i64 b6]] (by rfl) rfl rfl ga ?_
   with_reducible refine (value_Bin.calls k 26 a1 a2 a3 a4 a5 a6 b1 b2 b3 b4 b5 b6 y1 y2 y3 y4 y5 y6 _ ?sd9a Hy.out).mono ?_
   (case sd9a => exact HT.out.on bx_bl)
   rintro e wv5 ⟨rfl, hb⟩
   refine ⟨_, rfl, ?_⟩
   replace BX := bx_call hb
   clear hb
   refine hK.out _ _ bxs (fun hHeld => ?_)
   clear hK K hHeld
   refine norm_ (a' := ?_) ?_ ?_
   rotate_left
   · show Act.put _ (some 27) _ = _
     exact nr1
   exact norm_ nrm (hJ2_5_6_7 (g7, g8) _ bxs)
 refine join_ (σ := Unit) 4 #[true, true, true, true, true, true, false, false, false, false] (fun s_ => [(24, .agg #[.int .i64 s1, .int .i64 s2, .int .i64 s3, .string s4, .bool s5, .int .i64 s6]), (27, .agg #[.int .i64 y1, .int .i64 y2, .int .i64 y3, .string y4, .bool y5, .int .i64 y6])]) (fun s_ w' => Bx w w' ([(g6, 25, #[.int .i64 n1, .int .i64 n2, .int .i64 n3, .string n4, .bool n5, .int .i64 n6]), (g5, 25, #[.int .i64 p1, .int .i64 p2, .int .i64 p3, .string p4, .bool p5, .int .i64 p6]), (g3, 25, #[.int .i64 b1, .int .i64 b2, .int .i64 b3, .string b4, .bool b5, .int .i64 b6]), (g2, 25, #[.int .i64 a1, .int .i64 a2, .int .i64 a3, .string a4, .bool a5, .int .i64 a6])])) ?_ (fun hJ2_5 => ?_)
 · skip
   rintro _ wj BX2
   clear BX
   have BX := BX2
   clear BX2
   refine norm_ (a' := ?_) ?_ ?_
   rotate_left
   · simp only [putAll, Act.put, List.setIfInBounds_toArray, List.set_cons_zero, List.set_cons_succ]
     rfl
   refine two_ (i := 6) (j := 7) (Ni := some 7) (Nj := some 8) #[true, true, true, true, true, true, true, false, false, false] #[true, true, true, true, true, true, false, true, false, false] rfl rfl rfl rfl kr (by decide) (by decide) (fun K hK => ?_) (fun K hK => ?_)
   · skip
     refine bxe1 7 #[.int .i64 0, .int .i64 0, .int .i64 0, .string (⟨#[]⟩ : ByteArray), .bool false, .int .i64 0] 25 rfl rfl gr ?_
     clear BX
     intro g7 wv6 GE_g7 BX
     refine hK.out _ _ bxs (fun hHeld => ?_)
     clear hK K hHeld
     refine norm_ (a' := ?_) ?_ ?_
     rotate_left
     · show Act.put _ (some 7) _ = _
       exact nr1
     exact norm_ nrm (hJ2_5_6 g7 _ bxs)
   · skip
     refine bxe1 8 #[.int .i64 0, .int .i64 0, .int .i64 0, .string (⟨#[]⟩ : ByteArray), .bool false, .int .i64 0] 25 rfl rfl gr ?_
     clear BX
     intro g8 wv7 GE_g8 BX
     refine hK.out _ _ bxs (fun hHeld => ?_)
     clear hK K hHeld
     refine norm_ (a' := ?_) ?_ ?_
     rotate_left
     · show Act.put _ (some 8) _ = _
       exact nr1
     exact norm_ nrm (hJ2_5_7 g8 _ bxs)
 refine join_ (σ := Nat) 4 #[true, true, true, true, true, false, true, false, false, false] (fun s_ => [(24, .agg #[.int .i64 s1, .int .i64 s2, .int .i64 s3, .string s4, .bool s5, .int .i64 s6]), (7, .pointer (some ⟨s_, 0, none⟩))]) (fun s_ w' => Bx w w' ((s_, 25, #[.int .i64 0, .int .i64 0, .int .i64 0, .string (⟨#[]⟩ : ByteArray), .bool false, .int .i64 0]) :: [(g6, 25, #[.int .i64 n1, .int .i64 n2, .int .i64 n3, .string n4, .bool n5, .int .i64 n6]), (g5, 25, #[.int .i64 p1, .int .i64 p2, .int .i64 p3, .string p4, .bool p5, .int .i64 p6]), (g3, 25, #[.int .i64 b1, .int .i64 b2, .int .i64 b3, .string b4, .bool b5, .int .i64 b6]), (g2, 25, #[.int .i64 a1, .int .i64 a2, .int .i64 a3, .string a4, .bool a5, .int .i64 a6])])) ?_ (fun hJ2_6 => ?_)
 · skip
   rintro g7 wj BX2
   clear BX
   have BX := BX2
   clear BX2
   refine norm_ (a' := ?_) ?_ ?_
   rotate_left
   · simp only [putAll, Act.put, List.setIfInBounds_toArray, List.set_cons_zero, List.set_cons_succ]
     rfl
   refine two_ (i := 5) (j := 7) (Ni := some 27) (Nj := some 8) #[true, true, true, true, true, true, true, false, false, false] #[true, true, true, true, true, false, true, true, false, false] rfl rfl rfl rfl kr (by decide) (by decide) (fun K hK => ?_) (fun K hK => ?_)
   · skip
     refine goes_ Tryd.func31 kr rfl #[.int .i64 26, .agg #[.int .i64 a1, .int .i64 a2, .int .i64 a3, .string a4, .bool a5, .int .i64 a6], .agg #[.int .i64 b1, .int .i64 b2, .int .i64 b3, .string b4, .bool b5, .int .i64 b6]] (by rfl) rfl rfl ga ?_
     with_reducible refine (value_Bin.calls k 26 a1 a2 a3 a4 a5 a6 b1 b2 b3 b4 b5 b6 y1 y2 y3 y4 y5 y6 _ ?sd10a Hy.out).mono ?_
     (case sd10a => exact HT.out.on bx_bl)
     rintro e wv5 ⟨rfl, hb⟩
     refine ⟨_, rfl, ?_⟩
     replace BX := bx_call hb
     clear hb
     refine hK.out _ _ bxs (fun hHeld => ?_)
     clear hK K hHeld
     refine norm_ (a' := ?_) ?_ ?_
     rotate_left
     · show Act.put _ (some 27) _ = _
       exact nr1
     exact norm_ nrm (hJ2_5_6 g7 _ bxs)
   · skip
     refine bxe1 8 #[.int .i64 0, .int .i64 0, .int .i64 0, .string (⟨#[]⟩ : ByteArray), .bool false, .int .i64 0] 25 rfl rfl gr ?_
     clear BX
     intro g8 wv7 GE_g8 BX
     refine hK.out _ _ bxs (fun hHeld => ?_)
     clear hK K hHeld
     refine norm_ (a' := ?_) ?_ ?_
     rotate_left
     · show Act.put _ (some 8) _ = _
       exact nr1
     exact norm_ nrm (hJ2_6_7 (g7, g8) _ bxs)
 refine join_ (σ := Nat) 4 #[true, true, true, true, true, false, false, true, false, false] (fun s_ => [(24, .agg #[.int .i64 s1, .int .i64 s2, .int .i64 s3, .string s4, .bool s5, .int .i64 s6]), (8, .pointer (some ⟨s_, 0, none⟩))]) (fun s_ w' => Bx w w' ((s_, 25, #[.int .i64 0, .int .i64 0, .int .i64 0, .string (⟨#[]⟩ : ByteArray), .bool false, .int .i64 0]) :: [(g6, 25, #[.int .i64 n1, .int .i64 n2, .int .i64 n3, .string n4, .bool n5, .int .i64 n6]), (g5, 25, #[.int .i64 p1, .int .i64 p2, .int .i64 p3, .string p4, .bool p5, .int .i64 p6]), (g3, 25, #[.int .i64 b1, .int .i64 b2, .int .i64 b3, .string b4, .bool b5, .int .i64 b6]), (g2, 25, #[.int .i64 a1, .int .i64 a2, .int .i64 a3, .string a4, .bool a5, .int .i64 a6])])) ?_ (fun hJ2_7 => ?_)
 · skip
   rintro g8 wj BX2
   clear BX
   have BX := BX2
   clear BX2
   refine norm_ (a' := ?_) ?_ ?_
   rotate_left
   · simp only [putAll, Act.put, List.setIfInBounds_toArray, List.set_cons_zero, List.set_cons_succ]
     rfl
   refine two_ (i := 5) (j := 6) (Ni := some 27) (Nj := some 7) #[true, true, true, true, true, true, false, true, false, false] #[true, true, true, true, true, false, true, true, false, false] rfl rfl rfl rfl kr (by decide) (by decide) (fun K hK => ?_) (fun K hK => ?_)
   · skip
     refine goes_ Tryd.func31 kr rfl #[.int .i64 26, .agg #[.int .i64 a1, .int .i64 a2, .int .i64 a3, .string a4, .bool a5, .int .i64 a6], .agg #[.int .i64 b1, .int .i64 b2, .int .i64 b3, .string b4, .bool b5, .int .i64 b6]] (by rfl) rfl rfl ga ?_
     with_reducible refine (value_Bin.calls k 26 a1 a2 a3 a4 a5 a6 b1 b2 b3 b4 b5 b6 y1 y2 y3 y4 y5 y6 _ ?sd11a Hy.out).mono ?_
     (case sd11a => exact HT.out.on bx_bl)
     rintro e wv5 ⟨rfl, hb⟩
     refine ⟨_, rfl, ?_⟩
     replace BX := bx_call hb
     clear hb
     refine hK.out _ _ bxs (fun hHeld => ?_)
     clear hK K hHeld
     refine norm_ (a' := ?_) ?_ ?_
     rotate_left
     · show Act.put _ (some 27) _ = _
       exact nr1
     exact norm_ nrm (hJ2_5_7 g8 _ bxs)
   · skip
     refine bxe1 7 #[.int .i64 0, .int .i64 0, .int .i64 0, .string (⟨#[]⟩ : ByteArray), .bool false, .int .i64 0] 25 rfl rfl gr ?_
     clear BX
     intro g7 wv6 GE_g7 BX
     refine hK.out _ _ bxs (fun hHeld => ?_)
     clear hK K hHeld
     refine norm_ (a' := ?_) ?_ ?_
     rotate_left
     · show Act.put _ (some 7) _ = _
       exact nr1
     exact norm_ nrm (hJ2_6_7 (g7, g8) _ (bxw bxs))
 refine join_ (σ := Nat × Nat) 4 #[true, true, false, true, true, false, true, true, false, false] (fun s_ => [(7, .pointer (some ⟨s_.1, 0, none⟩)), (8, .pointer (some ⟨s_.2, 0, none⟩))]) (fun s_ w' => Bx w w' ((s_.2, 25, #[.int .i64 0, .int .i64 0, .int .i64 0, .string (⟨#[]⟩ : ByteArray), .bool false, .int .i64 0]) :: (s_.1, 25, #[.int .i64 0, .int .i64 0, .int .i64 0, .string (⟨#[]⟩ : ByteArray), .bool false, .int .i64 0]) :: [(g6, 25, #[.int .i64 n1, .int .i64 n2, .int .i64 n3, .string n4, .bool n5, .int .i64 n6]), (g5, 25, #[.int .i64 p1, .int .i64 p2, .int .i64 p3, .string p4, .bool p5, .int .i64 p6]), (g3, 25, #[.int .i64 b1, .int .i64 b2, .int .i64 b3, .string b4, .bool b5, .int .i64 b6]), (g2, 25, #[.int .i64 a1, .int .i64 a2, .int .i64 a3, .string a4, .bool a5, .int .i64 a6])])) ?_ (fun hJ6_7 => ?_)
 · skip
   rintro ⟨g7, g8⟩ wj BX2
   clear BX
   have BX := BX2
   clear BX2
   refine norm_ (a' := ?_) ?_ ?_
   rotate_left
   · simp only [putAll, Act.put, List.setIfInBounds_toArray, List.set_cons_zero, List.set_cons_succ]
     rfl
   refine one_ (i := 2) (N := some 24) #[true, true, true, true, true, false, true, true, false, false] rfl rfl kr (by decide) (fun K hK => ?_)
   refine goes_ Tryd.func31 kr rfl #[.int .i64 23, .agg #[.int .i64 a1, .int .i64 a2, .int .i64 a3, .string a4, .bool a5, .int .i64 a6], .agg #[.int .i64 b1, .int .i64 b2, .int .i64 b3, .string b4, .bool b5, .int .i64 b6]] (by rfl) rfl rfl ga ?_
   with_reducible refine (value_Bin.calls k 23 a1 a2 a3 a4 a5 a6 b1 b2 b3 b4 b5 b6 s1 s2 s3 s4 s5 s6 _ ?sd12a Hs.out).mono ?_
   (case sd12a => exact HT.out.on bx_bl)
   rintro e wv2 ⟨rfl, hb⟩
   refine ⟨_, rfl, ?_⟩
   replace BX := bx_call hb
   clear hb
   refine hK.out _ _ bxs (fun hHeld => ?_)
   clear hK K hHeld
   refine norm_ (a' := ?_) ?_ ?_
   rotate_left
   · show Act.put _ (some 24) _ = _
     exact nr1
   exact norm_ nrm (hJ2_6_7 (g7, g8) _ bxs)
 refine join_ (σ := Unit) 5 #[true, true, true, true, true, false, false, false, false, false] (fun s_ => [(24, .agg #[.int .i64 s1, .int .i64 s2, .int .i64 s3, .string s4, .bool s5, .int .i64 s6])]) (fun s_ w' => Bx w w' ([(g6, 25, #[.int .i64 n1, .int .i64 n2, .int .i64 n3, .string n4, .bool n5, .int .i64 n6]), (g5, 25, #[.int .i64 p1, .int .i64 p2, .int .i64 p3, .string p4, .bool p5, .int .i64 p6]), (g3, 25, #[.int .i64 b1, .int .i64 b2, .int .i64 b3, .string b4, .bool b5, .int .i64 b6]), (g2, 25, #[.int .i64 a1, .int .i64 a2, .int .i64 a3, .string a4, .bool a5, .int .i64 a6])])) ?_ (fun hJ2 => ?_)
 · skip
   rintro _ wj BX2
   clear BX
   have BX := BX2
   clear BX2
   refine norm_ (a' := ?_) ?_ ?_
   rotate_left
   · simp only [putAll, Act.put, List.setIfInBounds_toArray, List.set_cons_zero, List.set_cons_succ]
     rfl
   refine three_ (i := 5) (j := 6) (k := 7) (Ni := some 27) (Nj := some 7) (Nk := some 8) #[true, true, true, true, true, true, false, false, false, false] #[true, true, true, true, true, false, true, false, false, false] #[true, true, true, true, true, false, false, true, false, false] rfl rfl rfl rfl rfl rfl kr (by decide) (by decide) (by decide) (fun K hK => ?_) (fun K hK => ?_) (fun K hK => ?_)
   · skip
     refine goes_ Tryd.func31 kr rfl #[.int .i64 26, .agg #[.int .i64 a1, .int .i64 a2, .int .i64 a3, .string a4, .bool a5, .int .i64 a6], .agg #[.int .i64 b1, .int .i64 b2, .int .i64 b3, .string b4, .bool b5, .int .i64 b6]] (by rfl) rfl rfl ga ?_
     with_reducible refine (value_Bin.calls k 26 a1 a2 a3 a4 a5 a6 b1 b2 b3 b4 b5 b6 y1 y2 y3 y4 y5 y6 _ ?sd13a Hy.out).mono ?_
     (case sd13a => exact HT.out.on bx_bl)
     rintro e wv5 ⟨rfl, hb⟩
     refine ⟨_, rfl, ?_⟩
     replace BX := bx_call hb
     clear hb
     refine hK.out _ _ bxs (fun hHeld => ?_)
     clear hK K hHeld
     refine norm_ (a' := ?_) ?_ ?_
     rotate_left
     · show Act.put _ (some 27) _ = _
       exact nr1
     exact norm_ nrm (hJ2_5 () _ bxs)
   · skip
     refine bxe1 7 #[.int .i64 0, .int .i64 0, .int .i64 0, .string (⟨#[]⟩ : ByteArray), .bool false, .int .i64 0] 25 rfl rfl gr ?_
     clear BX
     intro g7 wv6 GE_g7 BX
     refine hK.out _ _ bxs (fun hHeld => ?_)
     clear hK K hHeld
     refine norm_ (a' := ?_) ?_ ?_
     rotate_left
     · show Act.put _ (some 7) _ = _
       exact nr1
     exact norm_ nrm (hJ2_6 g7 _ bxs)
   · skip
     refine bxe1 8 #[.int .i64 0, .int .i64 0, .int .i64 0, .string (⟨#[]⟩ : ByteArray), .bool false, .int .i64 0] 25 rfl rfl gr ?_
     clear BX
     intro g8 wv7 GE_g8 BX
     refine hK.out _ _ bxs (fun hHeld => ?_)
     clear hK K hHeld
     refine norm_ (a' := ?_) ?_ ?_
     rotate_left
     · show Act.put _ (some 8) _ = _
       exact nr1
     exact norm_ nrm (hJ2_7 g8 _ bxs)
 refine join_ (σ := Nat) 5 #[true, true, false, true, true, false, true, false, false, false] (fun s_ => [(7, .pointer (some ⟨s_, 0, none⟩))]) (fun s_ w' => Bx w w' ((s_, 25, #[.int .i64 0, .int .i64 0, .int .i64 0, .string (⟨#[]⟩ : ByteArray), .bool false, .int .i64 0]) :: [(g6, 25, #[.int .i64 n1, .int .i64 n2, .int .i64 n3, .string n4, .bool n5, .int .i64 n6]), (g5, 25, #[.int .i64 p1, .int .i64 p2, .int .i64 p3, .string p4, .bool p5, .int .i64 p6]), (g3, 25, #[.int .i64 b1, .int .i64 b2, .int .i64 b3, .string b4, .bool b5, .int .i64 b6]), (g2, 25, #[.int .i64 a1, .int .i64 a2, .int .i64 a3, .string a4, .bool a5, .int .i64 a6])])) ?_ (fun hJ6 => ?_)
 · skip
   rintro g7 wj BX2
   clear BX
   have BX := BX2
   clear BX2
   refine norm_ (a' := ?_) ?_ ?_
   rotate_left
   · simp only [putAll, Act.put, List.setIfInBounds_toArray, List.set_cons_zero, List.set_cons_succ]
     rfl
   refine two_ (i := 2) (j := 7) (Ni := some 24) (Nj := some 8) #[true, true, true, true, true, false, true, false, false, false] #[true, true, false, true, true, false, true, true, false, false] rfl rfl rfl rfl kr (by decide) (by decide) (fun K hK => ?_) (fun K hK => ?_)
   · skip
     refine goes_ Tryd.func31 kr rfl #[.int .i64 23, .agg #[.int .i64 a1, .int .i64 a2, .int .i64 a3, .string a4, .bool a5, .int .i64 a6], .agg #[.int .i64 b1, .int .i64 b2, .int .i64 b3, .string b4, .bool b5, .int .i64 b6]] (by rfl) rfl rfl ga ?_
     with_reducible refine (value_Bin.calls k 23 a1 a2 a3 a4 a5 a6 b1 b2 b3 b4 b5 b6 s1 s2 s3 s4 s5 s6 _ ?sd14a Hs.out).mono ?_
     (case sd14a => exact HT.out.on bx_bl)
     rintro e wv2 ⟨rfl, hb⟩
     refine ⟨_, rfl, ?_⟩
     replace BX := bx_call hb
     clear hb
     refine hK.out _ _ bxs (fun hHeld => ?_)
     clear hK K hHeld
     refine norm_ (a' := ?_) ?_ ?_
     rotate_left
     · show Act.put _ (some 24) _ = _
       exact nr1
     exact norm_ nrm (hJ2_6 g7 _ bxs)
   · skip
     refine bxe1 8 #[.int .i64 0, .int .i64 0, .int .i64 0, .string (⟨#[]⟩ : ByteArray), .bool false, .int .i64 0] 25 rfl rfl gr ?_
     clear BX
     intro g8 wv7 GE_g8 BX
     refine hK.out _ _ bxs (fun hHeld => ?_)
     clear hK K hHeld
     refine norm_ (a' := ?_) ?_ ?_
     rotate_left
     · show Act.put _ (some 8) _ = _
       exact nr1
     exact norm_ nrm (hJ6_7 (g7, g8) _ bxs)
 refine join_ (σ := Nat) 5 #[true, true, false, true, true, false, false, true, false, false] (fun s_ => [(8, .pointer (some ⟨s_, 0, none⟩))]) (fun s_ w' => Bx w w' ((s_, 25, #[.int .i64 0, .int .i64 0, .int .i64 0, .string (⟨#[]⟩ : ByteArray), .bool false, .int .i64 0]) :: [(g6, 25, #[.int .i64 n1, .int .i64 n2, .int .i64 n3, .string n4, .bool n5, .int .i64 n6]), (g5, 25, #[.int .i64 p1, .int .i64 p2, .int .i64 p3, .string p4, .bool p5, .int .i64 p6]), (g3, 25, #[.int .i64 b1, .int .i64 b2, .int .i64 b3, .string b4, .bool b5, .int .i64 b6]), (g2, 25, #[.int .i64 a1, .int .i64 a2, .int .i64 a3, .string a4, .bool a5, .int .i64 a6])])) ?_ (fun hJ7 => ?_)
 · skip
   rintro g8 wj BX2
   clear BX
   have BX := BX2
   clear BX2
   refine norm_ (a' := ?_) ?_ ?_
   rotate_left
   · simp only [putAll, Act.put, List.setIfInBounds_toArray, List.set_cons_zero, List.set_cons_succ]
     rfl
   refine two_ (i := 2) (j := 6) (Ni := some 24) (Nj := some 7) #[true, true, true, true, true, false, false, true, false, false] #[true, true, false, true, true, false, true, true, false, false] rfl rfl rfl rfl kr (by decide) (by decide) (fun K hK => ?_) (fun K hK => ?_)
   · skip
     refine goes_ Tryd.func31 kr rfl #[.int .i64 23, .agg #[.int .i64 a1, .int .i64 a2, .int .i64 a3, .string a4, .bool a5, .int .i64 a6], .agg #[.int .i64 b1, .int .i64 b2, .int .i64 b3, .string b4, .bool b5, .int .i64 b6]] (by rfl) rfl rfl ga ?_
     with_reducible refine (value_Bin.calls k 23 a1 a2 a3 a4 a5 a6 b1 b2 b3 b4 b5 b6 s1 s2 s3 s4 s5 s6 _ ?sd15a Hs.out).mono ?_
     (case sd15a => exact HT.out.on bx_bl)
     rintro e wv2 ⟨rfl, hb⟩
     refine ⟨_, rfl, ?_⟩
     replace BX := bx_call hb
     clear hb
     refine hK.out _ _ bxs (fun hHeld => ?_)
     clear hK K hHeld
     refine norm_ (a' := ?_) ?_ ?_
     rotate_left
     · show Act.put _ (some 24) _ = _
       exact nr1
     exact norm_ nrm (hJ2_7 g8 _ bxs)
   · skip
     refine bxe1 7 #[.int .i64 0, .int .i64 0, .int .i64 0, .string (⟨#[]⟩ : ByteArray), .bool false, .int .i64 0] 25 rfl rfl gr ?_
     clear BX
     intro g7 wv6 GE_g7 BX
     refine hK.out _ _ bxs (fun hHeld => ?_)
     clear hK K hHeld
     refine norm_ (a' := ?_) ?_ ?_
     rotate_left
     · show Act.put _ (some 7) _ = _
       exact nr1
     exact norm_ nrm (hJ6_7 (g7, g8) _ (bxw bxs))
 refine three_ (i := 2) (j := 6) (k := 7) (Ni := some 24) (Nj := some 7) (Nk := some 8) #[true, true, true, true, true, false, false, false, false, false] #[true, true, false, true, true, false, true, false, false, false] #[true, true, false, true, true, false, false, true, false, false] rfl rfl rfl rfl rfl rfl kr (by decide) (by decide) (by decide) (fun K hK => ?_) (fun K hK => ?_) (fun K hK => ?_)
 · skip
   refine goes_ Tryd.func31 kr rfl #[.int .i64 23, .agg #[.int .i64 a1, .int .i64 a2, .int .i64 a3, .string a4, .bool a5, .int .i64 a6], .agg #[.int .i64 b1, .int .i64 b2, .int .i64 b3, .string b4, .bool b5, .int .i64 b6]] (by rfl) rfl rfl ga ?_
   with_reducible refine (value_Bin.calls k 23 a1 a2 a3 a4 a5 a6 b1 b2 b3 b4 b5 b6 s1 s2 s3 s4 s5 s6 _ ?sd16a Hs.out).mono ?_
   (case sd16a => exact HT.out.on bx_bl)
   rintro e wv2 ⟨rfl, hb⟩
   refine ⟨_, rfl, ?_⟩
   replace BX := bx_call hb
   clear hb
   refine hK.out _ _ bxs (fun hHeld => ?_)
   clear hK K hHeld
   refine norm_ (a' := ?_) ?_ ?_
   rotate_left
   · show Act.put _ (some 24) _ = _
     exact nr1
   exact norm_ nrm (hJ2 () _ bxs)
 · skip
   refine bxe1 7 #[.int .i64 0, .int .i64 0, .int .i64 0, .string (⟨#[]⟩ : ByteArray), .bool false, .int .i64 0] 25 rfl rfl gr ?_
   clear BX
   intro g7 wv6 GE_g7 BX
   refine hK.out _ _ bxs (fun hHeld => ?_)
   clear hK K hHeld
   refine norm_ (a' := ?_) ?_ ?_
   rotate_left
   · show Act.put _ (some 7) _ = _
     exact nr1
   exact norm_ nrm (hJ6 g7 _ bxs)
 · skip
   refine bxe1 8 #[.int .i64 0, .int .i64 0, .int .i64 0, .string (⟨#[]⟩ : ByteArray), .bool false, .int .i64 0] 25 rfl rfl gr ?_
   clear BX
   intro g8 wv7 GE_g8 BX
   refine hK.out _ _ bxs (fun hHeld => ?_)
   clear hK K hHeld
   refine norm_ (a' := ?_) ?_ ?_
   rotate_left
   · show Act.put _ (some 8) _ = _
     exact nr1
   exact norm_ nrm (hJ7 g8 _ bxs)
 rintro ⟨g7, g8⟩ wj BX2
 clear BX
 have BX := BX2
 clear BX2
 refine norm_ (a' := ?_) ?_ ?_
 rotate_left
 · simp only [putAll, Act.put, List.setIfInBounds_toArray, List.set_cons_zero, List.set_cons_succ]
   rfl
 refine last_ (i := 8) (N := none) #[true, true, true, true, true, true, true, true, true, false] rfl rfl kr (by decide) (fun K hK => ?_)
 refine skip_ (w1 := ?_) (by rfl) rfl ?_ ?_
 rotate_left
 · go_simp
   rfl
 refine hK.out _ _ (name_any fun wq BXq => ?_)
 clear hK K BX
 have BX := BXq
 clear BXq
 refine last_ (i := 9) (N := none) #[true, true, true, true, true, true, true, true, true, true] rfl rfl kr (by decide) (fun K hK => ?_)
 refine skip_ (w1 := ?_) (by rfl) rfl ?_ ?_
 rotate_left
 · go_simp
   rfl
 refine hK.out _ _ (name_any fun wq BXq => ?_)
 clear hK K BX
 have BX := BXq
 clear BXq
 refine done_ kr ?_
 try go_wp2
 refine startb (n := 10) (ds := [8, 9]) #[false, false, false, false, false, false, false, false, false, false] kr rfl rfl (fun BX1 => ?_)
 clear BX
 have BX := BX1
 clear BX1
 skip
 refine take_ (i := 0) (N := some 28) (v := ?_) (a' := ?_) #[true, false, false, false, false, false, false, false, false, false] rfl rfl kr (fun _ _ _ h => h) (Or.inl ⟨by rfl, ?_⟩) bxs ?_ ?_
 rotate_left
 · intro w' hS
   go_simp
   with_reducible rfl
 rotate_left
 · exact nr1
 refine take_ (i := 1) (N := some 29) (v := ?_) (a' := ?_) #[true, true, false, false, false, false, false, false, false, false] rfl rfl kr (fun _ _ _ h => h) (Or.inl ⟨by rfl, ?_⟩) bxs ?_ ?_
 rotate_left
 · intro w' hS
   go_simp
   with_reducible rfl
 rotate_left
 · exact nr1
 refine take_ (i := 3) (N := some 31) (v := ?_) (a' := ?_) #[true, true, false, true, false, false, false, false, false, false] rfl rfl kr (fun _ _ _ h => h) (Or.inl ⟨by rfl, ?_⟩) bxs ?_ ?_
 rotate_left
 · intro w' hS
   go_simp
   with_reducible rfl
 rotate_left
 · exact nr1
 refine take_ (i := 4) (N := some 32) (v := ?_) (a' := ?_) #[true, true, false, true, true, false, false, false, false, false] rfl rfl kr (fun _ _ _ h => h) (Or.inl ⟨by rfl, ?_⟩) bxs ?_ ?_
 rotate_left
 · intro w' hS
   go_simp
   with_reducible rfl
 rotate_left
 · exact nr1
 refine join_ (σ := Nat × Nat) 2 #[true, true, true, true, true, true, true, true, false, false] (fun s_ => [(30, .agg #[.int .i64 u1, .int .i64 u2, .int .i64 u3, .string u4, .bool u5, .int .i64 u6]), (33, .agg #[.int .i64 v1, .int .i64 v2, .int .i64 v3, .string v4, .bool v5, .int .i64 v6]), (9, .pointer (some ⟨s_.1, 0, none⟩)), (10, .pointer (some ⟨s_.2, 0, none⟩))]) (fun s_ w' => Bx w w' ((s_.2, 25, #[.int .i64 0, .int .i64 0, .int .i64 0, .string (⟨#[]⟩ : ByteArray), .bool false, .int .i64 0]) :: (s_.1, 25, #[.int .i64 0, .int .i64 0, .int .i64 0, .string (⟨#[]⟩ : ByteArray), .bool false, .int .i64 0]) :: [(g8, 25, #[.int .i64 y1, .int .i64 y2, .int .i64 y3, .string y4, .bool y5, .int .i64 y6]), (g7, 25, #[.int .i64 s1, .int .i64 s2, .int .i64 s3, .string s4, .bool s5, .int .i64 s6]), (g6, 25, #[.int .i64 n1, .int .i64 n2, .int .i64 n3, .string n4, .bool n5, .int .i64 n6]), (g5, 25, #[.int .i64 p1, .int .i64 p2, .int .i64 p3, .string p4, .bool p5, .int .i64 p6]), (g3, 25, #[.int .i64 b1, .int .i64 b2, .int .i64 b3, .string b4, .bool b5, .int .i64 b6]), (g2, 25, #[.int .i64 a1, .int .i64 a2, .int .i64 a3, .string a4, .bool a5, .int .i64 a6])])) ?_ (fun hJ2_5_6_7 => ?_)
 rotate_left
 refine join_ (σ := Nat) 3 #[true, true, true, true, true, true, true, false, false, false] (fun s_ => [(30, .agg #[.int .i64 u1, .int .i64 u2, .int .i64 u3, .string u4, .bool u5, .int .i64 u6]), (33, .agg #[.int .i64 v1, .int .i64 v2, .int .i64 v3, .string v4, .bool v5, .int .i64 v6]), (9, .pointer (some ⟨s_, 0, none⟩))]) (fun s_ w' => Bx w w' ((s_, 25, #[.int .i64 0, .int .i64 0, .int .i64 0, .string (⟨#[]⟩ : ByteArray), .bool false, .int .i64 0]) :: [(g8, 25, #[.int .i64 y1, .int .i64 y2, .int .i64 y3, .string y4, .bool y5, .int .i64 y6]), (g7, 25, #[.int .i64 s1, .int .i64 s2, .int .i64 s3, .string s4, .bool s5, .int .i64 s6]), (g6, 25, #[.int .i64 n1, .int .i64 n2, .int .i64 n3, .string n4, .bool n5, .int .i64 n6]), (g5, 25, #[.int .i64 p1, .int .i64 p2, .int .i64 p3, .string p4, .bool p5, .int .i64 p6]), (g3, 25, #[.int .i64 b1, .int .i64 b2, .int .i64 b3, .string b4, .bool b5, .int .i64 b6]), (g2, 25, #[.int .i64 a1, .int .i64 a2, .int .i64 a3, .string a4, .bool a5, .int .i64 a6])])) ?_ (fun hJ2_5_6 => ?_)
 · skip
   rintro g9 wj BX2
   clear BX
   have BX := BX2
   clear BX2
   refine norm_ (a' := ?_) ?_ ?_
   rotate_left
   · simp only [putAll, Act.put, List.setIfInBounds_toArray, List.set_cons_zero, List.set_cons_succ]
     rfl
   refine one_ (i := 7) (N := some 10) #[true, true, true, true, true, true, true, true, false, false] rfl rfl kr (by decide) (fun K hK => ?_)
   refine bxe1 10 #[.int .i64 0, .int .i64 0, .int .i64 0, .string (⟨#[]⟩ : ByteArray), .bool false, .int .i64 0] 25 rfl rfl gr ?_
   clear BX
   intro g10 wv7 GE_g10 BX
   refine hK.out _ _ bxs (fun hHeld => ?_)
   clear hK K hHeld
   refine norm_ (a' := ?_) ?_ ?_
   rotate_left
   · show Act.put _ (some 10) _ = _
     exact nr1
   exact norm_ nrm (hJ2_5_6_7 (g9, g10) _ bxs)
 refine join_ (σ := Nat) 3 #[true, true, true, true, true, true, false, true, false, false] (fun s_ => [(30, .agg #[.int .i64 u1, .int .i64 u2, .int .i64 u3, .string u4, .bool u5, .int .i64 u6]), (33, .agg #[.int .i64 v1, .int .i64 v2, .int .i64 v3, .string v4, .bool v5, .int .i64 v6]), (10, .pointer (some ⟨s_, 0, none⟩))]) (fun s_ w' => Bx w w' ((s_, 25, #[.int .i64 0, .int .i64 0, .int .i64 0, .string (⟨#[]⟩ : ByteArray), .bool false, .int .i64 0]) :: [(g8, 25, #[.int .i64 y1, .int .i64 y2, .int .i64 y3, .string y4, .bool y5, .int .i64 y6]), (g7, 25, #[.int .i64 s1, .int .i64 s2, .int .i64 s3, .string s4, .bool s5, .int .i64 s6]), (g6, 25, #[.int .i64 n1, .int .i64 n2, .int .i64 n3, .string n4, .bool n5, .int .i64 n6]), (g5, 25, #[.int .i64 p1, .int .i64 p2, .int .i64 p3, .string p4, .bool p5, .int .i64 p6]), (g3, 25, #[.int .i64 b1, .int .i64 b2, .int .i64 b3, .string b4, .bool b5, .int .i64 b6]), (g2, 25, #[.int .i64 a1, .int .i64 a2, .int .i64 a3, .string a4, .bool a5, .int .i64 a6])])) ?_ (fun hJ2_5_7 => ?_)
 · skip
   rintro g10 wj BX2
   clear BX
   have BX := BX2
   clear BX2
   refine norm_ (a' := ?_) ?_ ?_
   rotate_left
   · simp only [putAll, Act.put, List.setIfInBounds_toArray, List.set_cons_zero, List.set_cons_succ]
     rfl
   refine one_ (i := 6) (N := some 9) #[true, true, true, true, true, true, true, true, false, false] rfl rfl kr (by decide) (fun K hK => ?_)
   refine bxe1 9 #[.int .i64 0, .int .i64 0, .int .i64 0, .string (⟨#[]⟩ : ByteArray), .bool false, .int .i64 0] 25 rfl rfl gr ?_
   clear BX
   intro g9 wv6 GE_g9 BX
   refine hK.out _ _ bxs (fun hHeld => ?_)
   clear hK K hHeld
   refine norm_ (a' := ?_) ?_ ?_
   rotate_left
   · show Act.put _ (some 9) _ = _
     exact nr1
   exact norm_ nrm (hJ2_5_6_7 (g9, g10) _ (bxw bxs))
 refine join_ (σ := Nat × Nat) 3 #[true, true, true, true, true, false, true, true, false, false] (fun s_ => [(30, .agg #[.int .i64 u1, .int .i64 u2, .int .i64 u3, .string u4, .bool u5, .int .i64 u6]), (9, .pointer (some ⟨s_.1, 0, none⟩)), (10, .pointer (some ⟨s_.2, 0, none⟩))]) (fun s_ w' => Bx w w' ((s_.2, 25, #[.int .i64 0, .int .i64 0, .int .i64 0, .string (⟨#[]⟩ : ByteArray), .bool false, .int .i64 0]) :: (s_.1, 25, #[.int .i64 0, .int .i64 0, .int .i64 0, .string (⟨#[]⟩ : ByteArray), .bool false, .int .i64 0]) :: [(g8, 25, #[.int .i64 y1, .int .i64 y2, .int .i64 y3, .string y4, .bool y5, .int .i64 y6]), (g7, 25, #[.int .i64 s1, .int .i64 s2, .int .i64 s3, .string s4, .bool s5, .int .i64 s6]), (g6, 25, #[.int .i64 n1, .int .i64 n2, .int .i64 n3, .string n4, .bool n5, .int .i64 n6]), (g5, 25, #[.int .i64 p1, .int .i64 p2, .int .i64 p3, .string p4, .bool p5, .int .i64 p6]), (g3, 25, #[.int .i64 b1, .int .i64 b2, .int .i64 b3, .string b4, .bool b5, .int .i64 b6]), (g2, 25, #[.int .i64 a1, .int .i64 a2, .int .i64 a3, .string a4, .bool a5, .int .i64 a6])])) ?_ (fun hJ2_6_7 => ?_)
 · skip
   rintro ⟨g9, g10⟩ wj BX2
   clear BX
   have BX := BX2
   clear BX2
   refine norm_ (a' := ?_) ?_ ?_
   rotate_left
   · simp only [putAll, Act.put, List.setIfInBounds_toArray, List.set_cons_zero, List.set_cons_succ]
     rfl
   refine one_ (i := 5) (N := some 33) #[true, true, true, true, true, true, true, true, false, false] rfl rfl kr (by decide) (fun K hK => ?_)
   refine goes_ Tryd.func31 kr rfl #[.int .i64 24, .agg #[.int .i64 a1, .int .i64 a2, .int .i64 a3, .string a4, .bool a5, .int .i64 a6], .agg #[.int .i64 b1, .int .i64 b2, .int .i64 b3, .string b4, .bool b5, .int .i64 b6]] (by rfl) rfl rfl ga ?_
   with_reducible refine (value_Bin.calls k 24 a1 a2 a3 a4 a5 a6 b1 b2 b3 b4 b5 b6 v1 v2 v3 v4 v5 v6 _ ?sd17a Hv.out).mono ?_
   (case sd17a => exact HT.out.on bx_bl)
   rintro e wv5 ⟨rfl, hb⟩
   refine ⟨_, rfl, ?_⟩
   replace BX := bx_call hb
   clear hb
   refine hK.out _ _ bxs (fun hHeld => ?_)
   clear hK K hHeld
   refine norm_ (a' := ?_) ?_ ?_
   rotate_left
   · show Act.put _ (some 33) _ = _
     exact nr1
   exact norm_ nrm (hJ2_5_6_7 (g9, g10) _ bxs)
 refine join_ (σ := Unit) 4 #[true, true, true, true, true, true, false, false, false, false] (fun s_ => [(30, .agg #[.int .i64 u1, .int .i64 u2, .int .i64 u3, .string u4, .bool u5, .int .i64 u6]), (33, .agg #[.int .i64 v1, .int .i64 v2, .int .i64 v3, .string v4, .bool v5, .int .i64 v6])]) (fun s_ w' => Bx w w' ([(g8, 25, #[.int .i64 y1, .int .i64 y2, .int .i64 y3, .string y4, .bool y5, .int .i64 y6]), (g7, 25, #[.int .i64 s1, .int .i64 s2, .int .i64 s3, .string s4, .bool s5, .int .i64 s6]), (g6, 25, #[.int .i64 n1, .int .i64 n2, .int .i64 n3, .string n4, .bool n5, .int .i64 n6]), (g5, 25, #[.int .i64 p1, .int .i64 p2, .int .i64 p3, .string p4, .bool p5, .int .i64 p6]), (g3, 25, #[.int .i64 b1, .int .i64 b2, .int .i64 b3, .string b4, .bool b5, .int .i64 b6]), (g2, 25, #[.int .i64 a1, .int .i64 a2, .int .i64 a3, .string a4, .bool a5, .int .i64 a6])])) ?_ (fun hJ2_5 => ?_)
 · skip
   rintro _ wj BX2
   clear BX
   have BX := BX2
   clear BX2
   refine norm_ (a' := ?_) ?_ ?_
   rotate_left
   · simp only [putAll, Act.put, List.setIfInBounds_toArray, List.set_cons_zero, List.set_cons_succ]
     rfl
   refine two_ (i := 6) (j := 7) (Ni := some 9) (Nj := some 10) #[true, true, true, true, true, true, true, false, false, false] #[true, true, true, true, true, true, false, true, false, false] rfl rfl rfl rfl kr (by decide) (by decide) (fun K hK => ?_) (fun K hK => ?_)
   · skip
     refine bxe1 9 #[.int .i64 0, .int .i64 0, .int .i64 0, .string (⟨#[]⟩ : ByteArray), .bool false, .int .i64 0] 25 rfl rfl gr ?_
     clear BX
     intro g9 wv6 GE_g9 BX
     refine hK.out _ _ bxs (fun hHeld => ?_)
     clear hK K hHeld
     refine norm_ (a' := ?_) ?_ ?_
     rotate_left
     · show Act.put _ (some 9) _ = _
       exact nr1
     exact norm_ nrm (hJ2_5_6 g9 _ bxs)
   · skip
     refine bxe1 10 #[.int .i64 0, .int .i64 0, .int .i64 0, .string (⟨#[]⟩ : ByteArray), .bool false, .int .i64 0] 25 rfl rfl gr ?_
     clear BX
     intro g10 wv7 GE_g10 BX
     refine hK.out _ _ bxs (fun hHeld => ?_)
     clear hK K hHeld
     refine norm_ (a' := ?_) ?_ ?_
     rotate_left
     · show Act.put _ (some 10) _ = _
       exact nr1
     exact norm_ nrm (hJ2_5_7 g10 _ bxs)
 refine join_ (σ := Nat) 4 #[true, true, true, true, true, false, true, false, false, false] (fun s_ => [(30, .agg #[.int .i64 u1, .int .i64 u2, .int .i64 u3, .string u4, .bool u5, .int .i64 u6]), (9, .pointer (some ⟨s_, 0, none⟩))]) (fun s_ w' => Bx w w' ((s_, 25, #[.int .i64 0, .int .i64 0, .int .i64 0, .string (⟨#[]⟩ : ByteArray), .bool false, .int .i64 0]) :: [(g8, 25, #[.int .i64 y1, .int .i64 y2, .int .i64 y3, .string y4, .bool y5, .int .i64 y6]), (g7, 25, #[.int .i64 s1, .int .i64 s2, .int .i64 s3, .string s4, .bool s5, .int .i64 s6]), (g6, 25, #[.int .i64 n1, .int .i64 n2, .int .i64 n3, .string n4, .bool n5, .int .i64 n6]), (g5, 25, #[.int .i64 p1, .int .i64 p2, .int .i64 p3, .string p4, .bool p5, .int .i64 p6]), (g3, 25, #[.int .i64 b1, .int .i64 b2, .int .i64 b3, .string b4, .bool b5, .int .i64 b6]), (g2, 25, #[.int .i64 a1, .int .i64 a2, .int .i64 a3, .string a4, .bool a5, .int .i64 a6])])) ?_ (fun hJ2_6 => ?_)
 · skip
   rintro g9 wj BX2
   clear BX
   have BX := BX2
   clear BX2
   refine norm_ (a' := ?_) ?_ ?_
   rotate_left
   · simp only [putAll, Act.put, List.setIfInBounds_toArray, List.set_cons_zero, List.set_cons_succ]
     rfl
   refine two_ (i := 5) (j := 7) (Ni := some 33) (Nj := some 10) #[true, true, true, true, true, true, true, false, false, false] #[true, true, true, true, true, false, true, true, false, false] rfl rfl rfl rfl kr (by decide) (by decide) (fun K hK => ?_) (fun K hK => ?_)
   · skip
     refine goes_ Tryd.func31 kr rfl #[.int .i64 24, .agg #[.int .i64 a1, .int .i64 a2, .int .i64 a3, .string a4, .bool a5, .int .i64 a6], .agg #[.int .i64 b1, .int .i64 b2, .int .i64 b3, .string b4, .bool b5, .int .i64 b6]] (by rfl) rfl rfl ga ?_
     with_reducible refine (value_Bin.calls k 24 a1 a2 a3 a4 a5 a6 b1 b2 b3 b4 b5 b6 v1 v2 v3 v4 v5 v6 _ ?sd18a Hv.out).mono ?_
     (case sd18a => exact HT.out.on bx_bl)
     rintro e wv5 ⟨rfl, hb⟩
     refine ⟨_, rfl, ?_⟩
     replace BX := bx_call hb
     clear hb
     refine hK.out _ _ bxs (fun hHeld => ?_)
     clear hK K hHeld
     refine norm_ (a' := ?_) ?_ ?_
     rotate_left
     · show Act.put _ (some 33) _ = _
       exact nr1
     exact norm_ nrm (hJ2_5_6 g9 _ bxs)
   · skip
     refine bxe1 10 #[.int .i64 0, .int .i64 0, .int .i64 0, .string (⟨#[]⟩ : ByteArray), .bool false, .int .i64 0] 25 rfl rfl gr ?_
     clear BX
     intro g10 wv7 GE_g10 BX
     refine hK.out _ _ bxs (fun hHeld => ?_)
     clear hK K hHeld
     refine norm_ (a' := ?_) ?_ ?_
     rotate_left
     · show Act.put _ (some 10) _ = _
       exact nr1
     exact norm_ nrm (hJ2_6_7 (g9, g10) _ bxs)
 refine join_ (σ := Nat) 4 #[true, true, true, true, true, false, false, true, false, false] (fun s_ => [(30, .agg #[.int .i64 u1, .int .i64 u2, .int .i64 u3, .string u4, .bool u5, .int .i64 u6]), (10, .pointer (some ⟨s_, 0, none⟩))]) (fun s_ w' => Bx w w' ((s_, 25, #[.int .i64 0, .int .i64 0, .int .i64 0, .string (⟨#[]⟩ : ByteArray), .bool false, .int .i64 0]) :: [(g8, 25, #[.int .i64 y1, .int .i64 y2, .int .i64 y3, .string y4, .bool y5, .int .i64 y6]), (g7, 25, #[.int .i64 s1, .int .i64 s2, .int .i64 s3, .string s4, .bool s5, .int .i64 s6]), (g6, 25, #[.int .i64 n1, .int .i64 n2, .int .i64 n3, .string n4, .bool n5, .int .i64 n6]), (g5, 25, #[.int .i64 p1, .int .i64 p2, .int .i64 p3, .string p4, .bool p5, .int .i64 p6]), (g3, 25, #[.int .i64 b1, .int .i64 b2, .int .i64 b3, .string b4, .bool b5, .int .i64 b6]), (g2, 25, #[.int .i64 a1, .int .i64 a2, .int .i64 a3, .string a4, .bool a5, .int .i64 a6])])) ?_ (fun hJ2_7 => ?_)
 · skip
   rintro g10 wj BX2
   clear BX
   have BX := BX2
   clear BX2
   refine norm_ (a' := ?_) ?_ ?_
   rotate_left
   · simp only [putAll, Act.put, List.setIfInBounds_toArray, List.set_cons_zero, List.set_cons_succ]
     rfl
   refine two_ (i := 5) (j := 6) (Ni := some 33) (Nj := some 9) #[true, true, true, true, true, true, false, true, false, false] #[true, true, true, true, true, false, true, true, false, false] rfl rfl rfl rfl kr (by decide) (by decide) (fun K hK => ?_) (fun K hK => ?_)
   · skip
     refine goes_ Tryd.func31 kr rfl #[.int .i64 24, .agg #[.int .i64 a1, .int .i64 a2, .int .i64 a3, .string a4, .bool a5, .int .i64 a6], .agg #[.int .i64 b1, .int .i64 b2, .int .i64 b3, .string b4, .bool b5, .int .i64 b6]] (by rfl) rfl rfl ga ?_
     with_reducible refine (value_Bin.calls k 24 a1 a2 a3 a4 a5 a6 b1 b2 b3 b4 b5 b6 v1 v2 v3 v4 v5 v6 _ ?sd19a Hv.out).mono ?_
     (case sd19a => exact HT.out.on bx_bl)
     rintro e wv5 ⟨rfl, hb⟩
     refine ⟨_, rfl, ?_⟩
     replace BX := bx_call hb
     clear hb
     refine hK.out _ _ bxs (fun hHeld => ?_)
     clear hK K hHeld
     refine norm_ (a' := ?_) ?_ ?_
     rotate_left
     · show Act.put _ (some 33) _ = _
       exact nr1
     exact norm_ nrm (hJ2_5_7 g10 _ bxs)
   · skip
     refine bxe1 9 #[.int .i64 0, .int .i64 0, .int .i64 0, .string (⟨#[]⟩ : ByteArray), .bool false, .int .i64 0] 25 rfl rfl gr ?_
     clear BX
     intro g9 wv6 GE_g9 BX
     refine hK.out _ _ bxs (fun hHeld => ?_)
     clear hK K hHeld
     refine norm_ (a' := ?_) ?_ ?_
     rotate_left
     · show Act.put _ (some 9) _ = _
       exact nr1
     exact norm_ nrm (hJ2_6_7 (g9, g10) _ (bxw bxs))
 refine join_ (σ := Nat × Nat) 4 #[true, true, false, true, true, false, true, true, false, false] (fun s_ => [(9, .pointer (some ⟨s_.1, 0, none⟩)), (10, .pointer (some ⟨s_.2, 0, none⟩))]) (fun s_ w' => Bx w w' ((s_.2, 25, #[.int .i64 0, .int .i64 0, .int .i64 0, .string (⟨#[]⟩ : ByteArray), .bool false, .int .i64 0]) :: (s_.1, 25, #[.int .i64 0, .int .i64 0, .int .i64 0, .string (⟨#[]⟩ : ByteArray), .bool false, .int .i64 0]) :: [(g8, 25, #[.int .i64 y1, .int .i64 y2, .int .i64 y3, .string y4, .bool y5, .int .i64 y6]), (g7, 25, #[.int .i64 s1, .int .i64 s2, .int .i64 s3, .string s4, .bool s5, .int .i64 s6]), (g6, 25, #[.int .i64 n1, .int .i64 n2, .int .i64 n3, .string n4, .bool n5, .int .i64 n6]), (g5, 25, #[.int .i64 p1, .int .i64 p2, .int .i64 p3, .string p4, .bool p5, .int .i64 p6]), (g3, 25, #[.int .i64 b1, .int .i64 b2, .int .i64 b3, .string b4, .bool b5, .int .i64 b6]), (g2, 25, #[.int .i64 a1, .int .i64 a2, .int .i64 a3, .string a4, .bool a5, .int .i64 a6])])) ?_ (fun hJ6_7 => ?_)
 · skip
   rintro ⟨g9, g10⟩ wj BX2
   clear BX
   have BX := BX2
   clear BX2
   refine norm_ (a' := ?_) ?_ ?_
   rotate_left
   · simp only [putAll, Act.put, List.setIfInBounds_toArray, List.set_cons_zero, List.set_cons_succ]
     rfl
   refine one_ (i := 2) (N := some 30) #[true, true, true, true, true, false, true, true, false, false] rfl rfl kr (by decide) (fun K hK => ?_)
   refine goes_ Tryd.func31 kr rfl #[.int .i64 25, .agg #[.int .i64 a1, .int .i64 a2, .int .i64 a3, .string a4, .bool a5, .int .i64 a6], .agg #[.int .i64 b1, .int .i64 b2, .int .i64 b3, .string b4, .bool b5, .int .i64 b6]] (by rfl) rfl rfl ga ?_
   with_reducible refine (value_Bin.calls k 25 a1 a2 a3 a4 a5 a6 b1 b2 b3 b4 b5 b6 u1 u2 u3 u4 u5 u6 _ ?sd20a Hu.out).mono ?_
   (case sd20a => exact HT.out.on bx_bl)
   rintro e wv2 ⟨rfl, hb⟩
   refine ⟨_, rfl, ?_⟩
   replace BX := bx_call hb
   clear hb
   refine hK.out _ _ bxs (fun hHeld => ?_)
   clear hK K hHeld
   refine norm_ (a' := ?_) ?_ ?_
   rotate_left
   · show Act.put _ (some 30) _ = _
     exact nr1
   exact norm_ nrm (hJ2_6_7 (g9, g10) _ bxs)
 refine join_ (σ := Unit) 5 #[true, true, true, true, true, false, false, false, false, false] (fun s_ => [(30, .agg #[.int .i64 u1, .int .i64 u2, .int .i64 u3, .string u4, .bool u5, .int .i64 u6])]) (fun s_ w' => Bx w w' ([(g8, 25, #[.int .i64 y1, .int .i64 y2, .int .i64 y3, .string y4, .bool y5, .int .i64 y6]), (g7, 25, #[.int .i64 s1, .int .i64 s2, .int .i64 s3, .string s4, .bool s5, .int .i64 s6]), (g6, 25, #[.int .i64 n1, .int .i64 n2, .int .i64 n3, .string n4, .bool n5, .int .i64 n6]), (g5, 25, #[.int .i64 p1, .int .i64 p2, .int .i64 p3, .string p4, .bool p5, .int .i64 p6]), (g3, 25, #[.int .i64 b1, .int .i64 b2, .int .i64 b3, .string b4, .bool b5, .int .i64 b6]), (g2, 25, #[.int .i64 a1, .int .i64 a2, .int .i64 a3, .string a4, .bool a5, .int .i64 a6])])) ?_ (fun hJ2 => ?_)
 · skip
   rintro _ wj BX2
   clear BX
   have BX := BX2
   clear BX2
   refine norm_ (a' := ?_) ?_ ?_
   rotate_left
   · simp only [putAll, Act.put, List.setIfInBounds_toArray, List.set_cons_zero, List.set_cons_succ]
     rfl
   refine three_ (i := 5) (j := 6) (k := 7) (Ni := some 33) (Nj := some 9) (Nk := some 10) #[true, true, true, true, true, true, false, false, false, false] #[true, true, true, true, true, false, true, false, false, false] #[true, true, true, true, true, false, false, true, false, false] rfl rfl rfl rfl rfl rfl kr (by decide) (by decide) (by decide) (fun K hK => ?_) (fun K hK => ?_) (fun K hK => ?_)
   · skip
     refine goes_ Tryd.func31 kr rfl #[.int .i64 24, .agg #[.int .i64 a1, .int .i64 a2, .int .i64 a3, .string a4, .bool a5, .int .i64 a6], .agg #[.int .i64 b1, .int .i64 b2, .int .i64 b3, .string b4, .bool b5, .int .i64 b6]] (by rfl) rfl rfl ga ?_
     with_reducible refine (value_Bin.calls k 24 a1 a2 a3 a4 a5 a6 b1 b2 b3 b4 b5 b6 v1 v2 v3 v4 v5 v6 _ ?sd21a Hv.out).mono ?_
     (case sd21a => exact HT.out.on bx_bl)
     rintro e wv5 ⟨rfl, hb⟩
     refine ⟨_, rfl, ?_⟩
     replace BX := bx_call hb
     clear hb
     refine hK.out _ _ bxs (fun hHeld => ?_)
     clear hK K hHeld
     refine norm_ (a' := ?_) ?_ ?_
     rotate_left
     · show Act.put _ (some 33) _ = _
       exact nr1
     exact norm_ nrm (hJ2_5 () _ bxs)
   · skip
     refine bxe1 9 #[.int .i64 0, .int .i64 0, .int .i64 0, .string (⟨#[]⟩ : ByteArray), .bool false, .int .i64 0] 25 rfl rfl gr ?_
     clear BX
     intro g9 wv6 GE_g9 BX
     refine hK.out _ _ bxs (fun hHeld => ?_)
     clear hK K hHeld
     refine norm_ (a' := ?_) ?_ ?_
     rotate_left
     · show Act.put _ (some 9) _ = _
       exact nr1
     exact norm_ nrm (hJ2_6 g9 _ bxs)
   · skip
     refine bxe1 10 #[.int .i64 0, .int .i64 0, .int .i64 0, .string (⟨#[]⟩ : ByteArray), .bool false, .int .i64 0] 25 rfl rfl gr ?_
     clear BX
     intro g10 wv7 GE_g10 BX
     refine hK.out _ _ bxs (fun hHeld => ?_)
     clear hK K hHeld
     refine norm_ (a' := ?_) ?_ ?_
     rotate_left
     · show Act.put _ (some 10) _ = _
       exact nr1
     exact norm_ nrm (hJ2_7 g10 _ bxs)
 refine join_ (σ := Nat) 5 #[true, true, false, true, true, false, true, false, false, false] (fun s_ => [(9, .pointer (some ⟨s_, 0, none⟩))]) (fun s_ w' => Bx w w' ((s_, 25, #[.int .i64 0, .int .i64 0, .int .i64 0, .string (⟨#[]⟩ : ByteArray), .bool false, .int .i64 0]) :: [(g8, 25, #[.int .i64 y1, .int .i64 y2, .int .i64 y3, .string y4, .bool y5, .int .i64 y6]), (g7, 25, #[.int .i64 s1, .int .i64 s2, .int .i64 s3, .string s4, .bool s5, .int .i64 s6]), (g6, 25, #[.int .i64 n1, .int .i64 n2, .int .i64 n3, .string n4, .bool n5, .int .i64 n6]), (g5, 25, #[.int .i64 p1, .int .i64 p2, .int .i64 p3, .string p4, .bool p5, .int .i64 p6]), (g3, 25, #[.int .i64 b1, .int .i64 b2, .int .i64 b3, .string b4, .bool b5, .int .i64 b6]), (g2, 25, #[.int .i64 a1, .int .i64 a2, .int .i64 a3, .string a4, .bool a5, .int .i64 a6])])) ?_ (fun hJ6 => ?_)
 · skip
   rintro g9 wj BX2
   clear BX
   have BX := BX2
   clear BX2
   refine norm_ (a' := ?_) ?_ ?_
   rotate_left
   · simp only [putAll, Act.put, List.setIfInBounds_toArray, List.set_cons_zero, List.set_cons_succ]
     rfl
   refine two_ (i := 2) (j := 7) (Ni := some 30) (Nj := some 10) #[true, true, true, true, true, false, true, false, false, false] #[true, true, false, true, true, false, true, true, false, false] rfl rfl rfl rfl kr (by decide) (by decide) (fun K hK => ?_) (fun K hK => ?_)
   · skip
     refine goes_ Tryd.func31 kr rfl #[.int .i64 25, .agg #[.int .i64 a1, .int .i64 a2, .int .i64 a3, .string a4, .bool a5, .int .i64 a6], .agg #[.int .i64 b1, .int .i64 b2, .int .i64 b3, .string b4, .bool b5, .int .i64 b6]] (by rfl) rfl rfl ga ?_
     with_reducible refine (value_Bin.calls k 25 a1 a2 a3 a4 a5 a6 b1 b2 b3 b4 b5 b6 u1 u2 u3 u4 u5 u6 _ ?sd22a Hu.out).mono ?_
     (case sd22a => exact HT.out.on bx_bl)
     rintro e wv2 ⟨rfl, hb⟩
     refine ⟨_, rfl, ?_⟩
     replace BX := bx_call hb
     clear hb
     refine hK.out _ _ bxs (fun hHeld => ?_)
     clear hK K hHeld
     refine norm_ (a' := ?_) ?_ ?_
     rotate_left
     · show Act.put _ (some 30) _ = _
       exact nr1
     exact norm_ nrm (hJ2_6 g9 _ bxs)
   · skip
     refine bxe1 10 #[.int .i64 0, .int .i64 0, .int .i64 0, .string (⟨#[]⟩ : ByteArray), .bool false, .int .i64 0] 25 rfl rfl gr ?_
     clear BX
     intro g10 wv7 GE_g10 BX
     refine hK.out _ _ bxs (fun hHeld => ?_)
     clear hK K hHeld
     refine norm_ (a' := ?_) ?_ ?_
     rotate_left
     · show Act.put _ (some 10) _ = _
       exact nr1
     exact norm_ nrm (hJ6_7 (g9, g10) _ bxs)
 refine join_ (σ := Nat) 5 #[true, true, false, true, true, false, false, true, false, false] (fun s_ => [(10, .pointer (some ⟨s_, 0, none⟩))]) (fun s_ w' => Bx w w' ((s_, 25, #[.int .i64 0, .int .i64 0, .int .i64 0, .string (⟨#[]⟩ : ByteArray), .bool false, .int .i64 0]) :: [(g8, 25, #[.int .i64 y1, .int .i64 y2, .int .i64 y3, .string y4, .bool y5, .int .i64 y6]), (g7, 25, #[.int .i64 s1, .int .i64 s2, .int .i64 s3, .string s4, .bool s5, .int .i64 s6]), (g6, 25, #[.int .i64 n1, .int .i64 n2, .int .i64 n3, .string n4, .bool n5, .int .i64 n6]), (g5, 25, #[.int .i64 p1, .int .i64 p2, .int .i64 p3, .string p4, .bool p5, .int .i64 p6]), (g3, 25, #[.int .i64 b1, .int .i64 b2, .int .i64 b3, .string b4, .bool b5, .int .i64 b6]), (g2, 25, #[.int .i64 a1, .int .i64 a2, .int .i64 a3, .string a4, .bool a5, .int .i64 a6])])) ?_ (fun hJ7 => ?_)
 · skip
   rintro g10 wj BX2
   clear BX
   have BX := BX2
   clear BX2
   refine norm_ (a' := ?_) ?_ ?_
   rotate_left
   · simp only [putAll, Act.put, List.setIfInBounds_toArray, List.set_cons_zero, List.set_cons_succ]
     rfl
   refine two_ (i := 2) (j := 6) (Ni := some 30) (Nj := some 9) #[true, true, true, true, true, false, false, true, false, false] #[true, true, false, true, true, false, true, true, false, false] rfl rfl rfl rfl kr (by decide) (by decide) (fun K hK => ?_) (fun K hK => ?_)
   · skip
     refine goes_ Tryd.func31 kr rfl #[.int .i64 25, .agg #[.int .i64 a1, .int .i64 a2, .int .i64 a3, .string a4, .bool a5, .int .i64 a6], .agg #[.int .i64 b1, .int .i64 b2, .int .i64 b3, .string b4, .bool b5, .int .i64 b6]] (by rfl) rfl rfl ga ?_
     with_reducible refine (value_Bin.calls k 25 a1 a2 a3 a4 a5 a6 b1 b2 b3 b4 b5 b6 u1 u2 u3 u4 u5 u6 _ ?sd23a Hu.out).mono ?_
     (case sd23a => exact HT.out.on bx_bl)
     rintro e wv2 ⟨rfl, hb⟩
     refine ⟨_, rfl, ?_⟩
     replace BX := bx_call hb
     clear hb
     refine hK.out _ _ bxs (fun hHeld => ?_)
     clear hK K hHeld
     refine norm_ (a' := ?_) ?_ ?_
     rotate_left
     · show Act.put _ (some 30) _ = _
       exact nr1
     exact norm_ nrm (hJ2_7 g10 _ bxs)
   · skip
     refine bxe1 9 #[.int .i64 0, .int .i64 0, .int .i64 0, .string (⟨#[]⟩ : ByteArray), .bool false, .int .i64 0] 25 rfl rfl gr ?_
     clear BX
     intro g9 wv6 GE_g9 BX
     refine hK.out _ _ bxs (fun hHeld => ?_)
     clear hK K hHeld
     refine norm_ (a' := ?_) ?_ ?_
     rotate_left
     · show Act.put _ (some 9) _ = _
       exact nr1
     exact norm_ nrm (hJ6_7 (g9, g10) _ (bxw bxs))
 refine three_ (i := 2) (j := 6) (k := 7) (Ni := some 30) (Nj := some 9) (Nk := some 10) #[true, true, true, true, true, false, false, false, false, false] #[true, true, false, true, true, false, true, false, false, false] #[true, true, false, true, true, false, false, true, false, false] rfl rfl rfl rfl rfl rfl kr (by decide) (by decide) (by decide) (fun K hK => ?_) (fun K hK => ?_) (fun K hK => ?_)
 · skip
   refine goes_ Tryd.func31 kr rfl #[.int .i64 25, .agg #[.int .i64 a1, .int .i64 a2, .int .i64 a3, .string a4, .bool a5, .int .i64 a6], .agg #[.int .i64 b1, .int .i64 b2, .int .i64 b3, .string b4, .bool b5, .int .i64 b6]] (by rfl) rfl rfl ga ?_
   with_reducible refine (value_Bin.calls k 25 a1 a2 a3 a4 a5 a6 b1 b2 b3 b4 b5 b6 u1 u2 u3 u4 u5 u6 _ ?sd24a Hu.out).mono ?_
   (case sd24a => exact HT.out.on bx_bl)
   rintro e wv2 ⟨rfl, hb⟩
   refine ⟨_, rfl, ?_⟩
   replace BX := bx_call hb
   clear hb
   refine hK.out _ _ bxs (fun hHeld => ?_)
   clear hK K hHeld
   refine norm_ (a' := ?_) ?_ ?_
   rotate_left
   · show Act.put _ (some 30) _ = _
     exact nr1
   exact norm_ nrm (hJ2 () _ bxs)
 · skip
   refine bxe1 9 #[.int .i64 0, .int .i64 0, .int .i64 0, .string (⟨#[]⟩ : ByteArray), .bool false, .int .i64 0] 25 rfl rfl gr ?_
   clear BX
   intro g9 wv6 GE_g9 BX
   refine hK.out _ _ bxs (fun hHeld => ?_)
   clear hK K hHeld
   refine norm_ (a' := ?_) ?_ ?_
   rotate_left
   · show Act.put _ (some 9) _ = _
     exact nr1
   exact norm_ nrm (hJ6 g9 _ bxs)
 · skip
   refine bxe1 10 #[.int .i64 0, .int .i64 0, .int .i64 0, .string (⟨#[]⟩ : ByteArray), .bool false, .int .i64 0] 25 rfl rfl gr ?_
   clear BX
   intro g10 wv7 GE_g10 BX
   refine hK.out _ _ bxs (fun hHeld => ?_)
   clear hK K hHeld
   refine norm_ (a' := ?_) ?_ ?_
   rotate_left
   · show Act.put _ (some 10) _ = _
     exact nr1
   exact norm_ nrm (hJ7 g10 _ bxs)
 rintro ⟨g9, g10⟩ wj BX2
 clear BX
 have BX := BX2
 clear BX2
 refine norm_ (a' := ?_) ?_ ?_
 rotate_left
 · simp only [putAll, Act.put, List.setIfInBounds_toArray, List.set_cons_zero, List.set_cons_succ]
   rfl
 refine last_ (i := 8) (N := none) #[true, true, true, true, true, true, true, true, true, false] rfl rfl kr (by decide) (fun K hK => ?_)
 refine skip_ (w1 := ?_) (by rfl) rfl ?_ ?_
 rotate_left
 · go_simp
   rfl
 refine hK.out _ _ (name_any fun wq BXq => ?_)
 clear hK K BX
 have BX := BXq
 clear BXq
 refine last_ (i := 9) (N := none) #[true, true, true, true, true, true, true, true, true, true] rfl rfl kr (by decide) (fun K hK => ?_)
 refine skip_ (w1 := ?_) (by rfl) rfl ?_ ?_
 rotate_left
 · go_simp
   rfl
 refine hK.out _ _ (name_any fun wq BXq => ?_)
 clear hK K BX
 have BX := BXq
 clear BXq
 refine done_ kr ?_
 rcases HCASE.out with hf | ⟨h1, h2, h3, h4, h5, h6, HO⟩
 · simp only [Prod.mk.injEq] at hf
   obtain ⟨⟨rfl, rfl, rfl, rfl, rfl, rfl⟩, ⟨rfl, rfl, rfl, rfl, rfl, rfl⟩, ⟨rfl, rfl, rfl, rfl, rfl, rfl⟩, ⟨rfl, rfl, rfl, rfl, rfl, rfl⟩, ⟨rfl, rfl, rfl, rfl, rfl, rfl⟩, ⟨rfl, rfl, rfl, rfl, rfl, rfl⟩⟩ := hf
   clear HCASE
   go_wp2
   go_ret
   exact ⟨rfl, bx_bl⟩
 obtain ⟨rfl, rfl, rfl, rfl, rfl⟩ := h1
 obtain ⟨rfl, rfl, rfl, rfl, rfl⟩ := h2
 obtain ⟨rfl, rfl, rfl, rfl, rfl⟩ := h3
 obtain ⟨rfl, rfl, rfl, rfl, rfl⟩ := h4
 obtain ⟨rfl, rfl, rfl, rfl, rfl⟩ := h5
 obtain ⟨rfl, rfl, rfl, rfl, rfl⟩ := h6
 clear HCASE
 go_wp2_with ((with_reducible refine gate_dst (N := 66) rfl ?_); refine sliceR 66 [(3, 0, 0, ⟨#[]⟩, p5, 0), (3, 0, 0, ⟨#[]⟩, n5, 0), (3, 0, 0, ⟨#[]⟩, s5, 0), (3, 0, 0, ⟨#[]⟩, y5, 0), (3, 0, 0, ⟨#[]⟩, u5, 0), (3, 0, 0, ⟨#[]⟩, v5, 0)] 6 rfl rfl gr ?_; clear BX; intro ad wl HROW BX)
 go_loopg [12] 6 (fun kq v12 w' => ∃ i : Nat, v12 = .int .i64 (i : Int) ∧ Aside0 (i + kq = 6) ∧ Aside0 (RowAt w' (some ad) [(3, 0, 0, ⟨#[]⟩, p5, 0), (3, 0, 0, ⟨#[]⟩, n5, 0), (3, 0, 0, ⟨#[]⟩, s5, 0), (3, 0, 0, ⟨#[]⟩, y5, 0), (3, 0, 0, ⟨#[]⟩, u5, 0), (3, 0, 0, ⟨#[]⟩, v5, 0)]) ∧ Bx w w' [(g10, 25, #[.int .i64 3, .int .i64 0, .int .i64 0, .string (⟨#[]⟩ : ByteArray), .bool v5, .int .i64 0]), (g9, 25, #[.int .i64 3, .int .i64 0, .int .i64 0, .string (⟨#[]⟩ : ByteArray), .bool u5, .int .i64 0]), (g8, 25, #[.int .i64 3, .int .i64 0, .int .i64 0, .string (⟨#[]⟩ : ByteArray), .bool y5, .int .i64 0]), (g7, 25, #[.int .i64 3, .int .i64 0, .int .i64 0, .string (⟨#[]⟩ : ByteArray), .bool s5, .int .i64 0]), (g6, 25, #[.int .i64 3, .int .i64 0, .int .i64 0, .string (⟨#[]⟩ : ByteArray), .bool n5, .int .i64 0]), (g5, 25, #[.int .i64 3, .int .i64 0, .int .i64 0, .string (⟨#[]⟩ : ByteArray), .bool p5, .int .i64 0]), (g3, 25, #[.int .i64 b1, .int .i64 b2, .int .i64 b3, .string b4, .bool b5, .int .i64 b6]), (g2, 25, #[.int .i64 a1, .int .i64 a2, .int .i64 a3, .string a4, .bool a5, .int .i64 a6])])
 case atStart => exact ⟨0, er, ⟨rfl⟩, HROW, bxi⟩
 case round =>
  clear BX HROW
  obtain ⟨i, rfl, HI, HROW, BX⟩ := hrel
  cases gk with
  | zero =>
   obtain rfl : i = 6 := by have := HI.out; omega
   have c1 : decide (((6 : Nat) : Int) < 6) = false := by decide
   rcases HO.out with h | h | h
   all_goals
    obtain ⟨rfl, rfl, rfl, rfl, rfl, rfl, rfl⟩ := h
    clear HO
    go_wp2_with ((with_reducible refine gate_callee (f := 32) rfl ?_); refine goesL_ (some 79) rfl rfl Tryd.func32 kr rfl #[.agg #[.int .i64 a1, .int .i64 a2, .int .i64 a3, .string a4, .bool a5, .int .i64 a6], .agg #[.int .i64 b1, .int .i64 b2, .int .i64 b3, .string b4, .bool b5, .int .i64 b6]] rfl ga ?_; (with_reducible refine (value_Cmp.calls k a1 a2 a3 a4 a5 a6 b1 b2 b3 b4 b5 b6 _ _ HC.out).mono ?_); rintro e wc79 ⟨rfl, hb⟩; refine ⟨_, rfl, ?_⟩; replace BX := bx_call hb; clear hb)
    go_ret
    exact ⟨rfl, bx_bl⟩
  | succ k1 =>
   have hi : i < 6 := by have := HI.out; omega
   have c1 : decide ((i : Int) < 6) = true := decide_eq_true (by omega)
   have p1 : 0 ≤ (i : Int) := by omega
   have q1 : (i : Int) < 6 := by omega
   obtain ⟨t, ht⟩ : ∃ t : Bool, ([(3, 0, 0, ⟨#[]⟩, p5, 0), (3, 0, 0, ⟨#[]⟩, n5, 0), (3, 0, 0, ⟨#[]⟩, s5, 0), (3, 0, 0, ⟨#[]⟩, y5, 0), (3, 0, 0, ⟨#[]⟩, u5, 0), (3, 0, 0, ⟨#[]⟩, v5, 0)] : List VV)[i]? = some (3, 0, 0, ⟨#[]⟩, t, 0) := by
    match i, hi with
    | 0, _ => exact ⟨_, rfl⟩
    | 1, _ => exact ⟨_, rfl⟩
    | 2, _ => exact ⟨_, rfl⟩
    | 3, _ => exact ⟨_, rfl⟩
    | 4, _ => exact ⟨_, rfl⟩
    | 5, _ => exact ⟨_, rfl⟩
   obtain ⟨ad0, e0, y1, _⟩ := HROW.out.get i _ _ _ _ _ _ ht
   cases e0
   clear ht
   replace p1 := eq_true p1
   replace q1 := eq_true q1
   go_wp2
   go_roundg k1
   case measure => omega
   case rel => exact ⟨i + 1, er, ⟨by have := HI.out; omega⟩, HROW, bxi⟩
end Go.Proofs.YtmakkdlkgfgaoaaDoor.F
