/-
The walk of Join.
-/
import Derived.Test.YtmakkdlkgfgaoaaDoorH1
import Derived.Test.YtmakkdlkgfgaoaaDoorF105
namespace Go.Proofs.YtmakkdlkgfgaoaaDoor.F
open Go.RowKit Go.Proofs.YtmakkdlkgfgaoaaDoorW.PrintWords Go.Proofs.YtmakkdlkgfgaoaaDoorW.PrintLast Go.Proofs.YtmakkdlkgfgaoaaDoorW.PrintMore
attribute [local go_sem high] bx_cell bx_frozen
set_option linter.unusedVariables false
set_option linter.unusedSimpArgs false
/-- one behind the other -/
def joinL (k : Nat) : VV → List VV → Option VV
  | t, [] => some t
  | t, x :: l => (value_Bin.f k 16 t.1 t.2.1 t.2.2.1 t.2.2.2.1 t.2.2.2.2.1 t.2.2.2.2.2 x.1 x.2.1 x.2.2.1 x.2.2.2.1 x.2.2.2.2.1 x.2.2.2.2.2).bind fun u => if u.1 = 4 then some u else joinL k u l
set_option maxHeartbeats 8000000 in
set_option maxRecDepth 100000 in
theorem Join_calls (k : Nat) (A0 : Option Addr) (c0 : Nat) (l0 : List VV) (w : World) (HT0 : TabAt w) (hr0 : RowAt w A0 l0) (hn : l0.length ≤ 140737488351232) (s1 s2 s3 : Int) (s4 : ByteArray) (s5 : Bool) (s6 : Int) (r1 r2 r3 : Int) (r4 : ByteArray) (r5 : Bool) (r6 : Int)
   (ht : value_Text.f k (⟨#[]⟩ : ByteArray) = some (s1, s2, s3, s4, s5, s6)) (h : joinL k (s1, s2, s3, s4, s5, s6) l0 = some (r1, r2, r3, r4, r5, r6)) :
  Calls Tryd.prog 36 #[.slice A0 l0.length c0] w fun e w' => e = .returned (.agg #[.int .i64 r1, .int .i64 r2, .int .i64 r3, .string r4, .bool r5, .int .i64 r6]) ∧ Below w.heap.size w w' := by
 have hu25 := Tryd.underlying25
 have HT := Aside0.mk HT0
 have HR0 := Aside0.mk hr0
 have HS := Aside0.mk ht
 have HJ := Aside0.mk h
 clear HT0 hr0 ht h
 have BX := Bx.start w
 go_enter Tryd.func36, Tryd.ntmps36
 go_wp2_with (first
  | ((with_reducible refine gate_dst (N := 2) rfl ?_); refine bxe 2 #[.int .i64 0, .int .i64 0, .int .i64 0, .string (⟨#[]⟩ : ByteArray), .bool false, .int .i64 0] 25 rfl rfl gr ?_; clear BX; intro g2 w2 GE2 BX)
  | ((with_reducible refine gate_callee (f := 21) rfl ?_); refine goesL_ (some 6) rfl rfl Tryd.func21 kr rfl #[.string (⟨#[]⟩ : ByteArray)] rfl ga ?_; (with_reducible refine (value_Text.calls k (⟨#[]⟩ : ByteArray) s1 s2 s3 s4 s5 s6 _ HS.out).mono ?_); rintro e w3 ⟨rfl, hb⟩; refine ⟨_, rfl, ?_⟩; replace BX := bx_call hb; clear hb)
  | ((with_reducible refine gate_dst (N := 3) rfl ?_); refine bxe 3 #[.int .i64 0, .int .i64 0, .int .i64 0, .string (⟨#[]⟩ : ByteArray), .bool false, .int .i64 0] 25 rfl rfl gr ?_; clear BX; intro g3 w4 GE3 BX))
 go_loopg [9] l0.length (fun kq v9 w' => ∃ (i : Nat) (t1 t2 t3 : Int) (t4 : ByteArray) (t5 : Bool) (t6 : Int), v9 = .int .i64 (i : Int) ∧ Aside0 (i + kq = l0.length) ∧ Aside0 (joinL k (t1, t2, t3, t4, t5, t6) (l0.drop i) = some (r1, r2, r3, r4, r5, r6)) ∧ Bx w w' [(g3, 25, #[.int .i64 t1, .int .i64 t2, .int .i64 t3, .string t4, .bool t5, .int .i64 t6]), (g2, 25, #[.int .i64 0, .int .i64 0, .int .i64 0, .string (⟨#[]⟩ : ByteArray), .bool false, .int .i64 0])])
 case atStart => exact ⟨0, s1, s2, s3, s4, s5, s6, er, ⟨Nat.zero_add _⟩, HJ, bxi⟩
 case round =>
  clear BX HJ HS
  obtain ⟨i, t1, t2, t3, t4, t5, t6, rfl, HI, HJ, BX⟩ := hrel
  have HRW := Aside0.mk (HR0.out.below (bx_bl (w := wr)))
  cases gk with
  | zero =>
   obtain rfl : i = l0.length := by have := HI.out; omega
   have hj := HJ.out
   rw [List.drop_length] at hj
   injection hj with hj
   simp only [Prod.mk.injEq] at hj
   obtain ⟨rfl, rfl, rfl, rfl, rfl, rfl⟩ := hj
   clear HJ
   have c1 : decide ((l0.length : Int) < (l0.length : Int)) = false := by simp
   go_wp2
   refine bodyPost_ret (results_cell_row rfl _ _ g2 25 #[.int .i64 t1, .int .i64 t2, .int .i64 t3, .string t4, .bool t5, .int .i64 t6] (0, 0) _ rfl bx_get Tryd.underlying25 rfl kr) rfl ?_
   exact ⟨er2, bx_bl⟩
  | succ k1 =>
   have hi : i < l0.length := by have := HI.out; omega
   have c1 : decide ((i : Int) < (l0.length : Int)) = true := decide_eq_true (by omega)
   have p1 : 0 ≤ (i : Int) := by omega
   have q1 : (i : Int) < (l0.length : Int) := by omega
   obtain ⟨⟨x1, x2, x3, x4, x5, x6⟩, hx⟩ : ∃ x : VV, l0[i]? = some x := ⟨_, List.getElem?_eq_getElem hi⟩
   obtain ⟨ad0, e0, y1, y2, y3, y4, y5, y6⟩ := HRW.out.get i _ _ _ _ _ _ hx
   cases e0
   have hd : l0.drop i = (x1, x2, x3, x4, x5, x6) :: l0.drop (i + 1) := by
    rw [List.drop_eq_getElem_cons hi]; rw [List.getElem?_eq_getElem hi] at hx; rw [Option.some.inj hx]
   have hj := HJ.out
   rw [hd] at hj
   clear HJ hd hx
   obtain ⟨⟨u1, u2, u3, u4, u5, u6⟩, A10, hj⟩ := Option.bind_eq_some_iff.mp hj
   have A1 := Aside0.mk A10
   clear A10
   replace p1 := eq_true p1
   replace q1 := eq_true q1
   by_cases c4 : u1 = 4
   · replace hj : some (u1, u2, u3, u4, u5, u6) = some (r1, r2, r3, r4, r5, r6) := by rw [← hj]; exact (if_pos c4).symm
     injection hj with hj
     simp only [Prod.mk.injEq] at hj
     obtain ⟨rfl, rfl, rfl, rfl, rfl, rfl⟩ := hj
     have c4b : (u1 == 4) = true := beq_iff_eq.mpr c4
     clear c4
     go_wp2_with (first
      | ((with_reducible refine gate_dst (N := 5) rfl ?_); refine bxe 5 #[.int .i64 0, .int .i64 0, .int .i64 0, .string (⟨#[]⟩ : ByteArray), .bool false, .int .i64 0] 25 rfl rfl gr ?_; clear BX; intro g5 w5 GE5 BX)
      | ((with_reducible refine gate_callee (f := 31) rfl ?_); refine goesL_ (some 15) rfl rfl Tryd.func31 kr rfl #[.int .i64 16, .agg #[.int .i64 t1, .int .i64 t2, .int .i64 t3, .string t4, .bool t5, .int .i64 t6], .agg #[.int .i64 x1, .int .i64 x2, .int .i64 x3, .string x4, .bool x5, .int .i64 x6]] rfl ga ?_; (with_reducible refine (value_Bin.calls k 16 t1 t2 t3 t4 t5 t6 x1 x2 x3 x4 x5 x6 u1 u2 u3 u4 u5 u6 _ ?side1 A1.out).mono ?_); (case side1 => exact HT.out.on bx_bl); rintro e w6 ⟨rfl, hb⟩; refine ⟨_, rfl, ?_⟩; replace BX := bx_call hb; clear hb))
     refine bodyPost_ret (results_cell_row rfl _ _ g2 25 #[.int .i64 u1, .int .i64 u2, .int .i64 u3, .string u4, .bool u5, .int .i64 u6] (0, 0) _ rfl bx_get Tryd.underlying25 rfl kr) rfl ?_
     exact ⟨er2, bx_bl⟩
   · replace hj : joinL k (u1, u2, u3, u4, u5, u6) (l0.drop (i + 1)) = some (r1, r2, r3, r4, r5, r6) := by rw [← hj]; exact (if_neg c4).symm
     have HJ := Aside0.mk hj
     clear hj
     have c4b : (u1 == 4) = false := beq_eq_false_iff_ne.mpr c4
     clear c4
     go_wp2_with (first
      | ((with_reducible refine gate_dst (N := 5) rfl ?_); refine bxe 5 #[.int .i64 0, .int .i64 0, .int .i64 0, .string (⟨#[]⟩ : ByteArray), .bool false, .int .i64 0] 25 rfl rfl gr ?_; clear BX; intro g5 w5 GE5 BX)
      | ((with_reducible refine gate_callee (f := 31) rfl ?_); refine goesL_ (some 15) rfl rfl Tryd.func31 kr rfl #[.int .i64 16, .agg #[.int .i64 t1, .int .i64 t2, .int .i64 t3, .string t4, .bool t5, .int .i64 t6], .agg #[.int .i64 x1, .int .i64 x2, .int .i64 x3, .string x4, .bool x5, .int .i64 x6]] rfl ga ?_; (with_reducible refine (value_Bin.calls k 16 t1 t2 t3 t4 t5 t6 x1 x2 x3 x4 x5 x6 u1 u2 u3 u4 u5 u6 _ ?side1 A1.out).mono ?_); (case side1 => exact HT.out.on bx_bl); rintro e w6 ⟨rfl, hb⟩; refine ⟨_, rfl, ?_⟩; replace BX := bx_call hb; clear hb))
     go_roundg k1
     case measure => omega
     case rel => exact ⟨i + 1, u1, u2, u3, u4, u5, u6, er, ⟨by have := HI.out; omega⟩, HJ, bxs⟩
/-- the same, its length written out -/
theorem Join_callsN (k : Nat) (A0 : Option Addr) (n c0 : Nat) (l0 : List VV) (hN : l0.length = n) (w : World) (HT0 : TabAt w) (hr0 : RowAt w A0 l0) (hn : n ≤ 140737488351232) (s1 s2 s3 : Int) (s4 : ByteArray) (s5 : Bool) (s6 : Int) (r1 r2 r3 : Int) (r4 : ByteArray) (r5 : Bool) (r6 : Int)
   (ht : value_Text.f k (⟨#[]⟩ : ByteArray) = some (s1, s2, s3, s4, s5, s6)) (h : joinL k (s1, s2, s3, s4, s5, s6) l0 = some (r1, r2, r3, r4, r5, r6)) :
  Calls Tryd.prog 36 #[.slice A0 n c0] w fun e w' => e = .returned (.agg #[.int .i64 r1, .int .i64 r2, .int .i64 r3, .string r4, .bool r5, .int .i64 r6]) ∧ Below w.heap.size w w' := by
 subst hN
 exact Join_calls k A0 c0 l0 w HT0 hr0 hn s1 s2 s3 s4 s5 s6 r1 r2 r3 r4 r5 r6 ht h
end Go.Proofs.YtmakkdlkgfgaoaaDoor.F
