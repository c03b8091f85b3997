/-
The walk of the reference's Join.
-/
import Derived.Test.YtmakkdlkgfgaoaaGreatDoorF120
namespace Go.Proofs.YtmakkdlkgfgaoaaGreatDoor.F
open Go.RowKit Go.Proofs.YtmakkdlkgfgaoaaGreatDoorW.PrintWords Go.Proofs.YtmakkdlkgfgaoaaGreatDoorW.PrintLast Go.Proofs.YtmakkdlkgfgaoaaGreatDoorW.PrintMore
attribute [local go_sem high] bx_cell bx_frozen
set_option linter.unusedVariables false
set_option linter.unusedSimpArgs false
set_option maxHeartbeats 8000000 in
set_option maxRecDepth 100000 in
theorem JoinR_calls (k : Nat) (A0 : Option Addr) (c0 : Nat) (l0 : List VV) (w : World) (hr0 : RowAt w A0 l0) (hn : l0.length ≤ 140737488351232) (r1 r2 r3 : Int) (r4 : ByteArray) (r5 : Bool) (r6 : Int)
   (h : joinR k (2, 0, 0, (⟨#[]⟩ : ByteArray), false, 0) l0 = some (r1, r2, r3, r4, r5, r6)) :
  Calls Tryz.prog 9 #[.slice A0 l0.length c0] w fun e w' => e = .returned (.agg #[.int .i64 r1, .int .i64 r2, .int .i64 r3, .string r4, .bool r5, .int .i64 r6]) ∧ Below w.heap.size w w' := by
 have hu25 := Tryz.underlying25
 have HR0 := Aside0.mk hr0
 have HJ := Aside0.mk h
 clear hr0 h
 have BX := Bx.start w
 go_enter Tryz.func9, Tryz.ntmps9
 go_wp2_with (first
  | ((with_reducible refine gate_dst (N := 2) rfl ?_); refine bxe 2 #[.int .i64 0, .int .i64 0, .int .i64 0, .string (⟨#[]⟩ : ByteArray), .bool false, .int .i64 0] 25 rfl rfl gr ?_; clear BX; intro g2 w2 GE2 BX)
  | ((with_reducible refine gate_dst (N := 3) rfl ?_); refine bxe 3 #[.int .i64 0, .int .i64 0, .int .i64 0, .string (⟨#[]⟩ : ByteArray), .bool false, .int .i64 0] 25 rfl rfl gr ?_; clear BX; intro g3 w4 GE3 BX))
 go_loopg [4] l0.length (fun kq v4 w' => ∃ (i : Nat) (t1 t2 t3 : Int) (t4 : ByteArray) (t5 : Bool) (t6 : Int), v4 = .int .i64 (i : Int) ∧ Aside0 (i + kq = l0.length) ∧ Aside0 (joinR k (t1, t2, t3, t4, t5, t6) (l0.drop i) = some (r1, r2, r3, r4, r5, r6)) ∧ Bx w w' [(g3, 25, #[.int .i64 t1, .int .i64 t2, .int .i64 t3, .string t4, .bool t5, .int .i64 t6]), (g2, 25, #[.int .i64 0, .int .i64 0, .int .i64 0, .string (⟨#[]⟩ : ByteArray), .bool false, .int .i64 0])])
 case atStart => exact ⟨0, 2, 0, 0, ⟨#[]⟩, false, 0, er, ⟨Nat.zero_add _⟩, HJ, bxi⟩
 case round =>
  clear BX HJ
  obtain ⟨i, t1, t2, t3, t4, t5, t6, rfl, HI, HJ, BX⟩ := hrel
  cases gk with
  | zero =>
   obtain rfl : i = l0.length := by have := HI.out; omega
   have hj := HJ.out
   rw [List.drop_length] at hj
   injection hj with hj
   simp only [Prod.mk.injEq] at hj
   obtain ⟨rfl, rfl, rfl, rfl, rfl, rfl⟩ := hj
   clear HJ
   have c1 : decide ((l0.length : Int) < (l0.length : Int)) = false := by simp
   go_wp2
   refine bodyPost_ret (results_cell_row rfl _ _ g2 25 #[.int .i64 t1, .int .i64 t2, .int .i64 t3, .string t4, .bool t5, .int .i64 t6] (0, 0) _ rfl bx_get Tryz.underlying25 rfl kr) rfl ?_
   exact ⟨er2, bx_bl⟩
  | succ k1 =>
   have hi : i < l0.length := by have := HI.out; omega
   have c1 : decide ((i : Int) < (l0.length : Int)) = true := decide_eq_true (by omega)
   have p1 : 0 ≤ (i : Int) := by omega
   have q1 : (i : Int) < (l0.length : Int) := by omega
   obtain ⟨⟨x1, x2, x3, x4, x5, x6⟩, hx⟩ : ∃ x : VV, l0[i]? = some x := ⟨_, List.getElem?_eq_getElem hi⟩
   obtain ⟨ad0, e0, z1, z2, z3, z4, z5, z6⟩ := HR0.out.get i _ _ _ _ _ _ hx
   cases e0
   have hd : l0.drop i = (x1, x2, x3, x4, x5, x6) :: l0.drop (i + 1) := by
    rw [List.drop_eq_getElem_cons hi]; rw [List.getElem?_eq_getElem hi] at hx; rw [Option.some.inj hx]
   have hj := HJ.out
   rw [hd] at hj
   clear HJ hd hx
   replace p1 := eq_true p1
   replace q1 := eq_true q1
   by_cases c4 : t1 = 4
   · replace hj : some (t1, t2, t3, t4, t5, t6) = some (r1, r2, r3, r4, r5, r6) := by rw [← hj]; exact (if_pos c4).symm
     injection hj with hj
     simp only [Prod.mk.injEq] at hj
     obtain ⟨rfl, rfl, rfl, rfl, rfl, rfl⟩ := hj
     have c4b : (t1 != 4) = false := bne_eq_false_iff_eq.mpr c4
     clear c4
     go_wp2
     refine bodyPost_ret (results_cell_row rfl _ _ g2 25 #[.int .i64 t1, .int .i64 t2, .int .i64 t3, .string t4, .bool t5, .int .i64 t6] (0, 0) _ rfl bx_get Tryz.underlying25 rfl kr) rfl ?_
     exact ⟨er2, bx_bl⟩
   · have hj2 : (whittleref2_Bin.f k 16 t1 t2 t3 t4 t5 t6 x1 x2 x3 x4 x5 x6).bind (fun u => joinR k u (l0.drop (i + 1))) = some (r1, r2, r3, r4, r5, r6) := by rw [← hj]; exact (if_neg c4).symm
     clear hj
     obtain ⟨⟨u1, u2, u3, u4, u5, u6⟩, A10, hj⟩ := Option.bind_eq_some_iff.mp hj2
     have A1 := Aside0.mk A10
     have HJ := Aside0.mk hj
     clear A10 hj hj2
     have c4b : (t1 != 4) = true := bne_iff_ne.mpr c4
     clear c4
     go_wp2
     refine startb (n := 7) (ds := [6]) #[false, false, false, false, false, false, false] kr rfl rfl (fun BX1 => ?_)
     clear BX
     generalize wr.drew = w9 at BX1 ⊢
     refine pure_ (i := 1) (N := some 18) (v := ?_) (a' := ?_) #[false, true, false, false, false, false, false] rfl rfl kr (fun _ _ _ h => h) (Or.inl ⟨by rfl, ?_⟩) ?_ ?_
     rotate_left
     · intro w'
       go_simp
       with_reducible rfl
     rotate_left
     · simp only [Act.put, List.setIfInBounds_toArray, List.set_cons_zero, List.set_cons_succ, i64_w, i32_w]
       rfl
     refine pure_ (i := 2) (N := some 19) (v := ?_) (a' := ?_) #[false, true, true, false, false, false, false] rfl rfl kr (fun _ _ _ h => h) (Or.inl ⟨by rfl, ?_⟩) ?_ ?_
     rotate_left
     · intro w'
       go_simp
       with_reducible rfl
     rotate_left
     · simp only [Act.put, List.setIfInBounds_toArray, List.set_cons_zero, List.set_cons_succ, i64_w, i32_w]
       rfl
     refine pure_ (i := 3) (N := some 20) (v := ?_) (a' := ?_) #[false, true, true, true, false, false, false] rfl rfl kr (fun _ _ _ h => h) (Or.inl ⟨by rfl, ?_⟩) ?_ ?_
     rotate_left
     · intro w'
       go_simp
       with_reducible rfl
     rotate_left
     · simp only [Act.put, List.setIfInBounds_toArray, List.set_cons_zero, List.set_cons_succ, i64_w, i32_w]
       rfl
     refine take_ (i := 0) (N := some 17) (v := ?_) (a' := ?_) #[true, true, true, true, false, false, false] rfl rfl kr (fun _ _ _ h => h) (Or.inl ⟨by rfl, ?_⟩) bxs ?_ ?_
     rotate_left
     · intro w' hS
       go_simp
       with_reducible rfl
     rotate_left
     · simp only [Act.put, List.setIfInBounds_toArray, List.set_cons_zero, List.set_cons_succ, i64_w, i32_w]
       rfl
     refine take_ (i := 4) (N := some 21) (v := ?_) (a' := ?_) #[true, true, true, true, true, false, false] rfl rfl kr (fun _ _ _ h => h) (Or.inl ⟨by rfl, ?_⟩) bxs ?_ ?_
     rotate_left
     · intro w' hS
       have y1 := ((hS.bl).cell (World.block_lt_of_cell? w _ z1)).trans z1
       have y2 := ((hS.bl).cell (World.block_lt_of_cell? w _ z2)).trans z2
       have y3 := ((hS.bl).cell (World.block_lt_of_cell? w _ z3)).trans z3
       have y4 := ((hS.bl).cell (World.block_lt_of_cell? w _ z4)).trans z4
       have y5 := ((hS.bl).cell (World.block_lt_of_cell? w _ z5)).trans z5
       have y6 := ((hS.bl).cell (World.block_lt_of_cell? w _ z6)).trans z6
       go_simp
       with_reducible rfl
     rotate_left
     · simp only [Act.put, List.setIfInBounds_toArray, List.set_cons_zero, List.set_cons_succ, i64_w, i32_w]
       rfl
     refine one_ (i := 5) (N := some 22) #[true, true, true, true, true, true, false] rfl rfl kr (by decide) (fun K hK => ?_)
     refine goes_ Tryz.func7 kr rfl #[.int .i64 16, .agg #[.int .i64 t1, .int .i64 t2, .int .i64 t3, .string t4, .bool t5, .int .i64 t6], .agg #[.int .i64 x1, .int .i64 x2, .int .i64 x3, .string x4, .bool x5, .int .i64 x6]] (by rfl) rfl rfl ga ?_
     with_reducible refine (whittleref2_Bin.calls k 16 t1 t2 t3 t4 t5 t6 x1 x2 x3 x4 x5 x6 u1 u2 u3 u4 u5 u6 _ A1.out).mono ?_
     rintro e w10 ⟨rfl, hb⟩
     refine ⟨_, rfl, ?_⟩
     have BX := bx_call hb
     clear hb
     refine hK.out _ _ bxs (fun hHeld => ?_)
     clear hK K hHeld
     refine norm_ (a' := ?_) ?_ ?_
     rotate_left
     · show Act.put _ (some 22) _ = _
       simp only [Act.put, List.setIfInBounds_toArray, List.set_cons_zero, List.set_cons_succ, i64_w, i32_w]
       rfl
     refine last_ (i := 6) (N := none) #[true, true, true, true, true, true, true] rfl rfl kr (by decide) (fun K hK => ?_)
     refine skip_ (w1 := ?_) (by rfl) rfl ?_ ?_
     rotate_left
     · go_simp
       rfl
     refine hK.out _ _ ?_
     clear hK K
     refine done_ kr ?_
     try go_wp2
     go_roundg k1
     case measure => omega
     case rel => exact ⟨i + 1, u1, u2, u3, u4, u5, u6, er, ⟨by have := HI.out; omega⟩, HJ, bxs⟩
end Go.Proofs.YtmakkdlkgfgaoaaGreatDoor.F
