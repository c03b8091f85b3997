-- Laid by program (wip/tools/genv.sh of this repo) out of the translation; Lean checks it.
import Derived.Test.YtmakkdlkgfgaoaaDoorF100
import Derived.Test.YtmakkdlkgfgaoaaDoorF103
import Derived.Test.YtmakkdlkgfgaoaaDoorF104
import Derived.Test.YtmakkdlkgfgaoaaDoorF112
import Derived.Test.YtmakkdlkgfgaoaaDoorF0
import Derived.Test.YtmakkdlkgfgaoaaDoorG1
namespace Go.Proofs.YtmakkdlkgfgaoaaDoor.F
open Go.RowKit Go.Proofs.YtmakkdlkgfgaoaaDoorW.PrintWords Go.Proofs.YtmakkdlkgfgaoaaDoorW.PrintLast Go.Proofs.YtmakkdlkgfgaoaaDoorW.PrintMore
attribute [local go_sem] max2_int min2_int max_two min_two max_three min_three max_four min_four   -- for this text's walks alone
set_option linter.unusedVariables false
set_option linter.unusedSimpArgs false
theorem blk_drew {w : World} {g : Nat} {o : Obj} (h : w.heap[g]? = some o) : w.drew.heap[g]? = some o := h

attribute [local go_sem high] eqA25
/-! ### whittlelaw2_ValueOrder: function 9 -/
mutual
def whittlelaw2_ValueOrder.l0 : Nat → List (S25) → Int → Int → Int → Int → ByteArray → Bool → Int → Int → Int → Int → ByteArray → Bool → Int → Int → Int → Int → ByteArray → Bool → Int → Option (Bool)
  | 0, _, _, _, _, _, _, _, _, _, _, _, _, _, _, _, _, _, _, _, _ => none
  | k + 1, x7, x8, x958000, x958001, x958002, x958003, x958004, x958005, x959000, x959001, x959002, x959003, x959004, x959005, x960000, x960001, x960002, x960003, x960004, x960005 => if x8 < 3 then (if 0 ≤ x8 then (if x8 < (x7.length : Int) then ((value_Right.f k ((rd_T25 x7 x8).f0) ((rd_T25 x7 x8).f1.f0) ((rd_T25 x7 x8).f1.f1) ((rd_T25 x7 x8).f2) ((rd_T25 x7 x8).f3) ((rd_T25 x7 x8).f4)).bind fun t965 => (if t965 = true then (if ((rd_T25 x7 x8).f0) = 0 then (some true) else (if ((rd_T25 x7 x8).f0) = 4 then (some true) else (whittlelaw2_ValueOrder.l0 k x7 (wrap64 (x8 + 1)) x958000 x958001 x958002 x958003 x958004 x958005 x959000 x959001 x959002 x959003 x959004 x959005 x960000 x960001 x960002 x960003 x960004 x960005))) else (some true))) else (none)) else (none)) else ((value_Cmp.f k x958000 x958001 x958002 x958003 x958004 x958005 x959000 x959001 x959002 x959003 x959004 x959005).bind fun t968 => (if t968 < (-1) then (whittlelaw2_ValueOrder.j1 k t968 true x958000 x958001 x958002 x958003 x958004 x958005 x959000 x959001 x959002 x959003 x959004 x959005 x960000 x960001 x960002 x960003 x960004 x960005) else (if t968 > 1 then (whittlelaw2_ValueOrder.j1 k t968 true x958000 x958001 x958002 x958003 x958004 x958005 x959000 x959001 x959002 x959003 x959004 x959005 x960000 x960001 x960002 x960003 x960004 x960005) else ((value_Cmp.f k x959000 x959001 x959002 x959003 x959004 x959005 x958000 x958001 x958002 x958003 x958004 x958005).bind fun t969 => (if t969 = (wrap64 (-t968)) then (if ((t968 == 0) != (x958000 == x959000 && ((x958001 == x959001 && (x958002 == x959002)) && (x958003.toList == x959003.toList && (x958004 == x959004 && (x958005 == x959005)))))) = true then (whittlelaw2_ValueOrder.j1 k t968 true x958000 x958001 x958002 x958003 x958004 x958005 x959000 x959001 x959002 x959003 x959004 x959005 x960000 x960001 x960002 x960003 x960004 x960005) else ((value_Same.f k x958000 x958001 x958002 x958003 x958004 x958005 x959000 x959001 x959002 x959003 x959004 x959005).bind fun t970 => (whittlelaw2_ValueOrder.j1 k t968 (t970 != (x958000 == x959000 && ((x958001 == x959001 && (x958002 == x959002)) && (x958003.toList == x959003.toList && (x958004 == x959004 && (x958005 == x959005)))))) x958000 x958001 x958002 x958003 x958004 x958005 x959000 x959001 x959002 x959003 x959004 x959005 x960000 x960001 x960002 x960003 x960004 x960005))) else (whittlelaw2_ValueOrder.j1 k t968 true x958000 x958001 x958002 x958003 x958004 x958005 x959000 x959001 x959002 x959003 x959004 x959005 x960000 x960001 x960002 x960003 x960004 x960005))))))
def whittlelaw2_ValueOrder.j1 : Nat → Int → Bool → Int → Int → Int → ByteArray → Bool → Int → Int → Int → Int → ByteArray → Bool → Int → Int → Int → Int → ByteArray → Bool → Int → Option (Bool)
  | 0, _, _, _, _, _, _, _, _, _, _, _, _, _, _, _, _, _, _, _, _ => none
  | k + 1, x9, x75, x958000, x958001, x958002, x958003, x958004, x958005, x959000, x959001, x959002, x959003, x959004, x959005, x960000, x960001, x960002, x960003, x960004, x960005 => if x75 = true then (some false) else (if x9 > 0 then (some true) else ((value_Cmp.f k x959000 x959001 x959002 x959003 x959004 x959005 x960000 x960001 x960002 x960003 x960004 x960005).bind fun t971 => (if t971 > 0 then (some true) else ((value_Cmp.f k x958000 x958001 x958002 x958003 x958004 x958005 x960000 x960001 x960002 x960003 x960004 x960005).bind fun t972 => (some (decide (t972 ≤ 0)))))))
end
def whittlelaw2_ValueOrder.f (k : Nat) (a0_0 : Int) (a0_1 : Int) (a0_2 : Int) (a0_3 : ByteArray) (a0_4 : Bool) (a0_5 : Int) (a1_0 : Int) (a1_1 : Int) (a1_2 : Int) (a1_3 : ByteArray) (a1_4 : Bool) (a1_5 : Int) (a2_0 : Int) (a2_1 : Int) (a2_2 : Int) (a2_3 : ByteArray) (a2_4 : Bool) (a2_5 : Int) : Option (Bool) := (whittlelaw2_able.f k).bind fun t960 => (if t960 = true then (whittlelaw2_ValueOrder.l0 k (([(⟨a0_0, (⟨a0_1, a0_2⟩ : S23), a0_3, a0_4, a0_5⟩ : S25), (⟨a1_0, (⟨a1_1, a1_2⟩ : S23), a1_3, a1_4, a1_5⟩ : S25), (⟨a2_0, (⟨a2_1, a2_2⟩ : S23), a2_3, a2_4, a2_5⟩ : S25)] : List (S25))) 0 a0_0 a0_1 a0_2 a0_3 a0_4 a0_5 a1_0 a1_1 a1_2 a1_3 a1_4 a1_5 a2_0 a2_1 a2_2 a2_3 a2_4 a2_5) else (some false))
theorem whittlelaw2_ValueOrder.mono_l : ∀ k, (∀ y0 y1 y2 y3 y4 y5 y6 y7 y8 y9 y10 y11 y12 y13 y14 y15 y16 y17 y18 y19, LeO (whittlelaw2_ValueOrder.l0 k y0 y1 y2 y3 y4 y5 y6 y7 y8 y9 y10 y11 y12 y13 y14 y15 y16 y17 y18 y19) (whittlelaw2_ValueOrder.l0 (k + 1) y0 y1 y2 y3 y4 y5 y6 y7 y8 y9 y10 y11 y12 y13 y14 y15 y16 y17 y18 y19)) ∧ (∀ y0 y1 y2 y3 y4 y5 y6 y7 y8 y9 y10 y11 y12 y13 y14 y15 y16 y17 y18 y19, LeO (whittlelaw2_ValueOrder.j1 k y0 y1 y2 y3 y4 y5 y6 y7 y8 y9 y10 y11 y12 y13 y14 y15 y16 y17 y18 y19) (whittlelaw2_ValueOrder.j1 (k + 1) y0 y1 y2 y3 y4 y5 y6 y7 y8 y9 y10 y11 y12 y13 y14 y15 y16 y17 y18 y19))
  | 0 => ⟨fun _ _ _ _ _ _ _ _ _ _ _ _ _ _ _ _ _ _ _ _ r h => by simp [whittlelaw2_ValueOrder.l0] at h, fun _ _ _ _ _ _ _ _ _ _ _ _ _ _ _ _ _ _ _ _ r h => by simp [whittlelaw2_ValueOrder.j1] at h⟩
  | k + 1 => by
    obtain ⟨ih0, ih1⟩ := whittlelaw2_ValueOrder.mono_l k
    refine ⟨?_, ?_⟩
    · intro y0 y1 y2 y3 y4 y5 y6 y7 y8 y9 y10 y11 y12 y13 y14 y15 y16 y17 y18 y19
      unfold whittlelaw2_ValueOrder.l0
      repeat' first
      | (with_reducible exact ih0 _ _ _ _ _ _ _ _ _ _ _ _ _ _ _ _ _ _ _ _)
      | (with_reducible exact ih1 _ _ _ _ _ _ _ _ _ _ _ _ _ _ _ _ _ _ _ _)
      | (with_reducible exact value_Cmp.mono _ _ _ _ _ _ _ _ _ _ _ _ _)
      | (with_reducible exact value_Right.mono _ _ _ _ _ _ _)
      | (with_reducible exact value_Same.mono _ _ _ _ _ _ _ _ _ _ _ _ _)
      | (with_reducible exact whittlelaw2_able.mono _)
      | (with_reducible exact LeO.refl _)
      | (with_reducible exact LeO.none _)
      | (with_reducible refine LeO.ite ?_ ?_)
      | (with_reducible refine LeO.bind ?_ (fun _ => ?_))
      | exact ih0 _ _ _ _ _ _ _ _ _ _ _ _ _ _ _ _ _ _ _ _
      | exact ih1 _ _ _ _ _ _ _ _ _ _ _ _ _ _ _ _ _ _ _ _
      | exact value_Cmp.mono _ _ _ _ _ _ _ _ _ _ _ _ _
      | exact value_Right.mono _ _ _ _ _ _ _
      | exact value_Same.mono _ _ _ _ _ _ _ _ _ _ _ _ _
      | exact whittlelaw2_able.mono _
      | exact LeO.none _
      | refine LeO.ite ?_ ?_
      | refine LeO.bind ?_ (fun _ => ?_)
    · intro y0 y1 y2 y3 y4 y5 y6 y7 y8 y9 y10 y11 y12 y13 y14 y15 y16 y17 y18 y19
      unfold whittlelaw2_ValueOrder.j1
      repeat' first
      | (with_reducible exact ih0 _ _ _ _ _ _ _ _ _ _ _ _ _ _ _ _ _ _ _ _)
      | (with_reducible exact ih1 _ _ _ _ _ _ _ _ _ _ _ _ _ _ _ _ _ _ _ _)
      | (with_reducible exact value_Cmp.mono _ _ _ _ _ _ _ _ _ _ _ _ _)
      | (with_reducible exact value_Right.mono _ _ _ _ _ _ _)
      | (with_reducible exact value_Same.mono _ _ _ _ _ _ _ _ _ _ _ _ _)
      | (with_reducible exact whittlelaw2_able.mono _)
      | (with_reducible exact LeO.refl _)
      | (with_reducible exact LeO.none _)
      | (with_reducible refine LeO.ite ?_ ?_)
      | (with_reducible refine LeO.bind ?_ (fun _ => ?_))
      | exact ih0 _ _ _ _ _ _ _ _ _ _ _ _ _ _ _ _ _ _ _ _
      | exact ih1 _ _ _ _ _ _ _ _ _ _ _ _ _ _ _ _ _ _ _ _
      | exact value_Cmp.mono _ _ _ _ _ _ _ _ _ _ _ _ _
      | exact value_Right.mono _ _ _ _ _ _ _
      | exact value_Same.mono _ _ _ _ _ _ _ _ _ _ _ _ _
      | exact whittlelaw2_able.mono _
      | exact LeO.none _
      | refine LeO.ite ?_ ?_
      | refine LeO.bind ?_ (fun _ => ?_)
theorem whittlelaw2_ValueOrder.mono : ∀ a0 a1 a2 a3 a4 a5 a6 a7 a8 a9 a10 a11 a12 a13 a14 a15 a16 a17 k, LeO (whittlelaw2_ValueOrder.f k a0 a1 a2 a3 a4 a5 a6 a7 a8 a9 a10 a11 a12 a13 a14 a15 a16 a17) (whittlelaw2_ValueOrder.f (k + 1) a0 a1 a2 a3 a4 a5 a6 a7 a8 a9 a10 a11 a12 a13 a14 a15 a16 a17) := by
  intro a0 a1 a2 a3 a4 a5 a6 a7 a8 a9 a10 a11 a12 a13 a14 a15 a16 a17 k
  obtain ⟨ih0, ih1⟩ := whittlelaw2_ValueOrder.mono_l k
  unfold whittlelaw2_ValueOrder.f
  repeat' first
      | (with_reducible exact ih0 _ _ _ _ _ _ _ _ _ _ _ _ _ _ _ _ _ _ _ _)
      | (with_reducible exact ih1 _ _ _ _ _ _ _ _ _ _ _ _ _ _ _ _ _ _ _ _)
      | (with_reducible exact value_Cmp.mono _ _ _ _ _ _ _ _ _ _ _ _ _)
      | (with_reducible exact value_Right.mono _ _ _ _ _ _ _)
      | (with_reducible exact value_Same.mono _ _ _ _ _ _ _ _ _ _ _ _ _)
      | (with_reducible exact whittlelaw2_able.mono _)
      | (with_reducible exact LeO.refl _)
      | (with_reducible exact LeO.none _)
      | (with_reducible refine LeO.ite ?_ ?_)
      | (with_reducible refine LeO.bind ?_ (fun _ => ?_))
      | exact ih0 _ _ _ _ _ _ _ _ _ _ _ _ _ _ _ _ _ _ _ _
      | exact ih1 _ _ _ _ _ _ _ _ _ _ _ _ _ _ _ _ _ _ _ _
      | exact value_Cmp.mono _ _ _ _ _ _ _ _ _ _ _ _ _
      | exact value_Right.mono _ _ _ _ _ _ _
      | exact value_Same.mono _ _ _ _ _ _ _ _ _ _ _ _ _
      | exact whittlelaw2_able.mono _
      | exact LeO.none _
      | refine LeO.ite ?_ ?_
      | refine LeO.bind ?_ (fun _ => ?_)
def whittlelaw2_ValueOrder.T10 : Bool × List (List Nat × List Nat) := (true, [([], []), ([0], [0]), ([1], [1]), ([2], [2]), ([3, 2], [2, 3]), ([2, 4], [2, 4]), ([5, 2], [5]), ([6], [6]), ([6], [6]), ([7, 8, 6, 6], [6, 7, 8]), ([6], [6]), ([10, 6], [6, 10]), ([9, 11, 6], [6, 9, 11]), ([6, 12], [6, 12]), ([13, 9], [13]), ([14], [14]), ([15, 14], [14, 15]), ([14], [14]), ([14], [14]), ([17, 18, 14], [14, 17, 18]), ([16, 19, 14], [14, 16, 19]), ([14, 20], [14, 20]), ([21, 14], [21]), ([22], [22]), ([22], [22]), ([23, 24, 22, 22], [22, 23, 24]), ([22], [22]), ([22], [22]), ([26, 27, 22], [22, 26, 27]), ([25, 28, 22], [22, 25, 28]), ([22, 29], [22, 29])])
def whittlelaw2_ValueOrder.B10 : List Nat := [0, 1, 3, 7, 15, 31, 63, 127, 127, 511, 127, 1151, 4095, 8191, 16383, 32767, 65535, 32767, 32767, 425983, 1048575, 2097151, 4194303, 8388607, 8388607, 33554431, 8388607, 8388607, 209715199, 536870911, 1073741823]
theorem whittlelaw2_ValueOrder.tab10 : rtab .any (opsOf Tryd.f9 10) = whittlelaw2_ValueOrder.T10 := by kernel_rfl
theorem whittlelaw2_ValueOrder.bits10 : waitsOk whittlelaw2_ValueOrder.T10.2 whittlelaw2_ValueOrder.B10 = true := by kernel_rfl
set_option maxHeartbeats 8000000 in
set_option maxRecDepth 100000 in
theorem whittlelaw2_ValueOrder.calls (k : Nat) (a0_0 : Int) (a0_1 : Int) (a0_2 : Int) (a0_3 : ByteArray) (a0_4 : Bool) (a0_5 : Int) (a1_0 : Int) (a1_1 : Int) (a1_2 : Int) (a1_3 : ByteArray) (a1_4 : Bool) (a1_5 : Int) (a2_0 : Int) (a2_1 : Int) (a2_2 : Int) (a2_3 : ByteArray) (a2_4 : Bool) (a2_5 : Int) (r : Bool) (w : World) (HT0 : TabAt w) (hr0 : r = true) (h : whittlelaw2_ValueOrder.f k a0_0 a0_1 a0_2 a0_3 a0_4 a0_5 a1_0 a1_1 a1_2 a1_3 a1_4 a1_5 a2_0 a2_1 a2_2 a2_3 a2_4 a2_5 = some r) :
    Calls Tryd.prog 9 #[.agg #[.int .i64 a0_0, .int .i64 a0_1, .int .i64 a0_2, .string a0_3, .bool a0_4, .int .i64 a0_5], .agg #[.int .i64 a1_0, .int .i64 a1_1, .int .i64 a1_2, .string a1_3, .bool a1_4, .int .i64 a1_5], .agg #[.int .i64 a2_0, .int .i64 a2_1, .int .i64 a2_2, .string a2_3, .bool a2_4, .int .i64 a2_5]] w fun e w' => e = .returned (.bool r) ∧ Below w.heap.size w w' := by
  have hu25 := Tryd.underlying25
  have HT := Aside0.mk HT0
  clear HT0
  have HR := Aside0.mk hr0
  clear hr0
  have HB := Aside0.mk (Below.refl w.heap.size w)
  have H : ((whittlelaw2_able.f k).bind fun t960 => (if t960 = true then (whittlelaw2_ValueOrder.l0 k (([(⟨a0_0, (⟨a0_1, a0_2⟩ : S23), a0_3, a0_4, a0_5⟩ : S25), (⟨a1_0, (⟨a1_1, a1_2⟩ : S23), a1_3, a1_4, a1_5⟩ : S25), (⟨a2_0, (⟨a2_1, a2_2⟩ : S23), a2_3, a2_4, a2_5⟩ : S25)] : List (S25))) 0 a0_0 a0_1 a0_2 a0_3 a0_4 a0_5 a1_0 a1_1 a1_2 a1_3 a1_4 a1_5 a2_0 a2_1 a2_2 a2_3 a2_4 a2_5) else (some false))) = some r := h
  clear h
  replace H := Option.bind_eq_some_iff.mp H
  obtain ⟨t960, A40, H⟩ := H
  replace H : (if t960 = true then (whittlelaw2_ValueOrder.l0 k (([(⟨a0_0, (⟨a0_1, a0_2⟩ : S23), a0_3, a0_4, a0_5⟩ : S25), (⟨a1_0, (⟨a1_1, a1_2⟩ : S23), a1_3, a1_4, a1_5⟩ : S25), (⟨a2_0, (⟨a2_1, a2_2⟩ : S23), a2_3, a2_4, a2_5⟩ : S25)] : List (S25))) 0 a0_0 a0_1 a0_2 a0_3 a0_4 a0_5 a1_0 a1_1 a1_2 a1_3 a1_4 a1_5 a2_0 a2_1 a2_2 a2_3 a2_4 a2_5) else (some false)) = some r := H
  have A4 := Aside0.mk A40
  clear A40
  by_cases c5 : t960 = true
  · subst c5
    have H1 : (whittlelaw2_ValueOrder.l0 k (([(⟨a0_0, (⟨a0_1, a0_2⟩ : S23), a0_3, a0_4, a0_5⟩ : S25), (⟨a1_0, (⟨a1_1, a1_2⟩ : S23), a1_3, a1_4, a1_5⟩ : S25), (⟨a2_0, (⟨a2_1, a2_2⟩ : S23), a2_3, a2_4, a2_5⟩ : S25)] : List (S25))) 0 a0_0 a0_1 a0_2 a0_3 a0_4 a0_5 a1_0 a1_1 a1_2 a1_3 a1_4 a1_5 a2_0 a2_1 a2_2 a2_3 a2_4 a2_5) = some r := by rw [if_pos rfl] at H; exact H
    clear H
    have H := H1
    clear H1
    obtain ⟨y961, hy961⟩ : ∃ y_ : List (S25), y_ = (([(⟨a0_0, (⟨a0_1, a0_2⟩ : S23), a0_3, a0_4, a0_5⟩ : S25), (⟨a1_0, (⟨a1_1, a1_2⟩ : S23), a1_3, a1_4, a1_5⟩ : S25), (⟨a2_0, (⟨a2_1, a2_2⟩ : S23), a2_3, a2_4, a2_5⟩ : S25)] : List (S25))) := ⟨_, rfl⟩
    replace H : (whittlelaw2_ValueOrder.l0 k y961 0 a0_0 a0_1 a0_2 a0_3 a0_4 a0_5 a1_0 a1_1 a1_2 a1_3 a1_4 a1_5 a2_0 a2_1 a2_2 a2_3 a2_4 a2_5) = some r := by first | (rw [hy961]; with_reducible exact H) | (have H2_ := (Option.bind_some _ _).symm.trans H; rw [hy961]; with_reducible exact H2_) | (have H2_ := (Option.bind_some _ _).symm.trans H; with_reducible exact H2_) | with_reducible exact H | (rw [hy961]; exact H) | exact H
    have Ny961 := Aside0.mk hy961
    clear hy961
    have H' := Aside0.mk H
    clear H
    go_enter Tryd.func9, Tryd.ntmps9
    go_wp2_with (first | ((with_reducible refine gate_dst (N := 3) rfl ?_); refine box_event ?hg (N := 3) ?hd (cs := #[.int .i64 a0_0, .int .i64 a0_1, .int .i64 a0_2, .string a0_3, .bool a0_4, .int .i64 a0_5]) (t := 25) ?hr ?_; (case hd => rfl); (case hg => rfl); (case hr => first | (go_simp; done) | (go_simp; rfl)); intro gb957 hg w6 hbox hb; have n0_ := Aside0.mk (below_step (by repeat (first | (with_reducible first | exact HB.out | apply below_alloc | apply pw_below_drewN | apply below_drew1) | exact HB.out)) hb); have n1_ := Aside0.mk (hbox); have n2_ := Aside0.mk ((by rw [hg]; exact (below_size (by repeat (first | (with_reducible first | exact HB.out | apply below_alloc | apply pw_below_drewN | apply below_drew1) | exact HB.out))) : w.heap.size ≤ gb957)); have n3_ := Aside0.mk ((by rw [hg]; exact (below_size (by repeat (first | (with_reducible first | exact HB.out | apply below_alloc | apply pw_below_drewN | apply below_drew1) | exact HB.out))) : w.heap.size ≤ gb957)); clear HB; have HB := n0_; have BK957 := n1_; have GW957 := n2_; have GE957 := n3_; clear n0_ n1_ n2_ n3_; clear hb hbox hg) | ((with_reducible refine gate_dst (N := 4) rfl ?_); refine box_event ?hg (N := 4) ?hd (cs := #[.int .i64 a1_0, .int .i64 a1_1, .int .i64 a1_2, .string a1_3, .bool a1_4, .int .i64 a1_5]) (t := 25) ?hr ?_; (case hd => rfl); (case hg => rfl); (case hr => first | (go_simp; done) | (go_simp; rfl)); intro gb958 hg w7 hbox hb; have n0_ := Aside0.mk (blk_below (g := gb957) (o := .cells #[.int .i64 a0_0, .int .i64 a0_1, .int .i64 a0_2, .string a0_3, .bool a0_4, .int .i64 a0_5] 25 (0, 0)) (by (with_reducible repeat (first | refine blk_drewN ?_ _ | refine blk_drew ?_ | refine blk_alloc ?_ _)); exact BK957.out) hb); have n1_ := Aside0.mk (below_step (by repeat (first | (with_reducible first | exact HB.out | apply below_alloc | apply pw_below_drewN | apply below_drew1 | refine below_set ?_ GE957.out) | exact HB.out)) hb); have n2_ := Aside0.mk (hbox); have n3_ := Aside0.mk ((by rw [hg]; exact (below_size (by repeat (first | (with_reducible first | exact HB.out | apply below_alloc | apply pw_below_drewN | apply below_drew1 | refine below_set ?_ GE957.out) | exact HB.out))) : w.heap.size ≤ gb958)); have n4_ := Aside0.mk ((by rw [hg]; exact (below_size (by repeat (first | (with_reducible first | exact HB.out | apply below_alloc | apply pw_below_drewN | apply below_drew1 | refine below_set ?_ GE957.out) | exact HB.out))) : w.heap.size ≤ gb958)); have n5_ := Aside0.mk ((by rw [hg]; exact Nat.ne_of_lt (blk_lt (g := gb957) (o := .cells #[.int .i64 a0_0, .int .i64 a0_1, .int .i64 a0_2, .string a0_3, .bool a0_4, .int .i64 a0_5] 25 (0, 0)) (by (with_reducible repeat (first | refine blk_drewN ?_ _ | refine blk_drew ?_ | refine blk_alloc ?_ _)); exact BK957.out)) : gb957 ≠ gb958)); have n6_ := Aside0.mk ((by rw [hg]; exact Nat.ne_of_gt (blk_lt (g := gb957) (o := .cells #[.int .i64 a0_0, .int .i64 a0_1, .int .i64 a0_2, .string a0_3, .bool a0_4, .int .i64 a0_5] 25 (0, 0)) (by (with_reducible repeat (first | refine blk_drewN ?_ _ | refine blk_drew ?_ | refine blk_alloc ?_ _)); exact BK957.out)) : gb958 ≠ gb957)); clear BK957; clear HB; have BK957 := n0_; have HB := n1_; have BK958 := n2_; have GW958 := n3_; have GE958 := n4_; have NB957_958 := n5_; have NB958_957 := n6_; clear n0_ n1_ n2_ n3_ n4_ n5_ n6_; clear hb hbox hg) | ((with_reducible refine gate_dst (N := 5) rfl ?_); refine box_event ?hg (N := 5) ?hd (cs := #[.int .i64 a2_0, .int .i64 a2_1, .int .i64 a2_2, .string a2_3, .bool a2_4, .int .i64 a2_5]) (t := 25) ?hr ?_; (case hd => rfl); (case hg => rfl); (case hr => first | (go_simp; done) | (go_simp; rfl)); intro gb959 hg w8 hbox hb; have n0_ := Aside0.mk (blk_below (g := gb957) (o := .cells #[.int .i64 a0_0, .int .i64 a0_1, .int .i64 a0_2, .string a0_3, .bool a0_4, .int .i64 a0_5] 25 (0, 0)) (by (with_reducible repeat (first | refine blk_drewN ?_ _ | refine blk_drew ?_ | refine blk_alloc ?_ _)); exact BK957.out) hb); have n1_ := Aside0.mk (blk_below (g := gb958) (o := .cells #[.int .i64 a1_0, .int .i64 a1_1, .int .i64 a1_2, .string a1_3, .bool a1_4, .int .i64 a1_5] 25 (0, 0)) (by (with_reducible repeat (first | refine blk_drewN ?_ _ | refine blk_drew ?_ | refine blk_alloc ?_ _)); exact BK958.out) hb); have n2_ := Aside0.mk (below_step (by repeat (first | (with_reducible first | exact HB.out | apply below_alloc | apply pw_below_drewN | apply below_drew1 | refine below_set ?_ GE957.out | refine below_set ?_ GE958.out) | exact HB.out)) hb); have n3_ := Aside0.mk (hbox); have n4_ := Aside0.mk ((by rw [hg]; exact (below_size (by repeat (first | (with_reducible first | exact HB.out | apply below_alloc | apply pw_below_drewN | apply below_drew1 | refine below_set ?_ GE957.out | refine below_set ?_ GE958.out) | exact HB.out))) : w.heap.size ≤ gb959)); have n5_ := Aside0.mk ((by rw [hg]; exact (below_size (by repeat (first | (with_reducible first | exact HB.out | apply below_alloc | apply pw_below_drewN | apply below_drew1 | refine below_set ?_ GE957.out | refine below_set ?_ GE958.out) | exact HB.out))) : w.heap.size ≤ gb959)); have n6_ := Aside0.mk ((by rw [hg]; exact Nat.ne_of_lt (blk_lt (g := gb957) (o := .cells #[.int .i64 a0_0, .int .i64 a0_1, .int .i64 a0_2, .string a0_3, .bool a0_4, .int .i64 a0_5] 25 (0, 0)) (by (with_reducible repeat (first | refine blk_drewN ?_ _ | refine blk_drew ?_ | refine blk_alloc ?_ _)); exact BK957.out)) : gb957 ≠ gb959)); have n7_ := Aside0.mk ((by rw [hg]; exact Nat.ne_of_gt (blk_lt (g := gb957) (o := .cells #[.int .i64 a0_0, .int .i64 a0_1, .int .i64 a0_2, .string a0_3, .bool a0_4, .int .i64 a0_5] 25 (0, 0)) (by (with_reducible repeat (first | refine blk_drewN ?_ _ | refine blk_drew ?_ | refine blk_alloc ?_ _)); exact BK957.out)) : gb959 ≠ gb957)); have n8_ := Aside0.mk ((by rw [hg]; exact Nat.ne_of_lt (blk_lt (g := gb958) (o := .cells #[.int .i64 a1_0, .int .i64 a1_1, .int .i64 a1_2, .string a1_3, .bool a1_4, .int .i64 a1_5] 25 (0, 0)) (by (with_reducible repeat (first | refine blk_drewN ?_ _ | refine blk_drew ?_ | refine blk_alloc ?_ _)); exact BK958.out)) : gb958 ≠ gb959)); have n9_ := Aside0.mk ((by rw [hg]; exact Nat.ne_of_gt (blk_lt (g := gb958) (o := .cells #[.int .i64 a1_0, .int .i64 a1_1, .int .i64 a1_2, .string a1_3, .bool a1_4, .int .i64 a1_5] 25 (0, 0)) (by (with_reducible repeat (first | refine blk_drewN ?_ _ | refine blk_drew ?_ | refine blk_alloc ?_ _)); exact BK958.out)) : gb959 ≠ gb958)); clear BK957; clear BK958; clear HB; have BK957 := n0_; have BK958 := n1_; have HB := n2_; have BK959 := n3_; have GW959 := n4_; have GE959 := n5_; have NB957_959 := n6_; have NB959_957 := n7_; have NB958_959 := n8_; have NB959_958 := n9_; clear n0_ n1_ n2_ n3_ n4_ n5_ n6_ n7_ n8_ n9_; clear hb hbox hg) | ((with_reducible refine gate_callee (f := 15) rfl ?_); refine goesL_ (some 10) rfl rfl Tryd.func15 (by kernel_rfl) rfl #[] rfl (by (try simp only [List.map_toArray, List.map_cons, List.map_nil]); first | done | rfl | (simp only [List.length_drop, List.length_take]; rfl)) ?_; (with_reducible refine (whittlelaw2_able.calls k  true _ ?side1 A4.out).mono ?_); (case side1 => exact HT.out.on (by repeat (first | (with_reducible first | exact HB.out | apply below_alloc | apply pw_below_drewN | apply below_drew1 | refine below_set ?_ GE957.out | refine below_set ?_ GE958.out | refine below_set ?_ GE959.out) | exact HB.out))); rintro e w9 ⟨rfl, hb⟩; refine ⟨_, rfl, ?_⟩; have n0_ := Aside0.mk (blk_below (g := gb957) (o := .cells #[.int .i64 a0_0, .int .i64 a0_1, .int .i64 a0_2, .string a0_3, .bool a0_4, .int .i64 a0_5] 25 (0, 0)) (by (with_reducible repeat (first | refine blk_drewN ?_ _ | refine blk_drew ?_ | refine blk_alloc ?_ _)); exact BK957.out) hb); have n1_ := Aside0.mk (blk_below (g := gb958) (o := .cells #[.int .i64 a1_0, .int .i64 a1_1, .int .i64 a1_2, .string a1_3, .bool a1_4, .int .i64 a1_5] 25 (0, 0)) (by (with_reducible repeat (first | refine blk_drewN ?_ _ | refine blk_drew ?_ | refine blk_alloc ?_ _)); exact BK958.out) hb); have n2_ := Aside0.mk (blk_below (g := gb959) (o := .cells #[.int .i64 a2_0, .int .i64 a2_1, .int .i64 a2_2, .string a2_3, .bool a2_4, .int .i64 a2_5] 25 (0, 0)) (by (with_reducible repeat (first | refine blk_drewN ?_ _ | refine blk_drew ?_ | refine blk_alloc ?_ _)); exact BK959.out) hb); have n3_ := Aside0.mk (below_step (by repeat (first | (with_reducible first | exact HB.out | apply below_alloc | apply pw_below_drewN | apply below_drew1 | refine below_set ?_ GE957.out | refine below_set ?_ GE958.out | refine below_set ?_ GE959.out) | exact HB.out)) hb); clear BK957; clear BK958; clear BK959; clear HB; have BK957 := n0_; have BK958 := n1_; have BK959 := n2_; have HB := n3_; clear n0_ n1_ n2_ n3_; (try clear hb); (try clear hb2); (try clear hk); (try clear hi); have hnb10 := NB957_958.out; have hnc10 := NB958_957.out; have hnb11 := NB957_959.out; have hnc11 := NB959_957.out; have hcz12_0 : w9.cell? ⟨gb957, 0, none⟩ = some (.int .i64 a0_0) := (blk_cell BK957.out 0).trans rfl; have hcz12_1 : w9.cell? ⟨gb957, 1, none⟩ = some (.int .i64 a0_1) := (blk_cell BK957.out 1).trans rfl; have hcz12_2 : w9.cell? ⟨gb957, 2, none⟩ = some (.int .i64 a0_2) := (blk_cell BK957.out 2).trans rfl; have hcz12_3 : w9.cell? ⟨gb957, 3, none⟩ = some (.string a0_3) := (blk_cell BK957.out 3).trans rfl; have hcz12_4 : w9.cell? ⟨gb957, 4, none⟩ = some (.bool a0_4) := (blk_cell BK957.out 4).trans rfl; have hcz12_5 : w9.cell? ⟨gb957, 5, none⟩ = some (.int .i64 a0_5) := (blk_cell BK957.out 5).trans rfl; have hfz12_0 := blk_frozen BK957.out 0; have hfz12_1 := blk_frozen BK957.out 1; have hfz12_2 := blk_frozen BK957.out 2; have hfz12_3 := blk_frozen BK957.out 3; have hfz12_4 := blk_frozen BK957.out 4; have hfz12_5 := blk_frozen BK957.out 5; have hnb13 := NB958_959.out; have hnc13 := NB959_958.out; have hcz14_0 : w9.cell? ⟨gb958, 0, none⟩ = some (.int .i64 a1_0) := (blk_cell BK958.out 0).trans rfl; have hcz14_1 : w9.cell? ⟨gb958, 1, none⟩ = some (.int .i64 a1_1) := (blk_cell BK958.out 1).trans rfl; have hcz14_2 : w9.cell? ⟨gb958, 2, none⟩ = some (.int .i64 a1_2) := (blk_cell BK958.out 2).trans rfl; have hcz14_3 : w9.cell? ⟨gb958, 3, none⟩ = some (.string a1_3) := (blk_cell BK958.out 3).trans rfl; have hcz14_4 : w9.cell? ⟨gb958, 4, none⟩ = some (.bool a1_4) := (blk_cell BK958.out 4).trans rfl; have hcz14_5 : w9.cell? ⟨gb958, 5, none⟩ = some (.int .i64 a1_5) := (blk_cell BK958.out 5).trans rfl; have hfz14_0 := blk_frozen BK958.out 0; have hfz14_1 := blk_frozen BK958.out 1; have hfz14_2 := blk_frozen BK958.out 2; have hfz14_3 := blk_frozen BK958.out 3; have hfz14_4 := blk_frozen BK958.out 4; have hfz14_5 := blk_frozen BK958.out 5; have hcz15_0 : w9.cell? ⟨gb959, 0, none⟩ = some (.int .i64 a2_0) := (blk_cell BK959.out 0).trans rfl; have hcz15_1 : w9.cell? ⟨gb959, 1, none⟩ = some (.int .i64 a2_1) := (blk_cell BK959.out 1).trans rfl; have hcz15_2 : w9.cell? ⟨gb959, 2, none⟩ = some (.int .i64 a2_2) := (blk_cell BK959.out 2).trans rfl; have hcz15_3 : w9.cell? ⟨gb959, 3, none⟩ = some (.string a2_3) := (blk_cell BK959.out 3).trans rfl; have hcz15_4 : w9.cell? ⟨gb959, 4, none⟩ = some (.bool a2_4) := (blk_cell BK959.out 4).trans rfl; have hcz15_5 : w9.cell? ⟨gb959, 5, none⟩ = some (.int .i64 a2_5) := (blk_cell BK959.out 5).trans rfl; have hfz15_0 := blk_frozen BK959.out 0; have hfz15_1 := blk_frozen BK959.out 1; have hfz15_2 := blk_frozen BK959.out 2; have hfz15_3 := blk_frozen BK959.out 3; have hfz15_4 := blk_frozen BK959.out 4; have hfz15_5 := blk_frozen BK959.out 5) | ((with_reducible refine gate_dst (N := 15) rfl ?_); refine Kd.R_lit k25 _ 25 ?hg (N := 15) ?hd (xs := ([(⟨a0_0, (⟨a0_1, a0_2⟩ : S23), a0_3, a0_4, a0_5⟩ : S25), (⟨a1_0, (⟨a1_1, a1_2⟩ : S23), a1_3, a1_4, a1_5⟩ : S25), (⟨a2_0, (⟨a2_1, a2_2⟩ : S23), a2_3, a2_4, a2_5⟩ : S25)] : List (S25))) (inner := [.int .i64 a0_0, .int .i64 a0_1, .int .i64 a0_2, .string a0_3, .bool a0_4, .int .i64 a0_5, .int .i64 a1_0, .int .i64 a1_1, .int .i64 a1_2, .string a1_3, .bool a1_4, .int .i64 a1_5, .int .i64 a2_0, .int .i64 a2_1, .int .i64 a2_2, .string a2_3, .bool a2_4, .int .i64 a2_5]) (ok := fun _ => True) (okp := fun _ => True) ?hr ?hp (fun _ hk => hk) trivial (Below.refl _ _) (Nat.le_refl _) (by simp) ?_; (case hd => rfl); (case hg => rfl); (case hr => first | (go_simp; done) | (go_simp; rfl)); (case hp => exact (Reps.c6 (show Kd.M k25 _ _ _ (⟨a0_0, (⟨a0_1, a0_2⟩ : S23), a0_3, a0_4, a0_5⟩ : S25) [.int .i64 a0_0, .int .i64 a0_1, .int .i64 a0_2, .string a0_3, .bool a0_4, .int .i64 a0_5] from (k25_mkM _ _ _ (⟨a0_0, (⟨a0_1, a0_2⟩ : S23), a0_3, a0_4, a0_5⟩ : S25) )) (Reps.c6 (show Kd.M k25 _ _ _ (⟨a1_0, (⟨a1_1, a1_2⟩ : S23), a1_3, a1_4, a1_5⟩ : S25) [.int .i64 a1_0, .int .i64 a1_1, .int .i64 a1_2, .string a1_3, .bool a1_4, .int .i64 a1_5] from (k25_mkM _ _ _ (⟨a1_0, (⟨a1_1, a1_2⟩ : S23), a1_3, a1_4, a1_5⟩ : S25) )) (Reps.c6 (show Kd.M k25 _ _ _ (⟨a2_0, (⟨a2_1, a2_2⟩ : S23), a2_3, a2_4, a2_5⟩ : S25) [.int .i64 a2_0, .int .i64 a2_1, .int .i64 a2_2, .string a2_3, .bool a2_4, .int .i64 a2_5] from (k25_mkM _ _ _ (⟨a2_0, (⟨a2_1, a2_2⟩ : S23), a2_3, a2_4, a2_5⟩ : S25) )) (Reps.none _ _))))); intro v962 w16 ho17 hb hg_ hnew_; clear hg_ hnew_; (first | rw [← Ny961.out] at ho17 | (simp only [Int.reduceToNat] at ho17; rw [← Ny961.out] at ho17)); have n0_ := Aside0.mk (Kd.R_lower (Kd.R_newB (Kd.R_newB (Kd.R_newB ho17 (g := gb957) (o := .cells #[.int .i64 a0_0, .int .i64 a0_1, .int .i64 a0_2, .string a0_3, .bool a0_4, .int .i64 a0_5] 25 (0, 0)) (by (with_reducible repeat (first | refine blk_drewN ?_ _ | refine blk_drew ?_ | refine blk_alloc ?_ _)); exact BK957.out)) (g := gb958) (o := .cells #[.int .i64 a1_0, .int .i64 a1_1, .int .i64 a1_2, .string a1_3, .bool a1_4, .int .i64 a1_5] 25 (0, 0)) (by (with_reducible repeat (first | refine blk_drewN ?_ _ | refine blk_drew ?_ | refine blk_alloc ?_ _)); exact BK958.out)) (g := gb959) (o := .cells #[.int .i64 a2_0, .int .i64 a2_1, .int .i64 a2_2, .string a2_3, .bool a2_4, .int .i64 a2_5] 25 (0, 0)) (by (with_reducible repeat (first | refine blk_drewN ?_ _ | refine blk_drew ?_ | refine blk_alloc ?_ _)); exact BK959.out)) (below_size (by repeat (first | (with_reducible first | exact HB.out | apply below_alloc | apply pw_below_drewN | apply below_drew1 | refine below_set ?_ GE957.out | refine below_set ?_ GE958.out | refine below_set ?_ GE959.out) | exact HB.out)))); have n1_ := Aside0.mk (blk_below (g := gb957) (o := .cells #[.int .i64 a0_0, .int .i64 a0_1, .int .i64 a0_2, .string a0_3, .bool a0_4, .int .i64 a0_5] 25 (0, 0)) (by (with_reducible repeat (first | refine blk_drewN ?_ _ | refine blk_drew ?_ | refine blk_alloc ?_ _)); exact BK957.out) hb); have n2_ := Aside0.mk (blk_below (g := gb958) (o := .cells #[.int .i64 a1_0, .int .i64 a1_1, .int .i64 a1_2, .string a1_3, .bool a1_4, .int .i64 a1_5] 25 (0, 0)) (by (with_reducible repeat (first | refine blk_drewN ?_ _ | refine blk_drew ?_ | refine blk_alloc ?_ _)); exact BK958.out) hb); have n3_ := Aside0.mk (blk_below (g := gb959) (o := .cells #[.int .i64 a2_0, .int .i64 a2_1, .int .i64 a2_2, .string a2_3, .bool a2_4, .int .i64 a2_5] 25 (0, 0)) (by (with_reducible repeat (first | refine blk_drewN ?_ _ | refine blk_drew ?_ | refine blk_alloc ?_ _)); exact BK959.out) hb); have n4_ := Aside0.mk (below_step (by repeat (first | (with_reducible first | exact HB.out | apply below_alloc | apply pw_below_drewN | apply below_drew1 | refine below_set ?_ GE957.out | refine below_set ?_ GE958.out | refine below_set ?_ GE959.out) | exact HB.out)) hb); clear BK957; clear BK958; clear BK959; clear HB; have HO963 := n0_; have BK957 := n1_; have BK958 := n2_; have BK959 := n3_; have HB := n4_; clear n0_ n1_ n2_ n3_ n4_; clear hb ho17))
    go_loopg [8] k (fun kq v8 w' => ∃ (x8_1 : Int), v8 = .int .i64 x8_1 ∧ Aside0 (whittlelaw2_ValueOrder.l0 kq y961 x8_1 a0_0 a0_1 a0_2 a0_3 a0_4 a0_5 a1_0 a1_1 a1_2 a1_3 a1_4 a1_5 a2_0 a2_1 a2_2 a2_3 a2_4 a2_5 = some r) ∧ Aside0 (kq ≤ k) ∧ Aside0 (Kd.R k25 25 w' w.heap.size (fun k_ => k_ ≠ gb957 ∧ k_ ≠ gb958 ∧ k_ ≠ gb959) v962 y961) ∧ Aside0 (w'.heap[gb957]? = some (.cells #[.int .i64 a0_0, .int .i64 a0_1, .int .i64 a0_2, .string a0_3, .bool a0_4, .int .i64 a0_5] 25 (0, 0))) ∧ Aside0 (w'.heap[gb958]? = some (.cells #[.int .i64 a1_0, .int .i64 a1_1, .int .i64 a1_2, .string a1_3, .bool a1_4, .int .i64 a1_5] 25 (0, 0))) ∧ Aside0 (w'.heap[gb959]? = some (.cells #[.int .i64 a2_0, .int .i64 a2_1, .int .i64 a2_2, .string a2_3, .bool a2_4, .int .i64 a2_5] 25 (0, 0))) ∧ Aside0 (Below w.heap.size w w'))
    case atStart => exact ⟨(0), (by first | rfl | (simp; done) | (simp [*]; done) | (simp [bne_nil]; done)), H', ⟨Nat.le_refl _⟩, ⟨by (with_reducible repeat (first | apply Kd.R_alloc | apply Kd.R_drewN | apply Kd.R_drew)); exact Kd.R_mono HO963.out (fun _ hk => ⟨hk.1.1.2, ⟨hk.1.2, hk.2⟩⟩)⟩, ⟨by (with_reducible repeat (first | refine blk_drewN ?_ _ | refine blk_drew ?_ | refine blk_alloc ?_ _)); exact BK957.out⟩, ⟨by (with_reducible repeat (first | refine blk_drewN ?_ _ | refine blk_drew ?_ | refine blk_alloc ?_ _)); exact BK958.out⟩, ⟨by (with_reducible repeat (first | refine blk_drewN ?_ _ | refine blk_drew ?_ | refine blk_alloc ?_ _)); exact BK959.out⟩, ⟨by repeat (first | (with_reducible first | exact HB.out | apply below_alloc | apply pw_below_drewN | apply below_drew1 | refine below_set ?_ GE957.out | refine below_set ?_ GE958.out | refine below_set ?_ GE959.out) | exact HB.out)⟩⟩
    case round =>
      clear H'
      try clear c1
      try clear p2
      try clear c5
      try clear c6
      try clear c9
      try clear c10
      try clear c11
      try clear c13
      try clear c15
      try clear hcz12_0
      try clear hcz12_1
      try clear hcz12_2
      try clear hcz12_3
      try clear hcz12_4
      try clear hcz12_5
      try clear hcz14_0
      try clear hcz14_1
      try clear hcz14_2
      try clear hcz14_3
      try clear hcz14_4
      try clear hcz14_5
      try clear hcz15_0
      try clear hcz15_1
      try clear hcz15_2
      try clear hcz15_3
      try clear hcz15_4
      try clear hcz15_5
      try clear hfz12_0
      try clear hfz12_1
      try clear hfz12_2
      try clear hfz12_3
      try clear hfz12_4
      try clear hfz12_5
      try clear hfz14_0
      try clear hfz14_1
      try clear hfz14_2
      try clear hfz14_3
      try clear hfz14_4
      try clear hfz14_5
      try clear hfz15_0
      try clear hfz15_1
      try clear hfz15_2
      try clear hfz15_3
      try clear hfz15_4
      try clear hfz15_5
      obtain ⟨x8_1, rfl, HA, HK1, HO_7, BK957, BK958, BK959, HB⟩ := hrel
      cases gk with
      | zero => exact absurd HA.out (by simp [whittlelaw2_ValueOrder.l0])
      | succ k1 =>
        have H := HA.out
        clear HA
        simp only [whittlelaw2_ValueOrder.l0] at H
        by_cases c18 : x8_1 < 3
        · rw [if_pos c18] at H
          have c18b0 : decide (x8_1 < 3) = true := decide_eq_true c18
          clear c18
          by_cases c19 : 0 ≤ x8_1
          · rw [if_pos c19] at H
            have c19b0 : decide (0 ≤ x8_1) = true := decide_eq_true c19
            clear c19
            by_cases c20 : x8_1 < (y961.length : Int)
            · rw [if_pos c20] at H
              have c20b0 : decide (x8_1 < (y961.length : Int)) = true := decide_eq_true c20
              clear c20
              replace H := Option.bind_eq_some_iff.mp H
              obtain ⟨t965, A210, H⟩ := H
              replace H : (if t965 = true then (if ((rd_T25 y961 x8_1).f0) = 0 then (some true) else (if ((rd_T25 y961 x8_1).f0) = 4 then (some true) else (whittlelaw2_ValueOrder.l0 k1 y961 (wrap64 (x8_1 + 1)) a0_0 a0_1 a0_2 a0_3 a0_4 a0_5 a1_0 a1_1 a1_2 a1_3 a1_4 a1_5 a2_0 a2_1 a2_2 a2_3 a2_4 a2_5))) else (some true)) = some r := H
              have A21 := Aside0.mk A210
              clear A210
              by_cases c22 : t965 = true
              · subst c22
                have H1 : (if ((rd_T25 y961 x8_1).f0) = 0 then (some true) else (if ((rd_T25 y961 x8_1).f0) = 4 then (some true) else (whittlelaw2_ValueOrder.l0 k1 y961 (wrap64 (x8_1 + 1)) a0_0 a0_1 a0_2 a0_3 a0_4 a0_5 a1_0 a1_1 a1_2 a1_3 a1_4 a1_5 a2_0 a2_1 a2_2 a2_3 a2_4 a2_5))) = some r := by rw [if_pos rfl] at H; exact H
                clear H
                have H := H1
                clear H1
                by_cases c23 : ((rd_T25 y961 x8_1).f0) = 0
                · rw [if_pos c23] at H
                  have c23b0 : (((rd_T25 y961 x8_1).f0) == 0) = true := beq_iff_eq.mpr c23
                  have c23b1 : (((rd_T25 y961 x8_1).f0) != 0) = false := bne_eq_false_iff_eq.mpr c23
                  clear c23
                  clear HR
                  obtain rfl := Option.some.inj H
                  obtain ⟨Ao24, co24, eo24⟩ := Kd.R_slice HO_7.out
                  subst eo24
                  have p964 : 0 ≤ (x8_1 : Int) := of_decide_eq_true (by first | (with_reducible assumption) | assumption)
                  have q964 : x8_1 < (y961.length : Int) := of_decide_eq_true (by first | (with_reducible assumption) | assumption)
                  obtain ⟨ad964, e964, hx964_0, hx964_1, hx964_2, hx964_3, hx964_4, hx964_5⟩ := at_T25 (Kd.R_reads' HO_7.out).2.2 x8_1 p964 q964
                  cases e964
                  replace p964 := eq_true p964
                  replace q964 := eq_true q964
                  go_wp2_with (first | ((with_reducible refine gate_callee (f := 16) rfl ?_); refine goesL_ (some 24) rfl rfl Tryd.func16 (by kernel_rfl) rfl #[.agg #[.int .i64 ((rd_T25 y961 x8_1).f0), .int .i64 ((rd_T25 y961 x8_1).f1.f0), .int .i64 ((rd_T25 y961 x8_1).f1.f1), .string ((rd_T25 y961 x8_1).f2), .bool ((rd_T25 y961 x8_1).f3), .int .i64 ((rd_T25 y961 x8_1).f4)]] rfl (by (try simp only [List.map_toArray, List.map_cons, List.map_nil]); first | done | rfl | (simp only [List.length_drop, List.length_take]; rfl)) ?_; (with_reducible refine (value_Right.calls k1 ((rd_T25 y961 x8_1).f0) ((rd_T25 y961 x8_1).f1.f0) ((rd_T25 y961 x8_1).f1.f1) ((rd_T25 y961 x8_1).f2) ((rd_T25 y961 x8_1).f3) ((rd_T25 y961 x8_1).f4) true _ A21.out).mono ?_); rintro e w25 ⟨rfl, hb⟩; refine ⟨_, rfl, ?_⟩; have n0_ := Aside0.mk (Kd.R_below (by (with_reducible repeat (first | apply Kd.R_alloc | apply Kd.R_drewN | apply Kd.R_drew)); exact HO_7.out) hb); have n1_ := Aside0.mk (blk_below (g := gb957) (o := .cells #[.int .i64 a0_0, .int .i64 a0_1, .int .i64 a0_2, .string a0_3, .bool a0_4, .int .i64 a0_5] 25 (0, 0)) (by (with_reducible repeat (first | refine blk_drewN ?_ _ | refine blk_drew ?_ | refine blk_alloc ?_ _)); exact BK957.out) hb); have n2_ := Aside0.mk (blk_below (g := gb958) (o := .cells #[.int .i64 a1_0, .int .i64 a1_1, .int .i64 a1_2, .string a1_3, .bool a1_4, .int .i64 a1_5] 25 (0, 0)) (by (with_reducible repeat (first | refine blk_drewN ?_ _ | refine blk_drew ?_ | refine blk_alloc ?_ _)); exact BK958.out) hb); have n3_ := Aside0.mk (blk_below (g := gb959) (o := .cells #[.int .i64 a2_0, .int .i64 a2_1, .int .i64 a2_2, .string a2_3, .bool a2_4, .int .i64 a2_5] 25 (0, 0)) (by (with_reducible repeat (first | refine blk_drewN ?_ _ | refine blk_drew ?_ | refine blk_alloc ?_ _)); exact BK959.out) hb); have n4_ := Aside0.mk (below_step (by repeat (first | (with_reducible first | exact HB.out | apply below_alloc | apply pw_below_drewN | apply below_drew1 | refine below_set ?_ GE957.out | refine below_set ?_ GE958.out | refine below_set ?_ GE959.out) | exact HB.out)) hb); clear HO_7; clear BK957; clear BK958; clear BK959; clear HB; have HO_7 := n0_; have BK957 := n1_; have BK958 := n2_; have BK959 := n3_; have HB := n4_; clear n0_ n1_ n2_ n3_ n4_; (try clear hb); (try clear hb2); (try clear hk); (try clear hi); have p966 : 0 ≤ (x8_1 : Int) := of_decide_eq_true (by first | (with_reducible assumption) | assumption); have q966 : x8_1 < (y961.length : Int) := of_decide_eq_true (by first | (with_reducible assumption) | assumption); obtain ⟨ad966, e966, hx966_0, hx966_1, hx966_2, hx966_3, hx966_4, hx966_5⟩ := at_T25 (Kd.R_reads' HO_7.out).2.2 x8_1 p966 q966; obtain rfl : ad964 = ad966 := (by injection e966); replace p966 := eq_true p966; replace q966 := eq_true q966))
                  go_ret
                  exact ⟨by first | rfl | (simp [errW_none, errW_some] <;> rfl) | (simp [*, errW_none, errW_some] <;> rfl), by repeat (first | (with_reducible first | exact HB.out | apply below_alloc | apply pw_below_drewN | apply below_drew1 | refine below_set ?_ GE957.out | refine below_set ?_ GE958.out | refine below_set ?_ GE959.out) | exact HB.out)⟩
                · rw [if_neg c23] at H
                  have c23b0 : (((rd_T25 y961 x8_1).f0) == 0) = false := beq_eq_false_iff_ne.mpr c23
                  have c23b1 : (((rd_T25 y961 x8_1).f0) != 0) = true := bne_iff_ne.mpr c23
                  by_cases c26 : ((rd_T25 y961 x8_1).f0) = 4
                  · rw [if_pos c26] at H
                    have c26b0 : (((rd_T25 y961 x8_1).f0) == 4) = true := beq_iff_eq.mpr c26
                    have c26b1 : (((rd_T25 y961 x8_1).f0) != 4) = false := bne_eq_false_iff_eq.mpr c26
                    clear c26
                    clear HR
                    obtain rfl := Option.some.inj H
                    obtain ⟨Ao27, co27, eo27⟩ := Kd.R_slice HO_7.out
                    subst eo27
                    have p964 : 0 ≤ (x8_1 : Int) := of_decide_eq_true (by first | (with_reducible assumption) | assumption)
                    have q964 : x8_1 < (y961.length : Int) := of_decide_eq_true (by first | (with_reducible assumption) | assumption)
                    obtain ⟨ad964, e964, hx964_0, hx964_1, hx964_2, hx964_3, hx964_4, hx964_5⟩ := at_T25 (Kd.R_reads' HO_7.out).2.2 x8_1 p964 q964
                    cases e964
                    replace p964 := eq_true p964
                    replace q964 := eq_true q964
                    go_wp2_with (first | ((with_reducible refine gate_callee (f := 16) rfl ?_); refine goesL_ (some 24) rfl rfl Tryd.func16 (by kernel_rfl) rfl #[.agg #[.int .i64 ((rd_T25 y961 x8_1).f0), .int .i64 ((rd_T25 y961 x8_1).f1.f0), .int .i64 ((rd_T25 y961 x8_1).f1.f1), .string ((rd_T25 y961 x8_1).f2), .bool ((rd_T25 y961 x8_1).f3), .int .i64 ((rd_T25 y961 x8_1).f4)]] rfl (by (try simp only [List.map_toArray, List.map_cons, List.map_nil]); first | done | rfl | (simp only [List.length_drop, List.length_take]; rfl)) ?_; (with_reducible refine (value_Right.calls k1 ((rd_T25 y961 x8_1).f0) ((rd_T25 y961 x8_1).f1.f0) ((rd_T25 y961 x8_1).f1.f1) ((rd_T25 y961 x8_1).f2) ((rd_T25 y961 x8_1).f3) ((rd_T25 y961 x8_1).f4) true _ A21.out).mono ?_); rintro e w28 ⟨rfl, hb⟩; refine ⟨_, rfl, ?_⟩; have n0_ := Aside0.mk (Kd.R_below (by (with_reducible repeat (first | apply Kd.R_alloc | apply Kd.R_drewN | apply Kd.R_drew)); exact HO_7.out) hb); have n1_ := Aside0.mk (blk_below (g := gb957) (o := .cells #[.int .i64 a0_0, .int .i64 a0_1, .int .i64 a0_2, .string a0_3, .bool a0_4, .int .i64 a0_5] 25 (0, 0)) (by (with_reducible repeat (first | refine blk_drewN ?_ _ | refine blk_drew ?_ | refine blk_alloc ?_ _)); exact BK957.out) hb); have n2_ := Aside0.mk (blk_below (g := gb958) (o := .cells #[.int .i64 a1_0, .int .i64 a1_1, .int .i64 a1_2, .string a1_3, .bool a1_4, .int .i64 a1_5] 25 (0, 0)) (by (with_reducible repeat (first | refine blk_drewN ?_ _ | refine blk_drew ?_ | refine blk_alloc ?_ _)); exact BK958.out) hb); have n3_ := Aside0.mk (blk_below (g := gb959) (o := .cells #[.int .i64 a2_0, .int .i64 a2_1, .int .i64 a2_2, .string a2_3, .bool a2_4, .int .i64 a2_5] 25 (0, 0)) (by (with_reducible repeat (first | refine blk_drewN ?_ _ | refine blk_drew ?_ | refine blk_alloc ?_ _)); exact BK959.out) hb); have n4_ := Aside0.mk (below_step (by repeat (first | (with_reducible first | exact HB.out | apply below_alloc | apply pw_below_drewN | apply below_drew1 | refine below_set ?_ GE957.out | refine below_set ?_ GE958.out | refine below_set ?_ GE959.out) | exact HB.out)) hb); clear HO_7; clear BK957; clear BK958; clear BK959; clear HB; have HO_7 := n0_; have BK957 := n1_; have BK958 := n2_; have BK959 := n3_; have HB := n4_; clear n0_ n1_ n2_ n3_ n4_; (try clear hb); (try clear hb2); (try clear hk); (try clear hi); have p966 : 0 ≤ (x8_1 : Int) := of_decide_eq_true (by first | (with_reducible assumption) | assumption); have q966 : x8_1 < (y961.length : Int) := of_decide_eq_true (by first | (with_reducible assumption) | assumption); obtain ⟨ad966, e966, hx966_0, hx966_1, hx966_2, hx966_3, hx966_4, hx966_5⟩ := at_T25 (Kd.R_reads' HO_7.out).2.2 x8_1 p966 q966; obtain rfl : ad964 = ad966 := (by injection e966); replace p966 := eq_true p966; replace q966 := eq_true q966; have p967 : 0 ≤ (x8_1 : Int) := of_decide_eq_true (by first | (with_reducible assumption) | assumption); have q967 : x8_1 < (y961.length : Int) := of_decide_eq_true (by first | (with_reducible assumption) | assumption); obtain ⟨ad967, e967, hx967_0, hx967_1, hx967_2, hx967_3, hx967_4, hx967_5⟩ := at_T25 (Kd.R_reads' HO_7.out).2.2 x8_1 p967 q967; obtain rfl : ad964 = ad967 := (by injection e967); replace p967 := eq_true p967; replace q967 := eq_true q967))
                    go_ret
                    exact ⟨by first | rfl | (simp [errW_none, errW_some] <;> rfl) | (simp [*, errW_none, errW_some] <;> rfl), by repeat (first | (with_reducible first | exact HB.out | apply below_alloc | apply pw_below_drewN | apply below_drew1 | refine below_set ?_ GE957.out | refine below_set ?_ GE958.out | refine below_set ?_ GE959.out) | exact HB.out)⟩
                  · rw [if_neg c26] at H
                    have c26b0 : (((rd_T25 y961 x8_1).f0) == 4) = false := beq_eq_false_iff_ne.mpr c26
                    have c26b1 : (((rd_T25 y961 x8_1).f0) != 4) = true := bne_iff_ne.mpr c26
                    have H' := Aside0.mk H
                    clear H
                    obtain ⟨Ao29, co29, eo29⟩ := Kd.R_slice HO_7.out
                    subst eo29
                    have p964 : 0 ≤ (x8_1 : Int) := of_decide_eq_true (by first | (with_reducible assumption) | assumption)
                    have q964 : x8_1 < (y961.length : Int) := of_decide_eq_true (by first | (with_reducible assumption) | assumption)
                    obtain ⟨ad964, e964, hx964_0, hx964_1, hx964_2, hx964_3, hx964_4, hx964_5⟩ := at_T25 (Kd.R_reads' HO_7.out).2.2 x8_1 p964 q964
                    cases e964
                    replace p964 := eq_true p964
                    replace q964 := eq_true q964
                    go_wp2_with (first | ((with_reducible refine gate_callee (f := 16) rfl ?_); refine goesL_ (some 24) rfl rfl Tryd.func16 (by kernel_rfl) rfl #[.agg #[.int .i64 ((rd_T25 y961 x8_1).f0), .int .i64 ((rd_T25 y961 x8_1).f1.f0), .int .i64 ((rd_T25 y961 x8_1).f1.f1), .string ((rd_T25 y961 x8_1).f2), .bool ((rd_T25 y961 x8_1).f3), .int .i64 ((rd_T25 y961 x8_1).f4)]] rfl (by (try simp only [List.map_toArray, List.map_cons, List.map_nil]); first | done | rfl | (simp only [List.length_drop, List.length_take]; rfl)) ?_; (with_reducible refine (value_Right.calls k1 ((rd_T25 y961 x8_1).f0) ((rd_T25 y961 x8_1).f1.f0) ((rd_T25 y961 x8_1).f1.f1) ((rd_T25 y961 x8_1).f2) ((rd_T25 y961 x8_1).f3) ((rd_T25 y961 x8_1).f4) true _ A21.out).mono ?_); rintro e w30 ⟨rfl, hb⟩; refine ⟨_, rfl, ?_⟩; have n0_ := Aside0.mk (Kd.R_below (by (with_reducible repeat (first | apply Kd.R_alloc | apply Kd.R_drewN | apply Kd.R_drew)); exact HO_7.out) hb); have n1_ := Aside0.mk (blk_below (g := gb957) (o := .cells #[.int .i64 a0_0, .int .i64 a0_1, .int .i64 a0_2, .string a0_3, .bool a0_4, .int .i64 a0_5] 25 (0, 0)) (by (with_reducible repeat (first | refine blk_drewN ?_ _ | refine blk_drew ?_ | refine blk_alloc ?_ _)); exact BK957.out) hb); have n2_ := Aside0.mk (blk_below (g := gb958) (o := .cells #[.int .i64 a1_0, .int .i64 a1_1, .int .i64 a1_2, .string a1_3, .bool a1_4, .int .i64 a1_5] 25 (0, 0)) (by (with_reducible repeat (first | refine blk_drewN ?_ _ | refine blk_drew ?_ | refine blk_alloc ?_ _)); exact BK958.out) hb); have n3_ := Aside0.mk (blk_below (g := gb959) (o := .cells #[.int .i64 a2_0, .int .i64 a2_1, .int .i64 a2_2, .string a2_3, .bool a2_4, .int .i64 a2_5] 25 (0, 0)) (by (with_reducible repeat (first | refine blk_drewN ?_ _ | refine blk_drew ?_ | refine blk_alloc ?_ _)); exact BK959.out) hb); have n4_ := Aside0.mk (below_step (by repeat (first | (with_reducible first | exact HB.out | apply below_alloc | apply pw_below_drewN | apply below_drew1 | refine below_set ?_ GE957.out | refine below_set ?_ GE958.out | refine below_set ?_ GE959.out) | exact HB.out)) hb); clear HO_7; clear BK957; clear BK958; clear BK959; clear HB; have HO_7 := n0_; have BK957 := n1_; have BK958 := n2_; have BK959 := n3_; have HB := n4_; clear n0_ n1_ n2_ n3_ n4_; (try clear hb); (try clear hb2); (try clear hk); (try clear hi); have p966 : 0 ≤ (x8_1 : Int) := of_decide_eq_true (by first | (with_reducible assumption) | assumption); have q966 : x8_1 < (y961.length : Int) := of_decide_eq_true (by first | (with_reducible assumption) | assumption); obtain ⟨ad966, e966, hx966_0, hx966_1, hx966_2, hx966_3, hx966_4, hx966_5⟩ := at_T25 (Kd.R_reads' HO_7.out).2.2 x8_1 p966 q966; obtain rfl : ad964 = ad966 := (by injection e966); replace p966 := eq_true p966; replace q966 := eq_true q966; have p967 : 0 ≤ (x8_1 : Int) := of_decide_eq_true (by first | (with_reducible assumption) | assumption); have q967 : x8_1 < (y961.length : Int) := of_decide_eq_true (by first | (with_reducible assumption) | assumption); obtain ⟨ad967, e967, hx967_0, hx967_1, hx967_2, hx967_3, hx967_4, hx967_5⟩ := at_T25 (Kd.R_reads' HO_7.out).2.2 x8_1 p967 q967; obtain rfl : ad964 = ad967 := (by injection e967); replace p967 := eq_true p967; replace q967 := eq_true q967))
                    go_roundg k1
                    case measure => have := HK1.out; omega
                    case rel => exact ⟨(wrap64 (x8_1 + 1)), (by first | rfl | (simp; done) | (simp [*]; done) | (simp [bne_nil]; done)), H', ⟨by have := HK1.out; omega⟩, ⟨by (with_reducible repeat (first | apply Kd.R_alloc | apply Kd.R_drewN | apply Kd.R_drew)); exact HO_7.out⟩, ⟨by (with_reducible repeat (first | refine blk_drewN ?_ _ | refine blk_drew ?_ | refine blk_alloc ?_ _)); exact BK957.out⟩, ⟨by (with_reducible repeat (first | refine blk_drewN ?_ _ | refine blk_drew ?_ | refine blk_alloc ?_ _)); exact BK958.out⟩, ⟨by (with_reducible repeat (first | refine blk_drewN ?_ _ | refine blk_drew ?_ | refine blk_alloc ?_ _)); exact BK959.out⟩, ⟨by repeat (first | (with_reducible first | exact HB.out | apply below_alloc | apply pw_below_drewN | apply below_drew1 | refine below_set ?_ GE957.out | refine below_set ?_ GE958.out | refine below_set ?_ GE959.out) | exact HB.out)⟩⟩
              · replace c22 := Bool.eq_false_iff.mpr c22
                subst c22
                have H1 : (some true) = some r := by rw [if_neg (show ¬ (false = true) by decide)] at H; exact H
                clear H
                have H := H1
                clear H1
                clear HR
                obtain rfl := Option.some.inj H
                obtain ⟨Ao31, co31, eo31⟩ := Kd.R_slice HO_7.out
                subst eo31
                have p964 : 0 ≤ (x8_1 : Int) := of_decide_eq_true (by first | (with_reducible assumption) | assumption)
                have q964 : x8_1 < (y961.length : Int) := of_decide_eq_true (by first | (with_reducible assumption) | assumption)
                obtain ⟨ad964, e964, hx964_0, hx964_1, hx964_2, hx964_3, hx964_4, hx964_5⟩ := at_T25 (Kd.R_reads' HO_7.out).2.2 x8_1 p964 q964
                cases e964
                replace p964 := eq_true p964
                replace q964 := eq_true q964
                go_wp2_with (first | ((with_reducible refine gate_callee (f := 16) rfl ?_); refine goesL_ (some 24) rfl rfl Tryd.func16 (by kernel_rfl) rfl #[.agg #[.int .i64 ((rd_T25 y961 x8_1).f0), .int .i64 ((rd_T25 y961 x8_1).f1.f0), .int .i64 ((rd_T25 y961 x8_1).f1.f1), .string ((rd_T25 y961 x8_1).f2), .bool ((rd_T25 y961 x8_1).f3), .int .i64 ((rd_T25 y961 x8_1).f4)]] rfl (by (try simp only [List.map_toArray, List.map_cons, List.map_nil]); first | done | rfl | (simp only [List.length_drop, List.length_take]; rfl)) ?_; (with_reducible refine (value_Right.calls k1 ((rd_T25 y961 x8_1).f0) ((rd_T25 y961 x8_1).f1.f0) ((rd_T25 y961 x8_1).f1.f1) ((rd_T25 y961 x8_1).f2) ((rd_T25 y961 x8_1).f3) ((rd_T25 y961 x8_1).f4) false _ A21.out).mono ?_); rintro e w32 ⟨rfl, hb⟩; refine ⟨_, rfl, ?_⟩; have n0_ := Aside0.mk (Kd.R_below (by (with_reducible repeat (first | apply Kd.R_alloc | apply Kd.R_drewN | apply Kd.R_drew)); exact HO_7.out) hb); have n1_ := Aside0.mk (blk_below (g := gb957) (o := .cells #[.int .i64 a0_0, .int .i64 a0_1, .int .i64 a0_2, .string a0_3, .bool a0_4, .int .i64 a0_5] 25 (0, 0)) (by (with_reducible repeat (first | refine blk_drewN ?_ _ | refine blk_drew ?_ | refine blk_alloc ?_ _)); exact BK957.out) hb); have n2_ := Aside0.mk (blk_below (g := gb958) (o := .cells #[.int .i64 a1_0, .int .i64 a1_1, .int .i64 a1_2, .string a1_3, .bool a1_4, .int .i64 a1_5] 25 (0, 0)) (by (with_reducible repeat (first | refine blk_drewN ?_ _ | refine blk_drew ?_ | refine blk_alloc ?_ _)); exact BK958.out) hb); have n3_ := Aside0.mk (blk_below (g := gb959) (o := .cells #[.int .i64 a2_0, .int .i64 a2_1, .int .i64 a2_2, .string a2_3, .bool a2_4, .int .i64 a2_5] 25 (0, 0)) (by (with_reducible repeat (first | refine blk_drewN ?_ _ | refine blk_drew ?_ | refine blk_alloc ?_ _)); exact BK959.out) hb); have n4_ := Aside0.mk (below_step (by repeat (first | (with_reducible first | exact HB.out | apply below_alloc | apply pw_below_drewN | apply below_drew1 | refine below_set ?_ GE957.out | refine below_set ?_ GE958.out | refine below_set ?_ GE959.out) | exact HB.out)) hb); clear HO_7; clear BK957; clear BK958; clear BK959; clear HB; have HO_7 := n0_; have BK957 := n1_; have BK958 := n2_; have BK959 := n3_; have HB := n4_; clear n0_ n1_ n2_ n3_ n4_; (try clear hb); (try clear hb2); (try clear hk); (try clear hi)))
                go_ret
                exact ⟨by first | rfl | (simp [errW_none, errW_some] <;> rfl) | (simp [*, errW_none, errW_some] <;> rfl), by repeat (first | (with_reducible first | exact HB.out | apply below_alloc | apply pw_below_drewN | apply below_drew1 | refine below_set ?_ GE957.out | refine below_set ?_ GE958.out | refine below_set ?_ GE959.out) | exact HB.out)⟩
            · rw [if_neg c20] at H
              exact absurd H (by simp)
          · rw [if_neg c19] at H
            exact absurd H (by simp)
        · rw [if_neg c18] at H
          have c18b0 : decide (x8_1 < 3) = false := decide_eq_false c18
          clear c18
          replace H := Option.bind_eq_some_iff.mp H
          obtain ⟨t968, A330, H⟩ := H
          replace H : (if t968 < (-1) then (whittlelaw2_ValueOrder.j1 k1 t968 true a0_0 a0_1 a0_2 a0_3 a0_4 a0_5 a1_0 a1_1 a1_2 a1_3 a1_4 a1_5 a2_0 a2_1 a2_2 a2_3 a2_4 a2_5) else (if t968 > 1 then (whittlelaw2_ValueOrder.j1 k1 t968 true a0_0 a0_1 a0_2 a0_3 a0_4 a0_5 a1_0 a1_1 a1_2 a1_3 a1_4 a1_5 a2_0 a2_1 a2_2 a2_3 a2_4 a2_5) else ((value_Cmp.f k1 a1_0 a1_1 a1_2 a1_3 a1_4 a1_5 a0_0 a0_1 a0_2 a0_3 a0_4 a0_5).bind fun t969 => (if t969 = (wrap64 (-t968)) then (if ((t968 == 0) != (a0_0 == a1_0 && ((a0_1 == a1_1 && (a0_2 == a1_2)) && (a0_3.toList == a1_3.toList && (a0_4 == a1_4 && (a0_5 == a1_5)))))) = true then (whittlelaw2_ValueOrder.j1 k1 t968 true a0_0 a0_1 a0_2 a0_3 a0_4 a0_5 a1_0 a1_1 a1_2 a1_3 a1_4 a1_5 a2_0 a2_1 a2_2 a2_3 a2_4 a2_5) else ((value_Same.f k1 a0_0 a0_1 a0_2 a0_3 a0_4 a0_5 a1_0 a1_1 a1_2 a1_3 a1_4 a1_5).bind fun t970 => (whittlelaw2_ValueOrder.j1 k1 t968 (t970 != (a0_0 == a1_0 && ((a0_1 == a1_1 && (a0_2 == a1_2)) && (a0_3.toList == a1_3.toList && (a0_4 == a1_4 && (a0_5 == a1_5)))))) a0_0 a0_1 a0_2 a0_3 a0_4 a0_5 a1_0 a1_1 a1_2 a1_3 a1_4 a1_5 a2_0 a2_1 a2_2 a2_3 a2_4 a2_5))) else (whittlelaw2_ValueOrder.j1 k1 t968 true a0_0 a0_1 a0_2 a0_3 a0_4 a0_5 a1_0 a1_1 a1_2 a1_3 a1_4 a1_5 a2_0 a2_1 a2_2 a2_3 a2_4 a2_5))))) = some r := H
          have A33 := Aside0.mk A330
          clear A330
          have HC34 := Aside0.mk H
          clear H
          have hnb35 := NB957_958.out
          have hnc35 := NB958_957.out
          have hnb36 := NB957_959.out
          have hnc36 := NB959_957.out
          have hcz37_0 : wr.cell? ⟨gb957, 0, none⟩ = some (.int .i64 a0_0) := (blk_cell BK957.out 0).trans rfl
          have hcz37_1 : wr.cell? ⟨gb957, 1, none⟩ = some (.int .i64 a0_1) := (blk_cell BK957.out 1).trans rfl
          have hcz37_2 : wr.cell? ⟨gb957, 2, none⟩ = some (.int .i64 a0_2) := (blk_cell BK957.out 2).trans rfl
          have hcz37_3 : wr.cell? ⟨gb957, 3, none⟩ = some (.string a0_3) := (blk_cell BK957.out 3).trans rfl
          have hcz37_4 : wr.cell? ⟨gb957, 4, none⟩ = some (.bool a0_4) := (blk_cell BK957.out 4).trans rfl
          have hcz37_5 : wr.cell? ⟨gb957, 5, none⟩ = some (.int .i64 a0_5) := (blk_cell BK957.out 5).trans rfl
          have hfz37_0 := blk_frozen BK957.out 0
          have hfz37_1 := blk_frozen BK957.out 1
          have hfz37_2 := blk_frozen BK957.out 2
          have hfz37_3 := blk_frozen BK957.out 3
          have hfz37_4 := blk_frozen BK957.out 4
          have hfz37_5 := blk_frozen BK957.out 5
          have hnb38 := NB958_959.out
          have hnc38 := NB959_958.out
          have hcz39_0 : wr.cell? ⟨gb958, 0, none⟩ = some (.int .i64 a1_0) := (blk_cell BK958.out 0).trans rfl
          have hcz39_1 : wr.cell? ⟨gb958, 1, none⟩ = some (.int .i64 a1_1) := (blk_cell BK958.out 1).trans rfl
          have hcz39_2 : wr.cell? ⟨gb958, 2, none⟩ = some (.int .i64 a1_2) := (blk_cell BK958.out 2).trans rfl
          have hcz39_3 : wr.cell? ⟨gb958, 3, none⟩ = some (.string a1_3) := (blk_cell BK958.out 3).trans rfl
          have hcz39_4 : wr.cell? ⟨gb958, 4, none⟩ = some (.bool a1_4) := (blk_cell BK958.out 4).trans rfl
          have hcz39_5 : wr.cell? ⟨gb958, 5, none⟩ = some (.int .i64 a1_5) := (blk_cell BK958.out 5).trans rfl
          have hfz39_0 := blk_frozen BK958.out 0
          have hfz39_1 := blk_frozen BK958.out 1
          have hfz39_2 := blk_frozen BK958.out 2
          have hfz39_3 := blk_frozen BK958.out 3
          have hfz39_4 := blk_frozen BK958.out 4
          have hfz39_5 := blk_frozen BK958.out 5
          go_upto_region 10 with (first | ((with_reducible refine gate_callee (f := 32) rfl ?_); refine goesL_ (some 44) rfl rfl Tryd.func32 (by kernel_rfl) rfl #[.agg #[.int .i64 a0_0, .int .i64 a0_1, .int .i64 a0_2, .string a0_3, .bool a0_4, .int .i64 a0_5], .agg #[.int .i64 a1_0, .int .i64 a1_1, .int .i64 a1_2, .string a1_3, .bool a1_4, .int .i64 a1_5]] rfl (by (try simp only [List.map_toArray, List.map_cons, List.map_nil]); first | done | rfl | (simp only [List.length_drop, List.length_take]; rfl)) ?_; (with_reducible refine (value_Cmp.calls k1 a0_0 a0_1 a0_2 a0_3 a0_4 a0_5 a1_0 a1_1 a1_2 a1_3 a1_4 a1_5 t968 _ A33.out).mono ?_); rintro e w40 ⟨rfl, hb⟩; refine ⟨_, rfl, ?_⟩; have n0_ := Aside0.mk (Kd.R_below (by (with_reducible repeat (first | apply Kd.R_alloc | apply Kd.R_drewN | apply Kd.R_drew)); exact HO_7.out) hb); have n1_ := Aside0.mk (blk_below (g := gb957) (o := .cells #[.int .i64 a0_0, .int .i64 a0_1, .int .i64 a0_2, .string a0_3, .bool a0_4, .int .i64 a0_5] 25 (0, 0)) (by (with_reducible repeat (first | refine blk_drewN ?_ _ | refine blk_drew ?_ | refine blk_alloc ?_ _)); exact BK957.out) hb); have n2_ := Aside0.mk (blk_below (g := gb958) (o := .cells #[.int .i64 a1_0, .int .i64 a1_1, .int .i64 a1_2, .string a1_3, .bool a1_4, .int .i64 a1_5] 25 (0, 0)) (by (with_reducible repeat (first | refine blk_drewN ?_ _ | refine blk_drew ?_ | refine blk_alloc ?_ _)); exact BK958.out) hb); have n3_ := Aside0.mk (blk_below (g := gb959) (o := .cells #[.int .i64 a2_0, .int .i64 a2_1, .int .i64 a2_2, .string a2_3, .bool a2_4, .int .i64 a2_5] 25 (0, 0)) (by (with_reducible repeat (first | refine blk_drewN ?_ _ | refine blk_drew ?_ | refine blk_alloc ?_ _)); exact BK959.out) hb); have n4_ := Aside0.mk (below_step (by repeat (first | (with_reducible first | exact HB.out | apply below_alloc | apply pw_below_drewN | apply below_drew1 | refine below_set ?_ GE957.out | refine below_set ?_ GE958.out | refine below_set ?_ GE959.out) | exact HB.out)) hb); clear HO_7; clear BK957; clear BK958; clear BK959; clear HB; have HO_7 := n0_; have BK957 := n1_; have BK958 := n2_; have BK959 := n3_; have HB := n4_; clear n0_ n1_ n2_ n3_ n4_; (try clear hb); (try clear hb2); (try clear hk); (try clear hi)))
          (try simp only [Act.put, List.setIfInBounds_toArray, List.set_cons_zero, List.set_cons_succ])
          go_cut [75] (fun v75 wc => ∃ (kq : Nat) (x75_33 : Bool), v75 = .bool x75_33 ∧ Aside0 (whittlelaw2_ValueOrder.j1 kq t968 x75_33 a0_0 a0_1 a0_2 a0_3 a0_4 a0_5 a1_0 a1_1 a1_2 a1_3 a1_4 a1_5 a2_0 a2_1 a2_2 a2_3 a2_4 a2_5 = some r) ∧ Aside0 (kq ≤ k1) ∧ Aside0 (wc.heap[gb957]? = some (.cells #[.int .i64 a0_0, .int .i64 a0_1, .int .i64 a0_2, .string a0_3, .bool a0_4, .int .i64 a0_5] 25 (0, 0))) ∧ Aside0 (wc.heap[gb958]? = some (.cells #[.int .i64 a1_0, .int .i64 a1_1, .int .i64 a1_2, .string a1_3, .bool a1_4, .int .i64 a1_5] 25 (0, 0))) ∧ Aside0 (wc.heap[gb959]? = some (.cells #[.int .i64 a2_0, .int .i64 a2_1, .int .i64 a2_2, .string a2_3, .bool a2_4, .int .i64 a2_5] 25 (0, 0))) ∧ Aside0 (Below w.heap.size w wc))
          case first =>
            have H := HC34.out
            clear HC34
            by_cases c41 : t968 < (-1)
            · rw [if_pos c41] at H
              have c41b0 : decide (t968 < (-1)) = true := decide_eq_true c41
              clear c41
              (first | rw [c41b0] | (simp only [i64_w, i32_w]; rw [c41b0]) | skip)
              exact (no_meet (g := fun k_ => whittlelaw2_ValueOrder.j1 k_ t968 true a0_0 a0_1 a0_2 a0_3 a0_4 a0_5 a1_0 a1_1 a1_2 a1_3 a1_4 a1_5 a2_0 a2_1 a2_2 a2_3 a2_4 a2_5) HR.out H (by simp only [whittlelaw2_ValueOrder.j1]) (fun k_ => by simp only [whittlelaw2_ValueOrder.j1]; first | exact if_pos rfl | rfl | simp)).elim
            · rw [if_neg c41] at H
              have c41b0 : decide (t968 < (-1)) = false := decide_eq_false c41
              clear c41
              (first | rw [c41b0] | (simp only [i64_w, i32_w]; rw [c41b0]) | skip)
              by_cases c42 : t968 > 1
              · rw [if_pos c42] at H
                have c42b0 : decide (1 < t968) = true := decide_eq_true c42
                clear c42
                exact (no_meet (g := fun k_ => whittlelaw2_ValueOrder.j1 k_ t968 true a0_0 a0_1 a0_2 a0_3 a0_4 a0_5 a1_0 a1_1 a1_2 a1_3 a1_4 a1_5 a2_0 a2_1 a2_2 a2_3 a2_4 a2_5) HR.out H (by simp only [whittlelaw2_ValueOrder.j1]) (fun k_ => by simp only [whittlelaw2_ValueOrder.j1]; first | exact if_pos rfl | rfl | simp)).elim
              · rw [if_neg c42] at H
                have c42b0 : decide (1 < t968) = false := decide_eq_false c42
                clear c42
                replace H := Option.bind_eq_some_iff.mp H
                obtain ⟨t969, A430, H⟩ := H
                replace H : (if t969 = (wrap64 (-t968)) then (if ((t968 == 0) != (a0_0 == a1_0 && ((a0_1 == a1_1 && (a0_2 == a1_2)) && (a0_3.toList == a1_3.toList && (a0_4 == a1_4 && (a0_5 == a1_5)))))) = true then (whittlelaw2_ValueOrder.j1 k1 t968 true a0_0 a0_1 a0_2 a0_3 a0_4 a0_5 a1_0 a1_1 a1_2 a1_3 a1_4 a1_5 a2_0 a2_1 a2_2 a2_3 a2_4 a2_5) else ((value_Same.f k1 a0_0 a0_1 a0_2 a0_3 a0_4 a0_5 a1_0 a1_1 a1_2 a1_3 a1_4 a1_5).bind fun t970 => (whittlelaw2_ValueOrder.j1 k1 t968 (t970 != (a0_0 == a1_0 && ((a0_1 == a1_1 && (a0_2 == a1_2)) && (a0_3.toList == a1_3.toList && (a0_4 == a1_4 && (a0_5 == a1_5)))))) a0_0 a0_1 a0_2 a0_3 a0_4 a0_5 a1_0 a1_1 a1_2 a1_3 a1_4 a1_5 a2_0 a2_1 a2_2 a2_3 a2_4 a2_5))) else (whittlelaw2_ValueOrder.j1 k1 t968 true a0_0 a0_1 a0_2 a0_3 a0_4 a0_5 a1_0 a1_1 a1_2 a1_3 a1_4 a1_5 a2_0 a2_1 a2_2 a2_3 a2_4 a2_5)) = some r := H
                have A43 := Aside0.mk A430
                clear A430
                by_cases c44 : t969 = (wrap64 (-t968))
                · rw [if_pos c44] at H
                  have c44b0 : (t969 == (wrap64 (-t968))) = true := beq_iff_eq.mpr c44
                  have c44b1 : (t969 != (wrap64 (-t968))) = false := bne_eq_false_iff_eq.mpr c44
                  clear c44
                  by_cases c45 : ((t968 == 0) != (a0_0 == a1_0 && ((a0_1 == a1_1 && (a0_2 == a1_2)) && (a0_3.toList == a1_3.toList && (a0_4 == a1_4 && (a0_5 == a1_5)))))) = true
                  · rw [if_pos c45] at H
                    have c45b0 : ((t968 == 0) != (a0_0 == a1_0 && ((a0_1 == a1_1 && (a0_2 == a1_2)) && (a0_3.toList == a1_3.toList && (a0_4 == a1_4 && (a0_5 == a1_5)))))) = true := c45
                    (try (have c45b1 : decide ((t968 == 0) = (a0_0 == a1_0 && ((a0_1 == a1_1 && (a0_2 == a1_2)) && (a0_3.toList == a1_3.toList && (a0_4 == a1_4 && (a0_5 == a1_5)))))) = false := by simpa using c45))
                    (try (have c45b2 : ((t968 == 0) == (a0_0 == a1_0 && ((a0_1 == a1_1 && (a0_2 == a1_2)) && (a0_3.toList == a1_3.toList && (a0_4 == a1_4 && (a0_5 == a1_5)))))) = false := by simpa using c45))
                    (try (have c45b3 : ¬ ((t968 == 0) = (a0_0 == a1_0 && ((a0_1 == a1_1 && (a0_2 == a1_2)) && (a0_3.toList == a1_3.toList && (a0_4 == a1_4 && (a0_5 == a1_5)))))) := by simpa using c45))
                    clear c45
                    exact (no_meet (g := fun k_ => whittlelaw2_ValueOrder.j1 k_ t968 true a0_0 a0_1 a0_2 a0_3 a0_4 a0_5 a1_0 a1_1 a1_2 a1_3 a1_4 a1_5 a2_0 a2_1 a2_2 a2_3 a2_4 a2_5) HR.out H (by simp only [whittlelaw2_ValueOrder.j1]) (fun k_ => by simp only [whittlelaw2_ValueOrder.j1]; first | exact if_pos rfl | rfl | simp)).elim
                  · rw [if_neg c45] at H
                    have c45b0 : ((t968 == 0) != (a0_0 == a1_0 && ((a0_1 == a1_1 && (a0_2 == a1_2)) && (a0_3.toList == a1_3.toList && (a0_4 == a1_4 && (a0_5 == a1_5)))))) = false := by simpa using c45
                    (try (have c45b1 : decide ((t968 == 0) = (a0_0 == a1_0 && ((a0_1 == a1_1 && (a0_2 == a1_2)) && (a0_3.toList == a1_3.toList && (a0_4 == a1_4 && (a0_5 == a1_5)))))) = true := by simpa using c45))
                    (try (have c45b2 : ((t968 == 0) == (a0_0 == a1_0 && ((a0_1 == a1_1 && (a0_2 == a1_2)) && (a0_3.toList == a1_3.toList && (a0_4 == a1_4 && (a0_5 == a1_5)))))) = true := by simpa using c45))
                    clear c45
                    replace H := Option.bind_eq_some_iff.mp H
                    obtain ⟨t970, A460, H⟩ := H
                    replace H : (whittlelaw2_ValueOrder.j1 k1 t968 (t970 != (a0_0 == a1_0 && ((a0_1 == a1_1 && (a0_2 == a1_2)) && (a0_3.toList == a1_3.toList && (a0_4 == a1_4 && (a0_5 == a1_5)))))) a0_0 a0_1 a0_2 a0_3 a0_4 a0_5 a1_0 a1_1 a1_2 a1_3 a1_4 a1_5 a2_0 a2_1 a2_2 a2_3 a2_4 a2_5) = some r := H
                    have A46 := Aside0.mk A460
                    clear A460
                    have H' := Aside0.mk H
                    clear H
                    try go_wp2
                    have n0_ := Aside0.mk (Kd.R_drew HO_7.out)
                    have n1_ := Aside0.mk (blk_drew BK957.out)
                    have n2_ := Aside0.mk (blk_drew BK958.out)
                    have n3_ := Aside0.mk (blk_drew BK959.out)
                    have n4_ := Aside0.mk (below_drew1 HB.out)
                    clear HO_7
                    clear BK957
                    clear BK958
                    clear BK959
                    clear HB
                    have HO_7 := n0_
                    have BK957 := n1_
                    have BK958 := n2_
                    have BK959 := n3_
                    have HB := n4_
                    clear n0_ n1_ n2_ n3_ n4_
                    refine start_ (n := 31) (S := fun w' => w'.cell? ⟨gb958, 0, none⟩ = some (.int .i64 a1_0) ∧ w'.cell? ⟨gb958, 1, none⟩ = some (.int .i64 a1_1) ∧ w'.cell? ⟨gb958, 2, none⟩ = some (.int .i64 a1_2) ∧ w'.cell? ⟨gb958, 3, none⟩ = some (.string a1_3) ∧ w'.cell? ⟨gb958, 4, none⟩ = some (.bool a1_4) ∧ w'.cell? ⟨gb958, 5, none⟩ = some (.int .i64 a1_5) ∧ w'.cell? ⟨gb957, 0, none⟩ = some (.int .i64 a0_0) ∧ w'.cell? ⟨gb957, 1, none⟩ = some (.int .i64 a0_1) ∧ w'.cell? ⟨gb957, 2, none⟩ = some (.int .i64 a0_2) ∧ w'.cell? ⟨gb957, 3, none⟩ = some (.string a0_3) ∧ w'.cell? ⟨gb957, 4, none⟩ = some (.bool a0_4) ∧ w'.cell? ⟨gb957, 5, none⟩ = some (.int .i64 a0_5)) (ds := []) #[false, false, false, false, false, false, false, false, false, false, false, false, false, false, false, false, false, false, false, false, false, false, false, false, false, false, false, false, false, false, false] (by kernel_rfl) rfl rfl ⟨(blk_cell BK958.out 0).trans rfl, (blk_cell BK958.out 1).trans rfl, (blk_cell BK958.out 2).trans rfl, (blk_cell BK958.out 3).trans rfl, (blk_cell BK958.out 4).trans rfl, (blk_cell BK958.out 5).trans rfl, (blk_cell BK957.out 0).trans rfl, (blk_cell BK957.out 1).trans rfl, (blk_cell BK957.out 2).trans rfl, (blk_cell BK957.out 3).trans rfl, (blk_cell BK957.out 4).trans rfl, (blk_cell BK957.out 5).trans rfl⟩ (fun hHeld => ?_); refine with_tabW whittlelaw2_ValueOrder.tab10 whittlelaw2_ValueOrder.bits10 (fun HT_ HW_ => ?_)
                    generalize w40.drew = w47 at HO_7 BK957 BK958 BK959 HB hHeld ⊢
                    refine pure_ (i := 0) (N := some 45) (v := ?_) (a' := ?_) #[true, false, false, false, false, false, false, false, false, false, false, false, false, false, false, false, false, false, false, false, false, false, false, false, false, false, false, false, false, false, false] rfl rfl (any_of HT_.out (by kernel_rfl)) (fun _ _ _ h => h) (Or.inl ⟨by rfl, ?_⟩) ?_ ?_
                    rotate_left
                    · intro w'
                      go_simp
                      with_reducible rfl
                    rotate_left
                    · simp only [Act.put, List.setIfInBounds_toArray, List.set_cons_zero, List.set_cons_succ, i64_w, i32_w]
                      rfl
                    refine pure_ (i := 1) (N := some 46) (v := ?_) (a' := ?_) #[true, true, false, false, false, false, false, false, false, false, false, false, false, false, false, false, false, false, false, false, false, false, false, false, false, false, false, false, false, false, false] rfl rfl (any_of HT_.out (by kernel_rfl)) (fun _ _ _ h => h) (Or.inl ⟨by rfl, ?_⟩) ?_ ?_
                    rotate_left
                    · intro w'
                      go_simp
                      with_reducible rfl
                    rotate_left
                    · simp only [Act.put, List.setIfInBounds_toArray, List.set_cons_zero, List.set_cons_succ, i64_w, i32_w]
                      rfl
                    refine pure_ (i := 2) (N := some 47) (v := ?_) (a' := ?_) #[true, true, true, false, false, false, false, false, false, false, false, false, false, false, false, false, false, false, false, false, false, false, false, false, false, false, false, false, false, false, false] rfl rfl (any_of HT_.out (by kernel_rfl)) (fun _ _ _ h => h) (Or.inl ⟨by rfl, ?_⟩) ?_ ?_
                    rotate_left
                    · intro w'
                      go_simp
                      with_reducible rfl
                    rotate_left
                    · simp only [Act.put, List.setIfInBounds_toArray, List.set_cons_zero, List.set_cons_succ, i64_w, i32_w]
                      rfl
                    refine pure_ (i := 3) (N := some 48) (v := ?_) (a' := ?_) #[true, true, true, true, false, false, false, false, false, false, false, false, false, false, false, false, false, false, false, false, false, false, false, false, false, false, false, false, false, false, false] rfl rfl (any_of HT_.out (by kernel_rfl)) (fun _ _ _ h => h) (Or.inl ⟨by rfl, ?_⟩) ?_ ?_
                    rotate_left
                    · intro w'
                      go_simp
                      with_reducible rfl
                    rotate_left
                    · simp only [Act.put, List.setIfInBounds_toArray, List.set_cons_zero, List.set_cons_succ, i64_w, i32_w]
                      rfl
                    refine pure_ (i := 4) (N := some 49) (v := ?_) (a' := ?_) #[true, true, true, true, true, false, false, false, false, false, false, false, false, false, false, false, false, false, false, false, false, false, false, false, false, false, false, false, false, false, false] rfl rfl (any_of HT_.out (by kernel_rfl)) (fun _ _ _ h => h) (Or.inl ⟨by rfl, ?_⟩) ?_ ?_
                    rotate_left
                    · intro w'
                      go_simp
                      with_reducible rfl
                    rotate_left
                    · simp only [Act.put, List.setIfInBounds_toArray, List.set_cons_zero, List.set_cons_succ, i64_w, i32_w]
                      rfl
                    refine pure_ (i := 5) (N := some 50) (v := ?_) (a' := ?_) #[true, true, true, true, true, true, false, false, false, false, false, false, false, false, false, false, false, false, false, false, false, false, false, false, false, false, false, false, false, false, false] rfl rfl (any_of HT_.out (by kernel_rfl)) (fun _ _ _ h => h) (Or.inl ⟨by rfl, ?_⟩) ?_ ?_
                    rotate_left
                    · intro w'
                      go_simp
                      with_reducible rfl
                    rotate_left
                    · simp only [Act.put, List.setIfInBounds_toArray, List.set_cons_zero, List.set_cons_succ, i64_w, i32_w]
                      rfl
                    refine pure_ (i := 6) (N := some 51) (v := ?_) (a' := ?_) #[true, true, true, true, true, true, true, false, false, false, false, false, false, false, false, false, false, false, false, false, false, false, false, false, false, false, false, false, false, false, false] rfl rfl (any_of HT_.out (by kernel_rfl)) (fun _ _ _ h => h) (Or.inl ⟨by rfl, ?_⟩) ?_ ?_
                    rotate_left
                    · intro w'
                      go_simp
                      with_reducible rfl
                    rotate_left
                    · simp only [Act.put, List.setIfInBounds_toArray, List.set_cons_zero, List.set_cons_succ, i64_w, i32_w]
                      rfl
                    refine pure_ (i := 10) (N := some 55) (v := ?_) (a' := ?_) #[true, true, true, true, true, true, true, false, false, false, true, false, false, false, false, false, false, false, false, false, false, false, false, false, false, false, false, false, false, false, false] rfl rfl (any_of HT_.out (by kernel_rfl)) (fun _ _ _ h => h) (Or.inl ⟨by rfl, ?_⟩) ?_ ?_
                    rotate_left
                    · intro w'
                      go_simp
                      with_reducible rfl
                    rotate_left
                    · simp only [Act.put, List.setIfInBounds_toArray, List.set_cons_zero, List.set_cons_succ, i64_w, i32_w]
                      rfl
                    refine pure_ (i := 11) (N := some 56) (v := ?_) (a' := ?_) #[true, true, true, true, true, true, true, false, false, false, true, true, false, false, false, false, false, false, false, false, false, false, false, false, false, false, false, false, false, false, false] rfl rfl (any_of HT_.out (by kernel_rfl)) (fun _ _ _ h => h) (Or.inl ⟨by rfl, ?_⟩) ?_ ?_
                    rotate_left
                    · intro w'
                      go_simp
                      with_reducible rfl
                    rotate_left
                    · simp only [Act.put, List.setIfInBounds_toArray, List.set_cons_zero, List.set_cons_succ, i64_w, i32_w]
                      rfl
                    refine take_ (i := 7) (N := some 52) (v := ?_) (a' := ?_) #[true, true, true, true, true, true, true, true, false, false, true, true, false, false, false, false, false, false, false, false, false, false, false, false, false, false, false, false, false, false, false] rfl rfl (take_ofW HT_.out HW_.out (by kernel_rfl)) (fun _ _ _ h => h) (Or.inl ⟨by rfl, ?_⟩) hHeld ?_ ?_
                    rotate_left
                    · rintro w' ⟨s0, s1, s2, s3, s4, s5, s6, s7, s8, s9, s10, s11⟩
                      go_simp
                      with_reducible rfl
                    rotate_left
                    · simp only [Act.put, List.setIfInBounds_toArray, List.set_cons_zero, List.set_cons_succ, i64_w, i32_w]
                      rfl
                    refine take_ (i := 8) (N := some 53) (v := ?_) (a' := ?_) #[true, true, true, true, true, true, true, true, true, false, true, true, false, false, false, false, false, false, false, false, false, false, false, false, false, false, false, false, false, false, false] rfl rfl (take_ofW HT_.out HW_.out (by kernel_rfl)) (fun _ _ _ h => h) (Or.inl ⟨by rfl, ?_⟩) hHeld ?_ ?_
                    rotate_left
                    · rintro w' ⟨s0, s1, s2, s3, s4, s5, s6, s7, s8, s9, s10, s11⟩
                      go_simp
                      with_reducible rfl
                    rotate_left
                    · simp only [Act.put, List.setIfInBounds_toArray, List.set_cons_zero, List.set_cons_succ, i64_w, i32_w]
                      rfl
                    refine one_ (i := 9) (N := some 54) #[true, true, true, true, true, true, true, true, true, true, true, true, false, false, false, false, false, false, false, false, false, false, false, false, false, false, false, false, false, false, false] rfl rfl (one_of HT_.out (by kernel_rfl)) (by decide) (fun K hK => ?_)
                    refine goes_ Tryd.func32 (by kernel_rfl) rfl #[.agg #[.int .i64 a1_0, .int .i64 a1_1, .int .i64 a1_2, .string a1_3, .bool a1_4, .int .i64 a1_5], .agg #[.int .i64 a0_0, .int .i64 a0_1, .int .i64 a0_2, .string a0_3, .bool a0_4, .int .i64 a0_5]] (by rfl) rfl rfl (by (try simp only [List.map_toArray, List.map_cons, List.map_nil]); first | done | rfl | (simp only [List.length_drop, List.length_take]; rfl)) ?_
                    with_reducible refine (value_Cmp.calls k1 a1_0 a1_1 a1_2 a1_3 a1_4 a1_5 a0_0 a0_1 a0_2 a0_3 a0_4 a0_5 t969 _ A43.out).mono ?_
                    rintro e w48 ⟨rfl, hb⟩
                    refine ⟨_, rfl, ?_⟩
                    have n0_ := Aside0.mk (Kd.R_below (by (with_reducible repeat (first | apply Kd.R_alloc | apply Kd.R_drewN | apply Kd.R_drew)); exact HO_7.out) hb)
                    have n1_ := Aside0.mk (blk_below (g := gb957) (o := .cells #[.int .i64 a0_0, .int .i64 a0_1, .int .i64 a0_2, .string a0_3, .bool a0_4, .int .i64 a0_5] 25 (0, 0)) (by (with_reducible repeat (first | refine blk_drewN ?_ _ | refine blk_drew ?_ | refine blk_alloc ?_ _)); exact BK957.out) hb)
                    have n2_ := Aside0.mk (blk_below (g := gb958) (o := .cells #[.int .i64 a1_0, .int .i64 a1_1, .int .i64 a1_2, .string a1_3, .bool a1_4, .int .i64 a1_5] 25 (0, 0)) (by (with_reducible repeat (first | refine blk_drewN ?_ _ | refine blk_drew ?_ | refine blk_alloc ?_ _)); exact BK958.out) hb)
                    have n3_ := Aside0.mk (blk_below (g := gb959) (o := .cells #[.int .i64 a2_0, .int .i64 a2_1, .int .i64 a2_2, .string a2_3, .bool a2_4, .int .i64 a2_5] 25 (0, 0)) (by (with_reducible repeat (first | refine blk_drewN ?_ _ | refine blk_drew ?_ | refine blk_alloc ?_ _)); exact BK959.out) hb)
                    have n4_ := Aside0.mk (below_step (by repeat (first | (with_reducible first | exact HB.out | apply below_alloc | apply pw_below_drewN | apply below_drew1 | refine below_set ?_ GE957.out | refine below_set ?_ GE958.out | refine below_set ?_ GE959.out) | exact HB.out)) hb)
                    clear HO_7
                    clear BK957
                    clear BK958
                    clear BK959
                    clear HB
                    have HO_7 := n0_
                    have BK957 := n1_
                    have BK958 := n2_
                    have BK959 := n3_
                    have HB := n4_
                    clear n0_ n1_ n2_ n3_ n4_
                    (try clear hb)
                    (try clear hb2)
                    (try clear hk)
                    (try clear hi)
                    refine hK.out _ _ ⟨(blk_cell BK958.out 0).trans rfl, (blk_cell BK958.out 1).trans rfl, (blk_cell BK958.out 2).trans rfl, (blk_cell BK958.out 3).trans rfl, (blk_cell BK958.out 4).trans rfl, (blk_cell BK958.out 5).trans rfl, (blk_cell BK957.out 0).trans rfl, (blk_cell BK957.out 1).trans rfl, (blk_cell BK957.out 2).trans rfl, (blk_cell BK957.out 3).trans rfl, (blk_cell BK957.out 4).trans rfl, (blk_cell BK957.out 5).trans rfl⟩ (fun hHeld => ?_)
                    clear hK K
                    refine norm_ (a' := ?_) ?_ ?_
                    rotate_left
                    · show Act.put _ (some 54) _ = _
                      simp only [Act.put, List.setIfInBounds_toArray, List.set_cons_zero, List.set_cons_succ, i64_w, i32_w]
                      rfl
                    refine pure_ (i := 12) (N := some 57) (v := ?_) (a' := ?_) #[true, true, true, true, true, true, true, true, true, true, true, true, true, false, false, false, false, false, false, false, false, false, false, false, false, false, false, false, false, false, false] rfl rfl (any_of HT_.out (by kernel_rfl)) (fun _ _ _ h => h) (Or.inl ⟨by rfl, ?_⟩) ?_ ?_
                    rotate_left
                    · intro w'
                      go_simp
                      with_reducible rfl
                    rotate_left
                    · simp only [Act.put, List.setIfInBounds_toArray, List.set_cons_zero, List.set_cons_succ, i64_w, i32_w]
                      rfl
                    refine pure_ (i := 13) (N := some 58) (v := ?_) (a' := ?_) #[true, true, true, true, true, true, true, true, true, true, true, true, true, true, false, false, false, false, false, false, false, false, false, false, false, false, false, false, false, false, false] rfl rfl (any_of HT_.out (by kernel_rfl)) (fun _ _ _ h => h) (Or.inl ⟨by rfl, ?_⟩) ?_ ?_
                    rotate_left
                    · intro w'
                      go_simp
                      with_reducible rfl
                    rotate_left
                    · simp only [Act.put, List.setIfInBounds_toArray, List.set_cons_zero, List.set_cons_succ, i64_w, i32_w]
                      rfl
                    refine pure_ (i := 14) (N := some 59) (v := ?_) (a' := ?_) #[true, true, true, true, true, true, true, true, true, true, true, true, true, true, true, false, false, false, false, false, false, false, false, false, false, false, false, false, false, false, false] rfl rfl (any_of HT_.out (by kernel_rfl)) (fun _ _ _ h => h) (Or.inl ⟨by rfl, ?_⟩) ?_ ?_
                    rotate_left
                    · intro w'
                      go_simp
                      with_reducible rfl
                    rotate_left
                    · simp only [Act.put, List.setIfInBounds_toArray, List.set_cons_zero, List.set_cons_succ, i64_w, i32_w]
                      rfl
                    refine pure_ (i := 15) (N := some 60) (v := ?_) (a' := ?_) #[true, true, true, true, true, true, true, true, true, true, true, true, true, true, true, true, false, false, false, false, false, false, false, false, false, false, false, false, false, false, false] rfl rfl (any_of HT_.out (by kernel_rfl)) (fun _ _ _ h => h) (Or.inl ⟨by rfl, ?_⟩) ?_ ?_
                    rotate_left
                    · intro w'
                      go_simp
                      with_reducible rfl
                    rotate_left
                    · simp only [Act.put, List.setIfInBounds_toArray, List.set_cons_zero, List.set_cons_succ, i64_w, i32_w]
                      rfl
                    refine pure_ (i := 16) (N := some 61) (v := ?_) (a' := ?_) #[true, true, true, true, true, true, true, true, true, true, true, true, true, true, true, true, true, false, false, false, false, false, false, false, false, false, false, false, false, false, false] rfl rfl (any_of HT_.out (by kernel_rfl)) (fun _ _ _ h => h) (Or.inl ⟨by rfl, ?_⟩) ?_ ?_
                    rotate_left
                    · intro w'
                      go_simp
                      with_reducible rfl
                    rotate_left
                    · simp only [Act.put, List.setIfInBounds_toArray, List.set_cons_zero, List.set_cons_succ, i64_w, i32_w]
                      rfl
                    refine take_ (i := 17) (N := some 62) (v := ?_) (a' := ?_) #[true, true, true, true, true, true, true, true, true, true, true, true, true, true, true, true, true, true, false, false, false, false, false, false, false, false, false, false, false, false, false] rfl rfl (take_ofW HT_.out HW_.out (by kernel_rfl)) (fun _ _ _ h => h) (Or.inl ⟨by rfl, ?_⟩) hHeld ?_ ?_
                    rotate_left
                    · rintro w' ⟨s0, s1, s2, s3, s4, s5, s6, s7, s8, s9, s10, s11⟩
                      go_simp
                      with_reducible rfl
                    rotate_left
                    · simp only [Act.put, List.setIfInBounds_toArray, List.set_cons_zero, List.set_cons_succ, i64_w, i32_w]
                      rfl
                    refine take_ (i := 18) (N := some 63) (v := ?_) (a' := ?_) #[true, true, true, true, true, true, true, true, true, true, true, true, true, true, true, true, true, true, true, false, false, false, false, false, false, false, false, false, false, false, false] rfl rfl (take_ofW HT_.out HW_.out (by kernel_rfl)) (fun _ _ _ h => h) (Or.inl ⟨by rfl, ?_⟩) hHeld ?_ ?_
                    rotate_left
                    · rintro w' ⟨s0, s1, s2, s3, s4, s5, s6, s7, s8, s9, s10, s11⟩
                      go_simp
                      with_reducible rfl
                    rotate_left
                    · simp only [Act.put, List.setIfInBounds_toArray, List.set_cons_zero, List.set_cons_succ, i64_w, i32_w]
                      rfl
                    refine pure_ (i := 19) (N := some 64) (v := ?_) (a' := ?_) #[true, true, true, true, true, true, true, true, true, true, true, true, true, true, true, true, true, true, true, true, false, false, false, false, false, false, false, false, false, false, false] rfl rfl (any_of HT_.out (by kernel_rfl)) (fun _ _ _ h => h) (Or.inl ⟨by rfl, ?_⟩) ?_ ?_
                    rotate_left
                    · intro w'
                      go_simp
                      with_reducible rfl
                    rotate_left
                    · simp only [Act.put, List.setIfInBounds_toArray, List.set_cons_zero, List.set_cons_succ, i64_w, i32_w]
                      rfl
                    refine pure_ (i := 20) (N := some 65) (v := ?_) (a' := ?_) #[true, true, true, true, true, true, true, true, true, true, true, true, true, true, true, true, true, true, true, true, true, false, false, false, false, false, false, false, false, false, false] rfl rfl (any_of HT_.out (by kernel_rfl)) (fun _ _ _ h => h) (Or.inl ⟨by rfl, ?_⟩) ?_ ?_
                    rotate_left
                    · intro w'
                      go_simp
                      with_reducible rfl
                    rotate_left
                    · simp only [Act.put, List.setIfInBounds_toArray, List.set_cons_zero, List.set_cons_succ, i64_w, i32_w]
                      rfl
                    refine pure_ (i := 21) (N := some 66) (v := ?_) (a' := ?_) #[true, true, true, true, true, true, true, true, true, true, true, true, true, true, true, true, true, true, true, true, true, true, false, false, false, false, false, false, false, false, false] rfl rfl (any_of HT_.out (by kernel_rfl)) (fun _ _ _ h => h) (Or.inl ⟨by rfl, ?_⟩) ?_ ?_
                    rotate_left
                    · intro w'
                      go_simp
                      with_reducible rfl
                    rotate_left
                    · simp only [Act.put, List.setIfInBounds_toArray, List.set_cons_zero, List.set_cons_succ, i64_w, i32_w]
                      rfl
                    refine pure_ (i := 22) (N := some 67) (v := ?_) (a' := ?_) #[true, true, true, true, true, true, true, true, true, true, true, true, true, true, true, true, true, true, true, true, true, true, true, false, false, false, false, false, false, false, false] rfl rfl (any_of HT_.out (by kernel_rfl)) (fun _ _ _ h => h) (Or.inl ⟨by rfl, ?_⟩) ?_ ?_
                    rotate_left
                    · intro w'
                      go_simp
                      with_reducible rfl
                    rotate_left
                    · simp only [Act.put, List.setIfInBounds_toArray, List.set_cons_zero, List.set_cons_succ, i64_w, i32_w]
                      rfl
                    refine take_ (i := 23) (N := some 68) (v := ?_) (a' := ?_) #[true, true, true, true, true, true, true, true, true, true, true, true, true, true, true, true, true, true, true, true, true, true, true, true, false, false, false, false, false, false, false] rfl rfl (take_ofW HT_.out HW_.out (by kernel_rfl)) (fun _ _ _ h => h) (Or.inl ⟨by rfl, ?_⟩) hHeld ?_ ?_
                    rotate_left
                    · rintro w' ⟨s0, s1, s2, s3, s4, s5, s6, s7, s8, s9, s10, s11⟩
                      go_simp
                      with_reducible rfl
                    rotate_left
                    · simp only [Act.put, List.setIfInBounds_toArray, List.set_cons_zero, List.set_cons_succ, i64_w, i32_w]
                      rfl
                    refine take_ (i := 24) (N := some 69) (v := ?_) (a' := ?_) #[true, true, true, true, true, true, true, true, true, true, true, true, true, true, true, true, true, true, true, true, true, true, true, true, true, false, false, false, false, false, false] rfl rfl (take_ofW HT_.out HW_.out (by kernel_rfl)) (fun _ _ _ h => h) (Or.inl ⟨by rfl, ?_⟩) hHeld ?_ ?_
                    rotate_left
                    · rintro w' ⟨s0, s1, s2, s3, s4, s5, s6, s7, s8, s9, s10, s11⟩
                      go_simp
                      with_reducible rfl
                    rotate_left
                    · simp only [Act.put, List.setIfInBounds_toArray, List.set_cons_zero, List.set_cons_succ, i64_w, i32_w]
                      rfl
                    refine take_ (i := 26) (N := some 71) (v := ?_) (a' := ?_) #[true, true, true, true, true, true, true, true, true, true, true, true, true, true, true, true, true, true, true, true, true, true, true, true, true, false, true, false, false, false, false] rfl rfl (take_ofW HT_.out HW_.out (by kernel_rfl)) (fun _ _ _ h => h) (Or.inl ⟨by rfl, ?_⟩) hHeld ?_ ?_
                    rotate_left
                    · rintro w' ⟨s0, s1, s2, s3, s4, s5, s6, s7, s8, s9, s10, s11⟩
                      go_simp
                      with_reducible rfl
                    rotate_left
                    · simp only [Act.put, List.setIfInBounds_toArray, List.set_cons_zero, List.set_cons_succ, i64_w, i32_w]
                      rfl
                    refine take_ (i := 27) (N := some 72) (v := ?_) (a' := ?_) #[true, true, true, true, true, true, true, true, true, true, true, true, true, true, true, true, true, true, true, true, true, true, true, true, true, false, true, true, false, false, false] rfl rfl (take_ofW HT_.out HW_.out (by kernel_rfl)) (fun _ _ _ h => h) (Or.inl ⟨by rfl, ?_⟩) hHeld ?_ ?_
                    rotate_left
                    · rintro w' ⟨s0, s1, s2, s3, s4, s5, s6, s7, s8, s9, s10, s11⟩
                      go_simp
                      with_reducible rfl
                    rotate_left
                    · simp only [Act.put, List.setIfInBounds_toArray, List.set_cons_zero, List.set_cons_succ, i64_w, i32_w]
                      rfl
                    refine pure_ (i := 28) (N := some 73) (v := ?_) (a' := ?_) #[true, true, true, true, true, true, true, true, true, true, true, true, true, true, true, true, true, true, true, true, true, true, true, true, true, false, true, true, true, false, false] rfl rfl (any_of HT_.out (by kernel_rfl)) (fun _ _ _ h => h) (Or.inl ⟨by rfl, ?_⟩) ?_ ?_
                    rotate_left
                    · intro w'
                      go_simp
                      with_reducible rfl
                    rotate_left
                    · simp only [Act.put, List.setIfInBounds_toArray, List.set_cons_zero, List.set_cons_succ, i64_w, i32_w]
                      rfl
                    refine one_ (i := 25) (N := some 70) #[true, true, true, true, true, true, true, true, true, true, true, true, true, true, true, true, true, true, true, true, true, true, true, true, true, true, true, true, true, false, false] rfl rfl (one_of HT_.out (by kernel_rfl)) (by decide) (fun K hK => ?_)
                    refine goes_ Tryd.func34 (by kernel_rfl) rfl #[.agg #[.int .i64 a0_0, .int .i64 a0_1, .int .i64 a0_2, .string a0_3, .bool a0_4, .int .i64 a0_5], .agg #[.int .i64 a1_0, .int .i64 a1_1, .int .i64 a1_2, .string a1_3, .bool a1_4, .int .i64 a1_5]] (by rfl) rfl rfl (by (try simp only [List.map_toArray, List.map_cons, List.map_nil]); first | done | rfl | (simp only [List.length_drop, List.length_take]; rfl)) ?_
                    with_reducible refine (value_Same.calls k1 a0_0 a0_1 a0_2 a0_3 a0_4 a0_5 a1_0 a1_1 a1_2 a1_3 a1_4 a1_5 t970 _ A46.out).mono ?_
                    rintro e w49 ⟨rfl, hb⟩
                    refine ⟨_, rfl, ?_⟩
                    have n0_ := Aside0.mk (Kd.R_below (by (with_reducible repeat (first | apply Kd.R_alloc | apply Kd.R_drewN | apply Kd.R_drew)); exact HO_7.out) hb)
                    have n1_ := Aside0.mk (blk_below (g := gb957) (o := .cells #[.int .i64 a0_0, .int .i64 a0_1, .int .i64 a0_2, .string a0_3, .bool a0_4, .int .i64 a0_5] 25 (0, 0)) (by (with_reducible repeat (first | refine blk_drewN ?_ _ | refine blk_drew ?_ | refine blk_alloc ?_ _)); exact BK957.out) hb)
                    have n2_ := Aside0.mk (blk_below (g := gb958) (o := .cells #[.int .i64 a1_0, .int .i64 a1_1, .int .i64 a1_2, .string a1_3, .bool a1_4, .int .i64 a1_5] 25 (0, 0)) (by (with_reducible repeat (first | refine blk_drewN ?_ _ | refine blk_drew ?_ | refine blk_alloc ?_ _)); exact BK958.out) hb)
                    have n3_ := Aside0.mk (blk_below (g := gb959) (o := .cells #[.int .i64 a2_0, .int .i64 a2_1, .int .i64 a2_2, .string a2_3, .bool a2_4, .int .i64 a2_5] 25 (0, 0)) (by (with_reducible repeat (first | refine blk_drewN ?_ _ | refine blk_drew ?_ | refine blk_alloc ?_ _)); exact BK959.out) hb)
                    have n4_ := Aside0.mk (below_step (by repeat (first | (with_reducible first | exact HB.out | apply below_alloc | apply pw_below_drewN | apply below_drew1 | refine below_set ?_ GE957.out | refine below_set ?_ GE958.out | refine below_set ?_ GE959.out) | exact HB.out)) hb)
                    clear HO_7
                    clear BK957
                    clear BK958
                    clear BK959
                    clear HB
                    have HO_7 := n0_
                    have BK957 := n1_
                    have BK958 := n2_
                    have BK959 := n3_
                    have HB := n4_
                    clear n0_ n1_ n2_ n3_ n4_
                    (try clear hb)
                    (try clear hb2)
                    (try clear hk)
                    (try clear hi)
                    refine hK.out _ _ ⟨(blk_cell BK958.out 0).trans rfl, (blk_cell BK958.out 1).trans rfl, (blk_cell BK958.out 2).trans rfl, (blk_cell BK958.out 3).trans rfl, (blk_cell BK958.out 4).trans rfl, (blk_cell BK958.out 5).trans rfl, (blk_cell BK957.out 0).trans rfl, (blk_cell BK957.out 1).trans rfl, (blk_cell BK957.out 2).trans rfl, (blk_cell BK957.out 3).trans rfl, (blk_cell BK957.out 4).trans rfl, (blk_cell BK957.out 5).trans rfl⟩ (fun hHeld => ?_)
                    clear hK K
                    refine norm_ (a' := ?_) ?_ ?_
                    rotate_left
                    · show Act.put _ (some 70) _ = _
                      simp only [Act.put, List.setIfInBounds_toArray, List.set_cons_zero, List.set_cons_succ, i64_w, i32_w]
                      rfl
                    refine pure_ (i := 29) (N := some 74) (v := ?_) (a' := ?_) #[true, true, true, true, true, true, true, true, true, true, true, true, true, true, true, true, true, true, true, true, true, true, true, true, true, true, true, true, true, true, false] rfl rfl (any_of HT_.out (by kernel_rfl)) (fun _ _ _ h => h) (Or.inl ⟨by rfl, ?_⟩) ?_ ?_
                    rotate_left
                    · intro w'
                      go_simp
                      with_reducible rfl
                    rotate_left
                    · simp only [Act.put, List.setIfInBounds_toArray, List.set_cons_zero, List.set_cons_succ, i64_w, i32_w]
                      rfl
                    refine pure_ (i := 30) (N := some 75) (v := ?_) (a' := ?_) #[true, true, true, true, true, true, true, true, true, true, true, true, true, true, true, true, true, true, true, true, true, true, true, true, true, true, true, true, true, true, true] rfl rfl (any_of HT_.out (by kernel_rfl)) (fun _ _ _ h => h) (Or.inl ⟨by rfl, ?_⟩) ?_ ?_
                    rotate_left
                    · intro w'
                      go_simp
                      with_reducible rfl
                    rotate_left
                    · simp only [Act.put, List.setIfInBounds_toArray, List.set_cons_zero, List.set_cons_succ, i64_w, i32_w]
                      rfl
                    refine done_ (done_of HT_.out (by kernel_rfl)) ?_
                    try go_wp2
                    go_meet
                    case rel => exact ⟨_, ((t970 != (a0_0 == a1_0 && ((a0_1 == a1_1 && (a0_2 == a1_2)) && (a0_3.toList == a1_3.toList && (a0_4 == a1_4 && (a0_5 == a1_5))))))), (by first | rfl | (simp; done) | (simp [*]; done) | (simp [bne_nil]; done)), H', ⟨by have := HK1.out; first | omega | exact Nat.le_refl _⟩, ⟨by (with_reducible repeat (first | refine blk_drewN ?_ _ | refine blk_drew ?_ | refine blk_alloc ?_ _)); exact BK957.out⟩, ⟨by (with_reducible repeat (first | refine blk_drewN ?_ _ | refine blk_drew ?_ | refine blk_alloc ?_ _)); exact BK958.out⟩, ⟨by (with_reducible repeat (first | refine blk_drewN ?_ _ | refine blk_drew ?_ | refine blk_alloc ?_ _)); exact BK959.out⟩, ⟨by repeat (first | (with_reducible first | exact HB.out | apply below_alloc | apply pw_below_drewN | apply below_drew1 | refine below_set ?_ GE957.out | refine below_set ?_ GE958.out | refine below_set ?_ GE959.out) | exact HB.out)⟩⟩
                · rw [if_neg c44] at H
                  have c44b0 : (t969 == (wrap64 (-t968))) = false := beq_eq_false_iff_ne.mpr c44
                  have c44b1 : (t969 != (wrap64 (-t968))) = true := bne_iff_ne.mpr c44
                  exact (no_meet (g := fun k_ => whittlelaw2_ValueOrder.j1 k_ t968 true a0_0 a0_1 a0_2 a0_3 a0_4 a0_5 a1_0 a1_1 a1_2 a1_3 a1_4 a1_5 a2_0 a2_1 a2_2 a2_3 a2_4 a2_5) HR.out H (by simp only [whittlelaw2_ValueOrder.j1]) (fun k_ => by simp only [whittlelaw2_ValueOrder.j1]; first | exact if_pos rfl | rfl | simp)).elim
          case rest =>
            clear HC34
            try clear c1
            try clear c2
            try clear p2
            try clear c3
            try clear c4
            try clear c5
            try clear c6
            try clear p6
            try clear c9
            try clear p9
            try clear q9
            try clear hx9
            try clear c10
            try clear c11
            try clear c13
            try clear c15
            try clear c16
            try clear c18
            try clear c18b0
            try clear c19
            try clear c19b0
            try clear c20
            try clear c20b0
            try clear c22
            try clear c23
            try clear c23b0
            try clear c23b1
            try clear c26
            try clear c26b0
            try clear c26b1
            try clear c32
            try clear c34
            try clear c35
            try clear c36
            try clear c38
            try clear c41
            try clear c41b0
            try clear c42
            try clear c42b0
            try clear c44
            try clear c44b0
            try clear c44b1
            try clear c45
            try clear c45b0
            try clear c45b1
            try clear c45b2
            try clear hcz12_0
            try clear hcz12_1
            try clear hcz12_2
            try clear hcz12_3
            try clear hcz12_4
            try clear hcz12_5
            try clear hcz14_0
            try clear hcz14_1
            try clear hcz14_2
            try clear hcz14_3
            try clear hcz14_4
            try clear hcz14_5
            try clear hcz15_0
            try clear hcz15_1
            try clear hcz15_2
            try clear hcz15_3
            try clear hcz15_4
            try clear hcz15_5
            try clear hcz37_0
            try clear hcz37_1
            try clear hcz37_2
            try clear hcz37_3
            try clear hcz37_4
            try clear hcz37_5
            try clear hcz39_0
            try clear hcz39_1
            try clear hcz39_2
            try clear hcz39_3
            try clear hcz39_4
            try clear hcz39_5
            try clear hfz12_0
            try clear hfz12_1
            try clear hfz12_2
            try clear hfz12_3
            try clear hfz12_4
            try clear hfz12_5
            try clear hfz14_0
            try clear hfz14_1
            try clear hfz14_2
            try clear hfz14_3
            try clear hfz14_4
            try clear hfz14_5
            try clear hfz15_0
            try clear hfz15_1
            try clear hfz15_2
            try clear hfz15_3
            try clear hfz15_4
            try clear hfz15_5
            try clear hfz37_0
            try clear hfz37_1
            try clear hfz37_2
            try clear hfz37_3
            try clear hfz37_4
            try clear hfz37_5
            try clear hfz39_0
            try clear hfz39_1
            try clear hfz39_2
            try clear hfz39_3
            try clear hfz39_4
            try clear hfz39_5
            try clear hx964_0
            try clear hx964_1
            try clear hx964_2
            try clear hx964_3
            try clear hx964_4
            try clear hx964_5
            try clear hx966_0
            try clear hx966_1
            try clear hx966_2
            try clear hx966_3
            try clear hx966_4
            try clear hx966_5
            try clear hx967_0
            try clear hx967_1
            try clear hx967_2
            try clear hx967_3
            try clear hx967_4
            try clear hx967_5
            try clear p2
            try clear p964
            try clear p966
            try clear p967
            try clear q964
            try clear q966
            try clear q967
            obtain ⟨kq, x75_33, rfl, HA, HJ33, BK957, BK958, BK959, HB⟩ := hcut
            cases kq with
            | zero => exact absurd HA.out (by simp [whittlelaw2_ValueOrder.j1])
            | succ kj33 =>
              have H := HA.out
              clear HA
              simp only [whittlelaw2_ValueOrder.j1] at H
              by_cases c50 : x75_33 = true
              · subst c50
                have H1 : (some false) = some r := by rw [if_pos rfl] at H; exact H
                clear H
                have H := H1
                clear H1
                exact absurd (Option.some.inj H) (by rw [HR.out]; decide)
              · replace c50 := Bool.eq_false_iff.mpr c50
                subst c50
                have H1 : (if t968 > 0 then (some true) else ((value_Cmp.f kj33 a1_0 a1_1 a1_2 a1_3 a1_4 a1_5 a2_0 a2_1 a2_2 a2_3 a2_4 a2_5).bind fun t971 => (if t971 > 0 then (some true) else ((value_Cmp.f kj33 a0_0 a0_1 a0_2 a0_3 a0_4 a0_5 a2_0 a2_1 a2_2 a2_3 a2_4 a2_5).bind fun t972 => (some (decide (t972 ≤ 0))))))) = some r := by rw [if_neg (show ¬ (false = true) by decide)] at H; exact H
                clear H
                have H := H1
                clear H1
                by_cases c51 : t968 > 0
                · rw [if_pos c51] at H
                  have c51b0 : decide (0 < t968) = true := decide_eq_true c51
                  clear c51
                  clear HR
                  obtain rfl := Option.some.inj H
                  go_wp2
                  go_ret
                  exact ⟨by first | rfl | (simp [errW_none, errW_some] <;> rfl) | (simp [*, errW_none, errW_some] <;> rfl), by repeat (first | (with_reducible first | exact HB.out | apply below_alloc | apply pw_below_drewN | apply below_drew1 | refine below_set ?_ GE957.out | refine below_set ?_ GE958.out | refine below_set ?_ GE959.out) | exact HB.out)⟩
                · rw [if_neg c51] at H
                  have c51b0 : decide (0 < t968) = false := decide_eq_false c51
                  clear c51
                  replace H := Option.bind_eq_some_iff.mp H
                  obtain ⟨t971, A520, H⟩ := H
                  replace H : (if t971 > 0 then (some true) else ((value_Cmp.f kj33 a0_0 a0_1 a0_2 a0_3 a0_4 a0_5 a2_0 a2_1 a2_2 a2_3 a2_4 a2_5).bind fun t972 => (some (decide (t972 ≤ 0))))) = some r := H
                  have A52 := Aside0.mk A520
                  clear A520
                  by_cases c53 : t971 > 0
                  · rw [if_pos c53] at H
                    have c53b0 : decide (0 < t971) = true := decide_eq_true c53
                    clear c53
                    clear HR
                    obtain rfl := Option.some.inj H
                    have hnb54 := NB958_957.out
                    have hnc54 := NB957_958.out
                    have hnb55 := NB958_959.out
                    have hnc55 := NB959_958.out
                    have hcz56_0 : wc.cell? ⟨gb958, 0, none⟩ = some (.int .i64 a1_0) := (blk_cell BK958.out 0).trans rfl
                    have hcz56_1 : wc.cell? ⟨gb958, 1, none⟩ = some (.int .i64 a1_1) := (blk_cell BK958.out 1).trans rfl
                    have hcz56_2 : wc.cell? ⟨gb958, 2, none⟩ = some (.int .i64 a1_2) := (blk_cell BK958.out 2).trans rfl
                    have hcz56_3 : wc.cell? ⟨gb958, 3, none⟩ = some (.string a1_3) := (blk_cell BK958.out 3).trans rfl
                    have hcz56_4 : wc.cell? ⟨gb958, 4, none⟩ = some (.bool a1_4) := (blk_cell BK958.out 4).trans rfl
                    have hcz56_5 : wc.cell? ⟨gb958, 5, none⟩ = some (.int .i64 a1_5) := (blk_cell BK958.out 5).trans rfl
                    have hfz56_0 := blk_frozen BK958.out 0
                    have hfz56_1 := blk_frozen BK958.out 1
                    have hfz56_2 := blk_frozen BK958.out 2
                    have hfz56_3 := blk_frozen BK958.out 3
                    have hfz56_4 := blk_frozen BK958.out 4
                    have hfz56_5 := blk_frozen BK958.out 5
                    have hnb57 := NB959_957.out
                    have hnc57 := NB957_959.out
                    have hcz58_0 : wc.cell? ⟨gb959, 0, none⟩ = some (.int .i64 a2_0) := (blk_cell BK959.out 0).trans rfl
                    have hcz58_1 : wc.cell? ⟨gb959, 1, none⟩ = some (.int .i64 a2_1) := (blk_cell BK959.out 1).trans rfl
                    have hcz58_2 : wc.cell? ⟨gb959, 2, none⟩ = some (.int .i64 a2_2) := (blk_cell BK959.out 2).trans rfl
                    have hcz58_3 : wc.cell? ⟨gb959, 3, none⟩ = some (.string a2_3) := (blk_cell BK959.out 3).trans rfl
                    have hcz58_4 : wc.cell? ⟨gb959, 4, none⟩ = some (.bool a2_4) := (blk_cell BK959.out 4).trans rfl
                    have hcz58_5 : wc.cell? ⟨gb959, 5, none⟩ = some (.int .i64 a2_5) := (blk_cell BK959.out 5).trans rfl
                    have hfz58_0 := blk_frozen BK959.out 0
                    have hfz58_1 := blk_frozen BK959.out 1
                    have hfz58_2 := blk_frozen BK959.out 2
                    have hfz58_3 := blk_frozen BK959.out 3
                    have hfz58_4 := blk_frozen BK959.out 4
                    have hfz58_5 := blk_frozen BK959.out 5
                    go_wp2_with (first | (go_at_call 32; (with_reducible refine (value_Cmp.calls kj33 a1_0 a1_1 a1_2 a1_3 a1_4 a1_5 a2_0 a2_1 a2_2 a2_3 a2_4 a2_5 t971 _ A52.out).mono ?_); rintro e w59 ⟨rfl, hb⟩; have n0_ := Aside0.mk (blk_below (g := gb957) (o := .cells #[.int .i64 a0_0, .int .i64 a0_1, .int .i64 a0_2, .string a0_3, .bool a0_4, .int .i64 a0_5] 25 (0, 0)) (by (with_reducible repeat (first | refine blk_drewN ?_ _ | refine blk_drew ?_ | refine blk_alloc ?_ _)); exact BK957.out) hb); have n1_ := Aside0.mk (blk_below (g := gb958) (o := .cells #[.int .i64 a1_0, .int .i64 a1_1, .int .i64 a1_2, .string a1_3, .bool a1_4, .int .i64 a1_5] 25 (0, 0)) (by (with_reducible repeat (first | refine blk_drewN ?_ _ | refine blk_drew ?_ | refine blk_alloc ?_ _)); exact BK958.out) hb); have n2_ := Aside0.mk (blk_below (g := gb959) (o := .cells #[.int .i64 a2_0, .int .i64 a2_1, .int .i64 a2_2, .string a2_3, .bool a2_4, .int .i64 a2_5] 25 (0, 0)) (by (with_reducible repeat (first | refine blk_drewN ?_ _ | refine blk_drew ?_ | refine blk_alloc ?_ _)); exact BK959.out) hb); have n3_ := Aside0.mk (below_step (by repeat (first | (with_reducible first | exact HB.out | apply below_alloc | apply pw_below_drewN | apply below_drew1 | refine below_set ?_ GE957.out | refine below_set ?_ GE958.out | refine below_set ?_ GE959.out) | exact HB.out)) hb); clear BK957; clear BK958; clear BK959; clear HB; have BK957 := n0_; have BK958 := n1_; have BK959 := n2_; have HB := n3_; clear n0_ n1_ n2_ n3_; (try clear hb); (try clear hb2); (try clear hk); (try clear hi)))
                    go_ret
                    exact ⟨by first | rfl | (simp [errW_none, errW_some] <;> rfl) | (simp [*, errW_none, errW_some] <;> rfl), by repeat (first | (with_reducible first | exact HB.out | apply below_alloc | apply pw_below_drewN | apply below_drew1 | refine below_set ?_ GE957.out | refine below_set ?_ GE958.out | refine below_set ?_ GE959.out) | exact HB.out)⟩
                  · rw [if_neg c53] at H
                    have c53b0 : decide (0 < t971) = false := decide_eq_false c53
                    clear c53
                    replace H := Option.bind_eq_some_iff.mp H
                    obtain ⟨t972, A600, H⟩ := H
                    replace H : (some (decide (t972 ≤ 0))) = some r := H
                    have A60 := Aside0.mk A600
                    clear A600
                    clear HR
                    obtain rfl := Option.some.inj H
                    have hnb61 := NB958_957.out
                    have hnc61 := NB957_958.out
                    have hnb62 := NB958_959.out
                    have hnc62 := NB959_958.out
                    have hcz63_0 : wc.cell? ⟨gb958, 0, none⟩ = some (.int .i64 a1_0) := (blk_cell BK958.out 0).trans rfl
                    have hcz63_1 : wc.cell? ⟨gb958, 1, none⟩ = some (.int .i64 a1_1) := (blk_cell BK958.out 1).trans rfl
                    have hcz63_2 : wc.cell? ⟨gb958, 2, none⟩ = some (.int .i64 a1_2) := (blk_cell BK958.out 2).trans rfl
                    have hcz63_3 : wc.cell? ⟨gb958, 3, none⟩ = some (.string a1_3) := (blk_cell BK958.out 3).trans rfl
                    have hcz63_4 : wc.cell? ⟨gb958, 4, none⟩ = some (.bool a1_4) := (blk_cell BK958.out 4).trans rfl
                    have hcz63_5 : wc.cell? ⟨gb958, 5, none⟩ = some (.int .i64 a1_5) := (blk_cell BK958.out 5).trans rfl
                    have hfz63_0 := blk_frozen BK958.out 0
                    have hfz63_1 := blk_frozen BK958.out 1
                    have hfz63_2 := blk_frozen BK958.out 2
                    have hfz63_3 := blk_frozen BK958.out 3
                    have hfz63_4 := blk_frozen BK958.out 4
                    have hfz63_5 := blk_frozen BK958.out 5
                    have hnb64 := NB959_957.out
                    have hnc64 := NB957_959.out
                    have hcz65_0 : wc.cell? ⟨gb959, 0, none⟩ = some (.int .i64 a2_0) := (blk_cell BK959.out 0).trans rfl
                    have hcz65_1 : wc.cell? ⟨gb959, 1, none⟩ = some (.int .i64 a2_1) := (blk_cell BK959.out 1).trans rfl
                    have hcz65_2 : wc.cell? ⟨gb959, 2, none⟩ = some (.int .i64 a2_2) := (blk_cell BK959.out 2).trans rfl
                    have hcz65_3 : wc.cell? ⟨gb959, 3, none⟩ = some (.string a2_3) := (blk_cell BK959.out 3).trans rfl
                    have hcz65_4 : wc.cell? ⟨gb959, 4, none⟩ = some (.bool a2_4) := (blk_cell BK959.out 4).trans rfl
                    have hcz65_5 : wc.cell? ⟨gb959, 5, none⟩ = some (.int .i64 a2_5) := (blk_cell BK959.out 5).trans rfl
                    have hfz65_0 := blk_frozen BK959.out 0
                    have hfz65_1 := blk_frozen BK959.out 1
                    have hfz65_2 := blk_frozen BK959.out 2
                    have hfz65_3 := blk_frozen BK959.out 3
                    have hfz65_4 := blk_frozen BK959.out 4
                    have hfz65_5 := blk_frozen BK959.out 5
                    go_wp2_with (first | (go_at_call 32; (with_reducible refine (value_Cmp.calls kj33 a1_0 a1_1 a1_2 a1_3 a1_4 a1_5 a2_0 a2_1 a2_2 a2_3 a2_4 a2_5 t971 _ A52.out).mono ?_); rintro e w66 ⟨rfl, hb⟩; have n0_ := Aside0.mk (blk_below (g := gb957) (o := .cells #[.int .i64 a0_0, .int .i64 a0_1, .int .i64 a0_2, .string a0_3, .bool a0_4, .int .i64 a0_5] 25 (0, 0)) (by (with_reducible repeat (first | refine blk_drewN ?_ _ | refine blk_drew ?_ | refine blk_alloc ?_ _)); exact BK957.out) hb); have n1_ := Aside0.mk (blk_below (g := gb958) (o := .cells #[.int .i64 a1_0, .int .i64 a1_1, .int .i64 a1_2, .string a1_3, .bool a1_4, .int .i64 a1_5] 25 (0, 0)) (by (with_reducible repeat (first | refine blk_drewN ?_ _ | refine blk_drew ?_ | refine blk_alloc ?_ _)); exact BK958.out) hb); have n2_ := Aside0.mk (blk_below (g := gb959) (o := .cells #[.int .i64 a2_0, .int .i64 a2_1, .int .i64 a2_2, .string a2_3, .bool a2_4, .int .i64 a2_5] 25 (0, 0)) (by (with_reducible repeat (first | refine blk_drewN ?_ _ | refine blk_drew ?_ | refine blk_alloc ?_ _)); exact BK959.out) hb); have n3_ := Aside0.mk (below_step (by repeat (first | (with_reducible first | exact HB.out | apply below_alloc | apply pw_below_drewN | apply below_drew1 | refine below_set ?_ GE957.out | refine below_set ?_ GE958.out | refine below_set ?_ GE959.out) | exact HB.out)) hb); clear BK957; clear BK958; clear BK959; clear HB; have BK957 := n0_; have BK958 := n1_; have BK959 := n2_; have HB := n3_; clear n0_ n1_ n2_ n3_; (try clear hb); (try clear hb2); (try clear hk); (try clear hi); have hcz67_0 : w66.cell? ⟨gb957, 0, none⟩ = some (.int .i64 a0_0) := (blk_cell BK957.out 0).trans rfl; have hcz67_1 : w66.cell? ⟨gb957, 1, none⟩ = some (.int .i64 a0_1) := (blk_cell BK957.out 1).trans rfl; have hcz67_2 : w66.cell? ⟨gb957, 2, none⟩ = some (.int .i64 a0_2) := (blk_cell BK957.out 2).trans rfl; have hcz67_3 : w66.cell? ⟨gb957, 3, none⟩ = some (.string a0_3) := (blk_cell BK957.out 3).trans rfl; have hcz67_4 : w66.cell? ⟨gb957, 4, none⟩ = some (.bool a0_4) := (blk_cell BK957.out 4).trans rfl; have hcz67_5 : w66.cell? ⟨gb957, 5, none⟩ = some (.int .i64 a0_5) := (blk_cell BK957.out 5).trans rfl; have hfz67_0 := blk_frozen BK957.out 0; have hfz67_1 := blk_frozen BK957.out 1; have hfz67_2 := blk_frozen BK957.out 2; have hfz67_3 := blk_frozen BK957.out 3; have hfz67_4 := blk_frozen BK957.out 4; have hfz67_5 := blk_frozen BK957.out 5; have hcz68_0 : w66.cell? ⟨gb959, 0, none⟩ = some (.int .i64 a2_0) := (blk_cell BK959.out 0).trans rfl; have hcz68_1 : w66.cell? ⟨gb959, 1, none⟩ = some (.int .i64 a2_1) := (blk_cell BK959.out 1).trans rfl; have hcz68_2 : w66.cell? ⟨gb959, 2, none⟩ = some (.int .i64 a2_2) := (blk_cell BK959.out 2).trans rfl; have hcz68_3 : w66.cell? ⟨gb959, 3, none⟩ = some (.string a2_3) := (blk_cell BK959.out 3).trans rfl; have hcz68_4 : w66.cell? ⟨gb959, 4, none⟩ = some (.bool a2_4) := (blk_cell BK959.out 4).trans rfl; have hcz68_5 : w66.cell? ⟨gb959, 5, none⟩ = some (.int .i64 a2_5) := (blk_cell BK959.out 5).trans rfl; have hfz68_0 := blk_frozen BK959.out 0; have hfz68_1 := blk_frozen BK959.out 1; have hfz68_2 := blk_frozen BK959.out 2; have hfz68_3 := blk_frozen BK959.out 3; have hfz68_4 := blk_frozen BK959.out 4; have hfz68_5 := blk_frozen BK959.out 5) | (go_at_call 32; (with_reducible refine (value_Cmp.calls kj33 a0_0 a0_1 a0_2 a0_3 a0_4 a0_5 a2_0 a2_1 a2_2 a2_3 a2_4 a2_5 t972 _ A60.out).mono ?_); rintro e w69 ⟨rfl, hb⟩; have n0_ := Aside0.mk (blk_below (g := gb957) (o := .cells #[.int .i64 a0_0, .int .i64 a0_1, .int .i64 a0_2, .string a0_3, .bool a0_4, .int .i64 a0_5] 25 (0, 0)) (by (with_reducible repeat (first | refine blk_drewN ?_ _ | refine blk_drew ?_ | refine blk_alloc ?_ _)); exact BK957.out) hb); have n1_ := Aside0.mk (blk_below (g := gb958) (o := .cells #[.int .i64 a1_0, .int .i64 a1_1, .int .i64 a1_2, .string a1_3, .bool a1_4, .int .i64 a1_5] 25 (0, 0)) (by (with_reducible repeat (first | refine blk_drewN ?_ _ | refine blk_drew ?_ | refine blk_alloc ?_ _)); exact BK958.out) hb); have n2_ := Aside0.mk (blk_below (g := gb959) (o := .cells #[.int .i64 a2_0, .int .i64 a2_1, .int .i64 a2_2, .string a2_3, .bool a2_4, .int .i64 a2_5] 25 (0, 0)) (by (with_reducible repeat (first | refine blk_drewN ?_ _ | refine blk_drew ?_ | refine blk_alloc ?_ _)); exact BK959.out) hb); have n3_ := Aside0.mk (below_step (by repeat (first | (with_reducible first | exact HB.out | apply below_alloc | apply pw_below_drewN | apply below_drew1 | refine below_set ?_ GE957.out | refine below_set ?_ GE958.out | refine below_set ?_ GE959.out) | exact HB.out)) hb); clear BK957; clear BK958; clear BK959; clear HB; have BK957 := n0_; have BK958 := n1_; have BK959 := n2_; have HB := n3_; clear n0_ n1_ n2_ n3_; (try clear hb); (try clear hb2); (try clear hk); (try clear hi)))
                    go_ret
                    exact ⟨by first | rfl | (simp [errW_none, errW_some] <;> rfl) | (simp [*, errW_none, errW_some] <;> rfl), by repeat (first | (with_reducible first | exact HB.out | apply below_alloc | apply pw_below_drewN | apply below_drew1 | refine below_set ?_ GE957.out | refine below_set ?_ GE958.out | refine below_set ?_ GE959.out) | exact HB.out)⟩
  · replace c5 := Bool.eq_false_iff.mpr c5
    subst c5
    have H1 : (some false) = some r := by rw [if_neg (show ¬ (false = true) by decide)] at H; exact H
    clear H
    have H := H1
    clear H1
    exact absurd (Option.some.inj H) (by rw [HR.out]; decide)

end Go.Proofs.YtmakkdlkgfgaoaaDoor.F
