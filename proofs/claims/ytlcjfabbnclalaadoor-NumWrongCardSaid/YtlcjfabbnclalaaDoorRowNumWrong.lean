/-
what is no number counts as 0
-/
import Derived.Test.YtlcjfabbnclalaaDoorR1
import Derived.Test.YtlcjfabbnclalaaDoorTie
import Derived.Test.YtlcjfabbnclalaaDoorCards
import Derived.Test.YtlcjfabbnclalaaDoorF42
import Derived.Test.YtlcjfabbnclalaaDoorLNumWrong
import Derived.SevenTiedAt
namespace Go.Proofs.YtlcjfabbnclalaaDoor.numWrong
open Go.ChangeShapes Go.WideShapes Go.ChangeAt Go.RowKit
open Go.ChangeMaps (open_string shut_string)
set_option linter.unusedVariables false
theorem walk (k : Nat) (a0 : Int) (a1 : Int) (a2_0 : Int) (a2_1 : Int) (a3 : Int) (W : World) (HT : F.TabAt W) (h : F.whittlelaw1_NumWrong.f k a0 a1 a2_0 a2_1 a3 = some true) :
    Calls Tryd.prog 19 #[.int .i64 a0, .int .i64 a1, .agg #[.int .i64 a2_0, .int .i64 a2_1], .int .i64 a3] W fun e w' => e = .returned (.bool true) ∧ Below W.heap.size W w' :=
  F.whittlelaw1_NumWrong.calls k a0 a1 a2_0 a2_1 a3 true W HT rfl h
set_option maxRecDepth 100000 in
theorem lifted (os : Os) (started : os.Started) (H : Type) (enc : TypeId × Value → H) :
    ReturnsInHanded {} Tryd.checked os 19 .any (fun w args => (Rows.numWrongSpec.pre enc Tryd.prog Tryd.f19 [] false w args ∧ laidMetH Tryd.prog R.laid w) ∧ sizedMet enc Tryd.prog Tryd.f19 (OpenSpec.ofChange Rows.numWrongSpec) false w args)
      (Rows.numWrongSpec.post enc Tryd.prog Tryd.f19 false true false false) := by
  refine returnsInHanded_of_change_and (C := Tryd.checked) (X := fun w _ => laidMetH Tryd.prog R.laid w) (fun _ _ _ hh h => h.of_heap hh) R.own started (by kernel_rfl) Tryd.func19
    (ChangeSpec.witness_shaped (enc := enc) (C := Tryd.checked) (os := os) (X := fun w _ => laidMetH Tryd.prog R.laid w) false (World.laidAll Tryd.prog os R.laid) #[.int .i64 0, .int .i64 0, .agg #[.int .i64 0, .int .i64 0], .int .i64 0] 8 (World.laidAll_os _ _ _)
      (R.shaped os) (by kernel_rfl) (by kernel_rfl) (by kernel_rfl) (R.laid_met os _)) ?_
  intro W base args ds gs before hval0 hW _ hsz0 hL _
  have hsz : (DataW.weightsEach Tryd.prog (Tryd.f19.params.toList ++ Rows.numWrongSpec.plain.varTypes Tryd.prog) (ds ++ gs)).all (· ≤ reachBytes) = true := hsz0
  have hval : ∀ (j : Nat) t v, Tryd.f19.params[j]? = some t → args[j]? = some v → Value.okWide Tryd.prog W .any base t v := hval0
  have hW' := hW
  obtain ⟨p, q, hA0, hV, rfl, hfz, hnd⟩ := hW
  have hA : DataW.TrodAll enc Tryd.prog W 0 (fun _ => true) true Tryd.f19.params.toList args.toList ds p := hA0
  rw [Tryd.params19] at hA hval hsz
  obtain ⟨v0, vs0, d0, ds0, p0, q0, hargs, rfl, rfl, h0, r0⟩ := trodAll_cons hA
  obtain ⟨v1, vs1, d1, ds1, p1, q1, rfl, rfl, rfl, h1, r1⟩ := trodAll_cons r0
  obtain ⟨v2, vs2, d2, ds2, p2, q2, rfl, rfl, rfl, h2, r2⟩ := trodAll_cons r1
  obtain ⟨v3, vs3, d3, ds3, p3, q3, rfl, rfl, rfl, h3, r3⟩ := trodAll_cons r2
  obtain ⟨rfl, rfl, rfl⟩ := trodAll_nil r3
  obtain rfl : args = #[v0, v1, v2, v3] := by cases args; simp_all
  obtain ⟨rfl, rfl⟩ := trodVars_none hV
  obtain ⟨a0, rfl, rfl, rfl, wa0⟩ := open_int Tryd.underlying3 (hval 0 3 v0 rfl rfl) h0
  obtain ⟨a1, rfl, rfl, rfl, wa1⟩ := open_int Tryd.underlying3 (hval 1 3 v1 rfl rfl) h1
  obtain ⟨a2_0, a2_1, rfl, rfl, rfl, wa2_0, wa2_1⟩ := R.num_open (hval 2 23 v2 rfl rfl) h2
  obtain ⟨a3, rfl, rfl, rfl, wa3⟩ := open_int Tryd.underlying3 (hval 3 3 v3 rfl rfl) h3
  clear hA0 hval0 hsz0 hsz
  have HT := R.tab_of hL
  obtain ⟨k, hk⟩ := F.NumWrong_pure a0 a1 a2_0 a2_1 a3 (R.i64_of wa0) (R.i64_of wa1) (R.i64_of wa2_0) (R.i64_of wa2_1) (R.i64_of wa3)
  refine (walk k a0 a1 a2_0 a2_1 a3 W HT hk).mono fun e W' ⟨he, bel⟩ => ?_
  subst he
  exact ⟨_, rfl, _, _, _, [], _, [], hW', trodAll_mk1 (shut_bool Tryd.underlying4 _), (trodAll_cons_mk (shut_int Tryd.underlying3 wa0) (trodAll_cons_mk (shut_int Tryd.underlying3 wa1) (trodAll_cons_mk (R.num_shut _ _ wa2_0 wa2_1) (trodAll_cons_mk (shut_int Tryd.underlying3 wa3) trodAll_mk0)))), rfl, bel.frame _, fun h => by cases h⟩
theorem over : Rows.numWrongRow.holds Tryd.pinned (OpenSpec.ofChange Rows.numWrongSpec) :=
  OpenClaim.holds_of_wide 19 Tryd.f19 rfl rfl rfl rfl rfl rfl rfl ⟨rfl, rfl, rfl, rfl, rfl⟩ rfl rfl rfl rfl rfl (by kernel_rfl) Tryd.func19 (by kernel_rfl)
    (of_decide_eq_true (by kernel_rfl)) (by unfold Func.isWrapper; first | (rw [if_pos (by decide +kernel)]; kernel_rfl) | (rw [if_neg (by decide +kernel)]; exact ⟨rfl, rfl⟩))
    (fun os started H enc _ => lifted os started H enc)
theorem said : Rows.NumWrongSaid := over
theorem card : Rows.NumWrongCardSaid :=
  Claim7.holds_tied_plain_at .later [] [.data, .data, .data, .data, .pinned] true (true, "0c2ce3bd3089db21fa1ea1fad3cb10cff875536ea0a42f5aa9d6a0e09221028c") false
    said (fun _ h => by cases h) (by kernel_rfl) (fun _ h => by cases h) numWrong_row_tie rfl ⟨rfl, rfl⟩ (by kernel_rfl) rfl
    (fun f fn hf hfn => by
      obtain rfl : f = 19 := Option.some.inj ((show Tryd.prog.funcNamed "whittle/whittlelaw1.NumWrong" = some 19 by kernel_rfl).symm.trans hf) |>.symm
      obtain rfl : fn = Tryd.f19 := (Option.some.inj (Tryd.func19.symm.trans hfn)).symm
      exact ⟨by kernel_rfl, fun j t ht => by
        rw [Tryd.params19] at ht
        have hm : t ∈ [3, 3, 23, 3] := by simpa using Array.mem_of_getElem? ht
        have hall : ([3, 3, 23, 3].all fun u => !Tryd.prog.wantsStandIn u) = true := by kernel_rfl
        exact (show Tryd.prog.wantsStandIn t = false by simpa using List.all_eq_true.1 hall t hm)⟩)
    (by kernel_rfl)
end Go.Proofs.YtlcjfabbnclalaaDoor.numWrong
namespace Go.Proofs.YtlcjfabbnclalaaDoor
/-- The card, under a short name, for the claim. -/
theorem numWrong_card : Rows.NumWrongCardSaid := numWrong.card
#print axioms numWrong_card
end Go.Proofs.YtlcjfabbnclalaaDoor
