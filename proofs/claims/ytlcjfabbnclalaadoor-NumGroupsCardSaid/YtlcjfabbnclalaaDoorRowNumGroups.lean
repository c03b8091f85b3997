/-
sums and products in any grouping
-/
import Derived.Test.YtlcjfabbnclalaaDoorR1
import Derived.Test.YtlcjfabbnclalaaDoorTie
import Derived.Test.YtlcjfabbnclalaaDoorCards
import Derived.Test.YtlcjfabbnclalaaDoorF40
import Derived.Test.YtlcjfabbnclalaaDoorLNumGroups
import Derived.SevenTiedAt
namespace Go.Proofs.YtlcjfabbnclalaaDoor.numGroups
open Go.ChangeShapes Go.WideShapes Go.ChangeAt Go.RowKit
open Go.ChangeMaps (open_string shut_string)
set_option linter.unusedVariables false
theorem walk (k : Nat) (a0_0 : Int) (a0_1 : Int) (a1_0 : Int) (a1_1 : Int) (a2_0 : Int) (a2_1 : Int) (W : World) (HT : F.TabAt W) (h : F.whittlelaw1_NumGroups.f k a0_0 a0_1 a1_0 a1_1 a2_0 a2_1 = some true) :
    Calls Tryd.prog 10 #[.agg #[.int .i64 a0_0, .int .i64 a0_1], .agg #[.int .i64 a1_0, .int .i64 a1_1], .agg #[.int .i64 a2_0, .int .i64 a2_1]] W fun e w' => e = .returned (.bool true) ∧ Below W.heap.size W w' :=
  F.whittlelaw1_NumGroups.calls k a0_0 a0_1 a1_0 a1_1 a2_0 a2_1 true W HT rfl h
set_option maxRecDepth 100000 in
theorem lifted (os : Os) (started : os.Started) (H : Type) (enc : TypeId × Value → H) :
    ReturnsInHanded {} Tryd.checked os 10 .any (fun w args => (Rows.numGroupsSpec.pre enc Tryd.prog Tryd.f10 [] false w args ∧ laidMetH Tryd.prog R.laid w) ∧ sizedMet enc Tryd.prog Tryd.f10 (OpenSpec.ofChange Rows.numGroupsSpec) false w args)
      (Rows.numGroupsSpec.post enc Tryd.prog Tryd.f10 false true false false) := by
  refine returnsInHanded_of_change_and (C := Tryd.checked) (X := fun w _ => laidMetH Tryd.prog R.laid w) (fun _ _ _ hh h => h.of_heap hh) R.own started (by kernel_rfl) Tryd.func10
    (ChangeSpec.witness_shaped (enc := enc) (C := Tryd.checked) (os := os) (X := fun w _ => laidMetH Tryd.prog R.laid w) false (World.laidAll Tryd.prog os R.laid) #[.agg #[.int .i64 0, .int .i64 0], .agg #[.int .i64 0, .int .i64 0], .agg #[.int .i64 0, .int .i64 0]] 8 (World.laidAll_os _ _ _)
      (R.shaped os) (by kernel_rfl) (by kernel_rfl) (by kernel_rfl) (R.laid_met os _)) ?_
  intro W base args ds gs before hval0 hW _ hsz0 hL _
  have hsz : (DataW.weightsEach Tryd.prog (Tryd.f10.params.toList ++ Rows.numGroupsSpec.plain.varTypes Tryd.prog) (ds ++ gs)).all (· ≤ reachBytes) = true := hsz0
  have hval : ∀ (j : Nat) t v, Tryd.f10.params[j]? = some t → args[j]? = some v → Value.okWide Tryd.prog W .any base t v := hval0
  have hW' := hW
  obtain ⟨p, q, hA0, hV, rfl, hfz, hnd⟩ := hW
  have hA : DataW.TrodAll enc Tryd.prog W 0 (fun _ => true) true Tryd.f10.params.toList args.toList ds p := hA0
  rw [Tryd.params10] at hA hval hsz
  obtain ⟨v0, vs0, d0, ds0, p0, q0, hargs, rfl, rfl, h0, r0⟩ := trodAll_cons hA
  obtain ⟨v1, vs1, d1, ds1, p1, q1, rfl, rfl, rfl, h1, r1⟩ := trodAll_cons r0
  obtain ⟨v2, vs2, d2, ds2, p2, q2, rfl, rfl, rfl, h2, r2⟩ := trodAll_cons r1
  obtain ⟨rfl, rfl, rfl⟩ := trodAll_nil r2
  obtain rfl : args = #[v0, v1, v2] := by cases args; simp_all
  obtain ⟨rfl, rfl⟩ := trodVars_none hV
  obtain ⟨a0_0, a0_1, rfl, rfl, rfl, wa0_0, wa0_1⟩ := R.num_open (hval 0 23 v0 rfl rfl) h0
  obtain ⟨a1_0, a1_1, rfl, rfl, rfl, wa1_0, wa1_1⟩ := R.num_open (hval 1 23 v1 rfl rfl) h1
  obtain ⟨a2_0, a2_1, rfl, rfl, rfl, wa2_0, wa2_1⟩ := R.num_open (hval 2 23 v2 rfl rfl) h2
  clear hA0 hval0 hsz0 hsz
  have HT := R.tab_of hL
  obtain ⟨k, hk⟩ := F.NumGroups_pure a0_0 a0_1 a1_0 a1_1 a2_0 a2_1 (R.i64_of wa0_0) (R.i64_of wa0_1) (R.i64_of wa1_0) (R.i64_of wa1_1) (R.i64_of wa2_0) (R.i64_of wa2_1)
  refine (walk k a0_0 a0_1 a1_0 a1_1 a2_0 a2_1 W HT hk).mono fun e W' ⟨he, bel⟩ => ?_
  subst he
  exact ⟨_, rfl, _, _, _, [], _, [], hW', trodAll_mk1 (shut_bool Tryd.underlying4 _), (trodAll_cons_mk (R.num_shut _ _ wa0_0 wa0_1) (trodAll_cons_mk (R.num_shut _ _ wa1_0 wa1_1) (trodAll_cons_mk (R.num_shut _ _ wa2_0 wa2_1) trodAll_mk0))), rfl, bel.frame _, fun h => by cases h⟩
theorem over : Rows.numGroupsRow.holds Tryd.pinned (OpenSpec.ofChange Rows.numGroupsSpec) :=
  OpenClaim.holds_of_wide 10 Tryd.f10 rfl rfl rfl rfl rfl rfl rfl ⟨rfl, rfl, rfl, rfl, rfl⟩ rfl rfl rfl rfl rfl (by kernel_rfl) Tryd.func10 (by kernel_rfl)
    (of_decide_eq_true (by kernel_rfl)) (by unfold Func.isWrapper; first | (rw [if_pos (by decide +kernel)]; kernel_rfl) | (rw [if_neg (by decide +kernel)]; exact ⟨rfl, rfl⟩))
    (fun os started H enc _ => lifted os started H enc)
theorem said : Rows.NumGroupsSaid := over
theorem card : Rows.NumGroupsCardSaid :=
  Claim7.holds_tied_plain_at .later [] [.data, .data, .data, .data, .pinned] true (true, "0c2ce3bd3089db21fa1ea1fad3cb10cff875536ea0a42f5aa9d6a0e09221028c") false
    said (fun _ h => by cases h) (by kernel_rfl) (fun _ h => by cases h) numGroups_row_tie rfl ⟨rfl, rfl⟩ (by kernel_rfl) rfl
    (fun f fn hf hfn => by
      obtain rfl : f = 10 := Option.some.inj ((show Tryd.prog.funcNamed "whittle/whittlelaw1.NumGroups" = some 10 by kernel_rfl).symm.trans hf) |>.symm
      obtain rfl : fn = Tryd.f10 := (Option.some.inj (Tryd.func10.symm.trans hfn)).symm
      exact ⟨by kernel_rfl, fun j t ht => by
        rw [Tryd.params10] at ht
        have hm : t ∈ [23, 23, 23] := by simpa using Array.mem_of_getElem? ht
        have hall : ([23, 23, 23].all fun u => !Tryd.prog.wantsStandIn u) = true := by kernel_rfl
        exact (show Tryd.prog.wantsStandIn t = false by simpa using List.all_eq_true.1 hall t hm)⟩)
    (by kernel_rfl)
end Go.Proofs.YtlcjfabbnclalaaDoor.numGroups
namespace Go.Proofs.YtlcjfabbnclalaaDoor
/-- The card, under a short name, for the claim. -/
theorem numGroups_card : Rows.NumGroupsCardSaid := numGroups.card
#print axioms numGroups_card
end Go.Proofs.YtlcjfabbnclalaaDoor
