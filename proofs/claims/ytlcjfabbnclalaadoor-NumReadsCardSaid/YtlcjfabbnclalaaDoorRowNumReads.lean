/-
Read reads what the reference reads
-/
import Derived.Test.YtlcjfabbnclalaaDoorR1
import Derived.Test.YtlcjfabbnclalaaDoorTie
import Derived.Test.YtlcjfabbnclalaaDoorCards
import Derived.Test.YtlcjfabbnclalaaDoorF14
import Derived.Test.YtlcjfabbnclalaaDoorLNumReads
import Derived.SevenTiedAt
namespace Go.Proofs.YtlcjfabbnclalaaDoor.numReads
open Go.ChangeShapes Go.WideShapes Go.ChangeAt Go.RowKit
open Go.ChangeMaps (open_string shut_string)
set_option linter.unusedVariables false
theorem walk (k : Nat) (a0 : ByteArray) (W : World) (HT : F.TabAt W) (h : F.whittlelaw1_NumReads.f k a0 = some true) :
    Calls Tryd.prog 6 #[.string a0] W fun e w' => e = .returned (.bool true) ∧ Below W.heap.size W w' :=
  F.whittlelaw1_NumReads.calls k a0 true W HT rfl h
set_option maxRecDepth 100000 in
theorem lifted (os : Os) (started : os.Started) (H : Type) (enc : TypeId × Value → H) :
    ReturnsInHanded {} Tryd.checked os 6 .any (fun w args => (Rows.numReadsSpec.pre enc Tryd.prog Tryd.f6 [] false w args ∧ laidMetH Tryd.prog R.laid w) ∧ sizedMet enc Tryd.prog Tryd.f6 (OpenSpec.ofChange Rows.numReadsSpec) false w args)
      (Rows.numReadsSpec.post enc Tryd.prog Tryd.f6 false true false false) := by
  refine returnsInHanded_of_change_and (C := Tryd.checked) (X := fun w _ => laidMetH Tryd.prog R.laid w) (fun _ _ _ hh h => h.of_heap hh) R.own started (by kernel_rfl) Tryd.func6
    (ChangeSpec.witness_shaped (enc := enc) (C := Tryd.checked) (os := os) (X := fun w _ => laidMetH Tryd.prog R.laid w) false (World.laidAll Tryd.prog os R.laid) #[.string ByteArray.empty] 8 (World.laidAll_os _ _ _)
      (R.shaped os) (by kernel_rfl) (by kernel_rfl) (by kernel_rfl) (R.laid_met os _)) ?_
  intro W base args ds gs before hval0 hW _ hsz0 hL _
  have hsz : (DataW.weightsEach Tryd.prog (Tryd.f6.params.toList ++ Rows.numReadsSpec.plain.varTypes Tryd.prog) (ds ++ gs)).all (· ≤ reachBytes) = true := hsz0
  have hval : ∀ (j : Nat) t v, Tryd.f6.params[j]? = some t → args[j]? = some v → Value.okWide Tryd.prog W .any base t v := hval0
  have hW' := hW
  obtain ⟨p, q, hA0, hV, rfl, hfz, hnd⟩ := hW
  have hA : DataW.TrodAll enc Tryd.prog W 0 (fun _ => true) true Tryd.f6.params.toList args.toList ds p := hA0
  rw [Tryd.params6] at hA hval hsz
  obtain ⟨v0, vs0, d0, ds0, p0, q0, hargs, rfl, rfl, h0, r0⟩ := trodAll_cons hA
  obtain ⟨rfl, rfl, rfl⟩ := trodAll_nil r0
  obtain rfl : args = #[v0] := by cases args; simp_all
  obtain ⟨rfl, rfl⟩ := trodVars_none hV
  obtain ⟨a0, rfl, rfl, rfl, ya0⟩ := open_string Tryd.underlying9 (hval 0 9 v0 rfl rfl) h0
  have sa0 : a0.size ≤ 140737488351232 := by
    have z := sized_string hsz (j := 0) (t := 9) rfl rfl
    rw [Array.length_toList] at z
    exact z
  clear hA0 hval0 hsz0 hsz
  have HT := R.tab_of hL
  obtain ⟨k, hk⟩ := F.NumReads_pure a0 sa0
  refine (walk k a0 W HT hk).mono fun e W' ⟨he, bel⟩ => ?_
  subst he
  exact ⟨_, rfl, _, _, _, [], _, [], hW', trodAll_mk1 (shut_bool Tryd.underlying4 _), (trodAll_cons_mk (shut_string Tryd.underlying9 ya0) trodAll_mk0), rfl, bel.frame _, fun h => by cases h⟩
theorem over : Rows.numReadsRow.holds Tryd.pinned (OpenSpec.ofChange Rows.numReadsSpec) :=
  OpenClaim.holds_of_wide 6 Tryd.f6 rfl rfl rfl rfl rfl rfl rfl ⟨rfl, rfl, rfl, rfl, rfl⟩ rfl rfl rfl rfl rfl (by kernel_rfl) Tryd.func6 (by kernel_rfl)
    (of_decide_eq_true (by kernel_rfl)) (by unfold Func.isWrapper; first | (rw [if_pos (by decide +kernel)]; kernel_rfl) | (rw [if_neg (by decide +kernel)]; exact ⟨rfl, rfl⟩))
    (fun os started H enc _ => lifted os started H enc)
theorem said : Rows.NumReadsSaid := over
theorem card : Rows.NumReadsCardSaid :=
  Claim7.holds_tied_plain_at .later [] [.data, .data, .data, .data, .pinned] true (true, "0c2ce3bd3089db21fa1ea1fad3cb10cff875536ea0a42f5aa9d6a0e09221028c") false
    said (fun _ h => by cases h) (by kernel_rfl) (fun _ h => by cases h) numReads_row_tie rfl ⟨rfl, rfl⟩ (by kernel_rfl) rfl
    (fun f fn hf hfn => by
      obtain rfl : f = 6 := Option.some.inj ((show Tryd.prog.funcNamed "whittle/whittlelaw1.NumReads" = some 6 by kernel_rfl).symm.trans hf) |>.symm
      obtain rfl : fn = Tryd.f6 := (Option.some.inj (Tryd.func6.symm.trans hfn)).symm
      exact ⟨by kernel_rfl, fun j t ht => by
        rw [Tryd.params6] at ht
        have hm : t ∈ [9] := by simpa using Array.mem_of_getElem? ht
        have hall : ([9].all fun u => !Tryd.prog.wantsStandIn u) = true := by kernel_rfl
        exact (show Tryd.prog.wantsStandIn t = false by simpa using List.all_eq_true.1 hall t hm)⟩)
    (by kernel_rfl)
end Go.Proofs.YtlcjfabbnclalaaDoor.numReads
namespace Go.Proofs.YtlcjfabbnclalaaDoor
/-- The card, under a short name, for the claim. -/
theorem numReads_card : Rows.NumReadsCardSaid := numReads.card
#print axioms numReads_card
end Go.Proofs.YtlcjfabbnclalaaDoor
