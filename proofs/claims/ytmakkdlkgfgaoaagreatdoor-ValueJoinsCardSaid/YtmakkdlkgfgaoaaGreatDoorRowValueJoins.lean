/-
For any list of values, Join of a copy of it (with more values behind it in the same array) is what the reference's Join answers of the list; the copy reads as the list, and what stands behind it stays: the statement ValueJoins returns true. Conditions: none beyond the row's own cells (listed tables of Go's library and of the program as their text lays them, tied).
-/
import Derived.Test.YtmakkdlkgfgaoaaGreatDoorR2
import Derived.Test.YtmakkdlkgfgaoaaGreatDoorTie
import Derived.Test.YtmakkdlkgfgaoaaGreatDoorCards
import Derived.Test.YtmakkdlkgfgaoaaGreatDoorF122
import Derived.Test.YtmakkdlkgfgaoaaGreatDoorLValueJoins
import Derived.SevenTiedAt
namespace Go.Proofs.YtmakkdlkgfgaoaaGreatDoor.valueJoins
open Go.ChangeShapes Go.WideShapes Go.ChangeAt Go.RowKit
open Go.ChangeMaps (open_string shut_string)
set_option linter.unusedVariables false
set_option maxRecDepth 100000 in
theorem lifted (os : Os) (started : os.Started) (H : Type) (enc : TypeId × Value → H) :
    ReturnsInHanded {} Tryz.checked os 4 .any (fun w args => (Rows.valueJoinsSpec.pre enc Tryz.prog Tryz.f4 [] false w args ∧ laidMetH Tryz.prog R.laid w) ∧ sizedMet enc Tryz.prog Tryz.f4 (OpenSpec.ofChange Rows.valueJoinsSpec) false w args)
      (Rows.valueJoinsSpec.post enc Tryz.prog Tryz.f4 false true false false) := by
  refine returnsInHanded_of_change_and (C := Tryz.checked) (X := fun w _ => laidMetH Tryz.prog R.laid w) (fun _ _ _ hh h => h.of_heap hh) R.own started (by kernel_rfl) Tryz.func4
    (ChangeSpec.witness_shaped (enc := enc) (C := Tryz.checked) (os := os) (X := fun w _ => laidMetH Tryz.prog R.laid w) false (World.laidAll Tryz.prog os R.laid) #[.slice none 0 0] 8 (World.laidAll_os _ _ _)
      (R.shaped os) (by kernel_rfl) (by kernel_rfl) (by kernel_rfl) (R.laid_met os _)) ?_
  intro W base args ds gs before hval0 hW _ hsz0 hL _
  have hsz : (DataW.weightsEach Tryz.prog (Tryz.f4.params.toList ++ Rows.valueJoinsSpec.plain.varTypes Tryz.prog) (ds ++ gs)).all (· ≤ reachBytes) = true := hsz0
  have hval : ∀ (j : Nat) t v, Tryz.f4.params[j]? = some t → args[j]? = some v → Value.okWide Tryz.prog W .any base t v := hval0
  have hW' := hW
  obtain ⟨p, q, hA0_, hV, rfl, hfz, hnd⟩ := hW
  have hA : DataW.TrodAll enc Tryz.prog W 0 (fun _ => true) true Tryz.f4.params.toList args.toList ds p := hA0_
  rw [Tryz.params4] at hA hval hsz
  obtain ⟨v0, vs0, d0, ds0, p0, q0, hargs, rfl, rfl, h0, r0⟩ := trodAll_cons hA
  obtain ⟨rfl, rfl, rfl⟩ := trodAll_nil r0
  obtain rfl : args = #[v0] := by cases args; simp_all
  obtain ⟨rfl, rfl⟩ := trodVars_none hV
  have lt0 : ∀ x ∈ p0, x.block < W.heap.size := by obtain ⟨m, hm⟩ := h0; exact DataW.trod_lt m _ _ _ hm
  obtain ⟨a0, c0, l0, rfl, hc0, hA0, hs0, hr0, hx0⟩ := R.vals_open (hval 0 29 v0 rfl rfl) h0 hsz (j := 0) rfl rfl
  clear hA0_ hval0 hsz0 hsz
  have HT := R.tab_of hL
  obtain ⟨k, ⟨r1, r2, r3, r4, r5, r6⟩, e0, e1, e2, e3⟩ := F.ValueJoins_pure l0 hx0
  refine (F.ValueJoins_calls k a0 c0 l0 W HT hA0 hr0 hc0 hs0 2 0 0 ⟨#[]⟩ false 0 r1 r2 r3 r4 r5 r6 e0 e1 e2 e3).mono fun e W' ⟨he, bel⟩ => ?_
  subst he
  exact ⟨_, rfl, _, _, _, [], _, [], hW', trodAll_mk1 (shut_bool Tryz.underlying4 _), (trodAll_cons_mk (Below.trod R.laidOut (by kernel_rfl) (of_decide_eq_true (by kernel_rfl)) h0 bel lt0) trodAll_mk0), rfl, bel.frame _, fun h => by cases h⟩
theorem over : Rows.valueJoinsRow.holds Tryz.pinned (OpenSpec.ofChange Rows.valueJoinsSpec) :=
  OpenClaim.holds_of_wide 4 Tryz.f4 rfl rfl rfl rfl rfl rfl rfl ⟨rfl, rfl, rfl, rfl, rfl⟩ rfl rfl rfl rfl rfl (by kernel_rfl) Tryz.func4 (by kernel_rfl)
    (of_decide_eq_true (by kernel_rfl)) (by unfold Func.isWrapper; first | (rw [if_pos (by decide +kernel)]; kernel_rfl) | (rw [if_neg (by decide +kernel)]; exact ⟨rfl, rfl⟩))
    (fun os started H enc _ => lifted os started H enc)
theorem said : Rows.ValueJoinsSaid := over
theorem card : Rows.ValueJoinsCardSaid :=
  Claim7.holds_tied_plain_at .later [] [.data, .data, .data, .data, .data, .pinned] true (true, "c6d751eb2d93a1f8b930c4885f89443122cec99c9da50ced9df08f00dbc3b5fb") false
    said (fun _ h => by cases h) (by kernel_rfl) (fun _ h => by cases h) valueJoins_row_tie rfl ⟨rfl, rfl⟩ (by kernel_rfl) rfl
    (fun f fn hf hfn => by
      obtain rfl : f = 4 := Option.some.inj ((show Tryz.prog.funcNamed "whittle/whittlelaw2.ValueJoins" = some 4 by kernel_rfl).symm.trans hf) |>.symm
      obtain rfl : fn = Tryz.f4 := (Option.some.inj (Tryz.func4.symm.trans hfn)).symm
      exact ⟨by kernel_rfl, fun j t ht => by
        rw [Tryz.params4] at ht
        have hm : t ∈ [29] := by simpa using Array.mem_of_getElem? ht
        have hall : ([29].all fun u => !Tryz.prog.wantsStandIn u) = true := by kernel_rfl
        exact (show Tryz.prog.wantsStandIn t = false by simpa using List.all_eq_true.1 hall t hm)⟩)
    (by kernel_rfl)
end Go.Proofs.YtmakkdlkgfgaoaaGreatDoor.valueJoins
namespace Go.Proofs.YtmakkdlkgfgaoaaGreatDoor
/-- The card, under a short name, for the claim. -/
theorem valueJoins_card : Rows.ValueJoinsCardSaid := valueJoins.card
#print axioms valueJoins_card
end Go.Proofs.YtmakkdlkgfgaoaaGreatDoor
