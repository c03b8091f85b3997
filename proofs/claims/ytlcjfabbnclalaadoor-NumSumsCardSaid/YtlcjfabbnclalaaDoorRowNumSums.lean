/-
For any list of numbers, Sum of a copy of it (with more numbers behind it in the same array) is what the reference's Sum answers of the list; the copy reads as the list, and what stands behind it stays: the statement NumSums returns true. Conditions: none beyond the row's own cells (listed tables of Go's library as their text lays them, tied).
-/
import Derived.Test.YtlcjfabbnclalaaDoorR2
import Derived.Test.YtlcjfabbnclalaaDoorTie
import Derived.Test.YtlcjfabbnclalaaDoorCards
import Derived.Test.YtlcjfabbnclalaaDoorF50
import Derived.Test.YtlcjfabbnclalaaDoorLNumSums
import Derived.SevenTiedAt
namespace Go.Proofs.YtlcjfabbnclalaaDoor.numSums
open Go.ChangeShapes Go.WideShapes Go.ChangeAt Go.RowKit
open Go.ChangeMaps (open_string shut_string)
set_option linter.unusedVariables false
set_option maxRecDepth 100000 in
theorem lifted (os : Os) (started : os.Started) (H : Type) (enc : TypeId × Value → H) :
    ReturnsInHanded {} Tryd.checked os 9 .any (fun w args => (Rows.numSumsSpec.pre enc Tryd.prog Tryd.f9 [] false w args ∧ laidMetH Tryd.prog R.laid w) ∧ sizedMet enc Tryd.prog Tryd.f9 (OpenSpec.ofChange Rows.numSumsSpec) false w args)
      (Rows.numSumsSpec.post enc Tryd.prog Tryd.f9 false true false false) := by
  refine returnsInHanded_of_change_and (C := Tryd.checked) (X := fun w _ => laidMetH Tryd.prog R.laid w) (fun _ _ _ hh h => h.of_heap hh) R.own started (by kernel_rfl) Tryd.func9
    (ChangeSpec.witness_shaped (enc := enc) (C := Tryd.checked) (os := os) (X := fun w _ => laidMetH Tryd.prog R.laid w) false (World.laidAll Tryd.prog os R.laid) #[.slice none 0 0] 8 (World.laidAll_os _ _ _)
      (R.shaped os) (by kernel_rfl) (by kernel_rfl) (by kernel_rfl) (R.laid_met os _)) ?_
  intro W base args ds gs before hval0 hW _ hsz0 hL _
  have hsz : (DataW.weightsEach Tryd.prog (Tryd.f9.params.toList ++ Rows.numSumsSpec.plain.varTypes Tryd.prog) (ds ++ gs)).all (· ≤ reachBytes) = true := hsz0
  have hval : ∀ (j : Nat) t v, Tryd.f9.params[j]? = some t → args[j]? = some v → Value.okWide Tryd.prog W .any base t v := hval0
  have hW' := hW
  obtain ⟨p, q, hA0_, hV, rfl, hfz, hnd⟩ := hW
  have hA : DataW.TrodAll enc Tryd.prog W 0 (fun _ => true) true Tryd.f9.params.toList args.toList ds p := hA0_
  rw [Tryd.params9] at hA hval hsz
  obtain ⟨v0, vs0, d0, ds0, p0, q0, hargs, rfl, rfl, h0, r0⟩ := trodAll_cons hA
  obtain ⟨rfl, rfl, rfl⟩ := trodAll_nil r0
  obtain rfl : args = #[v0] := by cases args; simp_all
  obtain ⟨rfl, rfl⟩ := trodVars_none hV
  have lt0 : ∀ x ∈ p0, x.block < W.heap.size := by obtain ⟨m, hm⟩ := h0; exact DataW.trod_lt m _ _ _ hm
  obtain ⟨a0, c0, l0, rfl, hc0, hA0, hs0, hr0, hx0⟩ := R.nums_open (hval 0 37 v0 rfl rfl) h0 hsz (j := 0) rfl rfl
  clear hA0_ hval0 hsz0 hsz
  have HT := R.tab_of hL
  obtain ⟨k, r1, r2, r3, e1, e2, e3⟩ := F.NumSums_pure l0 hx0 (by omega)
  refine (F.NumSums_calls k a0 c0 l0 r1 r2 r3 W HT hA0 hr0 hc0 hs0 e1 e2 e3).mono fun e W' ⟨he, bel⟩ => ?_
  subst he
  exact ⟨_, rfl, _, _, _, [], _, [], hW', trodAll_mk1 (shut_bool Tryd.underlying4 _), (trodAll_cons_mk (Below.trod R.laidOut (by kernel_rfl) (of_decide_eq_true (by kernel_rfl)) h0 bel lt0) trodAll_mk0), rfl, bel.frame _, fun h => by cases h⟩
theorem over : Rows.numSumsRow.holds Tryd.pinned (OpenSpec.ofChange Rows.numSumsSpec) :=
  OpenClaim.holds_of_wide 9 Tryd.f9 rfl rfl rfl rfl rfl rfl rfl ⟨rfl, rfl, rfl, rfl, rfl⟩ rfl rfl rfl rfl rfl (by kernel_rfl) Tryd.func9 (by kernel_rfl)
    (of_decide_eq_true (by kernel_rfl)) (by unfold Func.isWrapper; first | (rw [if_pos (by decide +kernel)]; kernel_rfl) | (rw [if_neg (by decide +kernel)]; exact ⟨rfl, rfl⟩))
    (fun os started H enc _ => lifted os started H enc)
theorem said : Rows.NumSumsSaid := over
theorem card : Rows.NumSumsCardSaid :=
  Claim7.holds_tied_plain_at .later [] [.data, .data, .data, .data, .pinned] true (true, "0c2ce3bd3089db21fa1ea1fad3cb10cff875536ea0a42f5aa9d6a0e09221028c") false
    said (fun _ h => by cases h) (by kernel_rfl) (fun _ h => by cases h) numSums_row_tie rfl ⟨rfl, rfl⟩ (by kernel_rfl) rfl
    (fun f fn hf hfn => by
      obtain rfl : f = 9 := Option.some.inj ((show Tryd.prog.funcNamed "whittle/whittlelaw1.NumSums" = some 9 by kernel_rfl).symm.trans hf) |>.symm
      obtain rfl : fn = Tryd.f9 := (Option.some.inj (Tryd.func9.symm.trans hfn)).symm
      exact ⟨by kernel_rfl, fun j t ht => by
        rw [Tryd.params9] at ht
        have hm : t ∈ [37] := by simpa using Array.mem_of_getElem? ht
        have hall : ([37].all fun u => !Tryd.prog.wantsStandIn u) = true := by kernel_rfl
        exact (show Tryd.prog.wantsStandIn t = false by simpa using List.all_eq_true.1 hall t hm)⟩)
    (by kernel_rfl)
end Go.Proofs.YtlcjfabbnclalaaDoor.numSums
namespace Go.Proofs.YtlcjfabbnclalaaDoor
/-- The card, under a short name, for the claim. -/
theorem numSums_card : Rows.NumSumsCardSaid := numSums.card
#print axioms numSums_card
end Go.Proofs.YtlcjfabbnclalaaDoor
