-- Laid by program (wip/tools/genv.sh, pack.py, merge.py of this repo) out of the translation; Lean checks it.
import Derived.Test.YtmakkdlkgfgaoaaDoorF0
import Derived.Test.YtmakkdlkgfgaoaaDoorC0
import Derived.Test.YtmakkdlkgfgaoaaDoorF100
import Derived.Test.YtmakkdlkgfgaoaaDoorF107
import Derived.Test.YtmakkdlkgfgaoaaDoorF108
namespace Go.Proofs.YtmakkdlkgfgaoaaDoor.F
open Go.RowKit Go.Proofs.YtmakkdlkgfgaoaaDoorW.PrintWords Go.Proofs.YtmakkdlkgfgaoaaDoorW.PrintLast Go.Proofs.YtmakkdlkgfgaoaaDoorW.PrintMore
attribute [local go_sem] max2_int min2_int max_two min_two max_three min_three max_four min_four
attribute [local go_sem high] bx_cell bx_frozen
set_option linter.unusedVariables false
set_option linter.unusedSimpArgs false

section
/-! ### whittleref2_names: function 58 -/
def whittleref2_names.f  : Option (List ByteArray) := some (([(⟨#[]⟩ : ByteArray), (⟨#[35, 68, 73, 86, 47, 48, 33]⟩ : ByteArray), (⟨#[35, 86, 65, 76, 85, 69, 33]⟩ : ByteArray), (⟨#[35, 82, 69, 70, 33]⟩ : ByteArray), (⟨#[35, 78, 85, 77, 33]⟩ : ByteArray), (⟨#[35, 78, 47, 65]⟩ : ByteArray), (⟨#[35, 67, 73, 82, 67, 76, 69, 33]⟩ : ByteArray), (⟨#[35, 76, 79, 78, 71, 33]⟩ : ByteArray), (⟨#[35, 65, 82, 71, 33]⟩ : ByteArray)] : List ByteArray))
set_option maxHeartbeats 8000000 in
set_option maxRecDepth 100000 in
theorem whittleref2_names.calls  (r : List ByteArray) (w : World) (h : whittleref2_names.f  = some r) :
  Calls Tryd.prog 58 #[] w fun e w' => ∃ v0_ : Value, e = .returned (v0_) ∧ Kd.R Kd.string 9 w' w.heap.size (fun _ => True) v0_ r ∧ Below w.heap.size w w' := by
 have BX := Bx.start w
 have H : (some (([(⟨#[]⟩ : ByteArray), (⟨#[35, 68, 73, 86, 47, 48, 33]⟩ : ByteArray), (⟨#[35, 86, 65, 76, 85, 69, 33]⟩ : ByteArray), (⟨#[35, 82, 69, 70, 33]⟩ : ByteArray), (⟨#[35, 78, 85, 77, 33]⟩ : ByteArray), (⟨#[35, 78, 47, 65]⟩ : ByteArray), (⟨#[35, 67, 73, 82, 67, 76, 69, 33]⟩ : ByteArray), (⟨#[35, 76, 79, 78, 71, 33]⟩ : ByteArray), (⟨#[35, 65, 82, 71, 33]⟩ : ByteArray)] : List ByteArray))) = some r := h
 clear h
 obtain ⟨y704, hy704⟩ : ∃ y_ : List ByteArray, y_ = (([(⟨#[]⟩ : ByteArray), (⟨#[35, 68, 73, 86, 47, 48, 33]⟩ : ByteArray), (⟨#[35, 86, 65, 76, 85, 69, 33]⟩ : ByteArray), (⟨#[35, 82, 69, 70, 33]⟩ : ByteArray), (⟨#[35, 78, 85, 77, 33]⟩ : ByteArray), (⟨#[35, 78, 47, 65]⟩ : ByteArray), (⟨#[35, 67, 73, 82, 67, 76, 69, 33]⟩ : ByteArray), (⟨#[35, 76, 79, 78, 71, 33]⟩ : ByteArray), (⟨#[35, 65, 82, 71, 33]⟩ : ByteArray)] : List ByteArray)) := ⟨_, rfl⟩
 replace H : (some y704) = some r := by first | (rw [hy704]; with_reducible exact H) | (have H2_ := (Option.bind_some _ _).symm.trans H; rw [hy704]; with_reducible exact H2_) | (have H2_ := (Option.bind_some _ _).symm.trans H; with_reducible exact H2_) | with_reducible exact H | (rw [hy704]; exact H) | exact H
 have Ny704 := Aside0.mk hy704
 clear hy704
 obtain rfl := Option.some.inj H
 go_enter Tryd.func58, Tryd.ntmps58
 go_wp2_with (first | ((with_reducible refine gate_dst (N := 1) rfl ?_); refine Kd.R_lit Kd.string _ 9 ?hg (N := 1) ?hd (xs := ([(⟨#[]⟩ : ByteArray), (⟨#[35, 68, 73, 86, 47, 48, 33]⟩ : ByteArray), (⟨#[35, 86, 65, 76, 85, 69, 33]⟩ : ByteArray), (⟨#[35, 82, 69, 70, 33]⟩ : ByteArray), (⟨#[35, 78, 85, 77, 33]⟩ : ByteArray), (⟨#[35, 78, 47, 65]⟩ : ByteArray), (⟨#[35, 67, 73, 82, 67, 76, 69, 33]⟩ : ByteArray), (⟨#[35, 76, 79, 78, 71, 33]⟩ : ByteArray), (⟨#[35, 65, 82, 71, 33]⟩ : ByteArray)] : List ByteArray)) (inner := [.string (⟨#[]⟩ : ByteArray), .string (⟨#[35, 68, 73, 86, 47, 48, 33]⟩ : ByteArray), .string (⟨#[35, 86, 65, 76, 85, 69, 33]⟩ : ByteArray), .string (⟨#[35, 82, 69, 70, 33]⟩ : ByteArray), .string (⟨#[35, 78, 85, 77, 33]⟩ : ByteArray), .string (⟨#[35, 78, 47, 65]⟩ : ByteArray), .string (⟨#[35, 67, 73, 82, 67, 76, 69, 33]⟩ : ByteArray), .string (⟨#[35, 76, 79, 78, 71, 33]⟩ : ByteArray), .string (⟨#[35, 65, 82, 71, 33]⟩ : ByteArray)]) (ok := fun _ => True) (okp := fun _ => True) ?hr ?hp (fun _ hk => hk) trivial (Below.refl _ _) (Nat.le_refl _) (by simp) ?_; (case hd => rfl); (case hg => rfl); (case hr => first | (go_simp; done) | (go_simp; rfl)); (case hp => exact (Reps.one (show Kd.M Kd.string _ _ _ (⟨#[]⟩ : ByteArray) [.string (⟨#[]⟩ : ByteArray)] from rfl) (Reps.one (show Kd.M Kd.string _ _ _ (⟨#[35, 68, 73, 86, 47, 48, 33]⟩ : ByteArray) [.string (⟨#[35, 68, 73, 86, 47, 48, 33]⟩ : ByteArray)] from rfl) (Reps.one (show Kd.M Kd.string _ _ _ (⟨#[35, 86, 65, 76, 85, 69, 33]⟩ : ByteArray) [.string (⟨#[35, 86, 65, 76, 85, 69, 33]⟩ : ByteArray)] from rfl) (Reps.one (show Kd.M Kd.string _ _ _ (⟨#[35, 82, 69, 70, 33]⟩ : ByteArray) [.string (⟨#[35, 82, 69, 70, 33]⟩ : ByteArray)] from rfl) (Reps.one (show Kd.M Kd.string _ _ _ (⟨#[35, 78, 85, 77, 33]⟩ : ByteArray) [.string (⟨#[35, 78, 85, 77, 33]⟩ : ByteArray)] from rfl) (Reps.one (show Kd.M Kd.string _ _ _ (⟨#[35, 78, 47, 65]⟩ : ByteArray) [.string (⟨#[35, 78, 47, 65]⟩ : ByteArray)] from rfl) (Reps.one (show Kd.M Kd.string _ _ _ (⟨#[35, 67, 73, 82, 67, 76, 69, 33]⟩ : ByteArray) [.string (⟨#[35, 67, 73, 82, 67, 76, 69, 33]⟩ : ByteArray)] from rfl) (Reps.one (show Kd.M Kd.string _ _ _ (⟨#[35, 76, 79, 78, 71, 33]⟩ : ByteArray) [.string (⟨#[35, 76, 79, 78, 71, 33]⟩ : ByteArray)] from rfl) (Reps.one (show Kd.M Kd.string _ _ _ (⟨#[35, 65, 82, 71, 33]⟩ : ByteArray) [.string (⟨#[35, 65, 82, 71, 33]⟩ : ByteArray)] from rfl) (Reps.none _ _))))))))))); intro v705 w1 ho2 hb hg_ hnew_; clear hg_ hnew_; (first | rw [← Ny704.out] at ho2 | (simp only [Int.reduceToNat] at ho2; rw [← Ny704.out] at ho2)); have n0_ := Aside0.mk (Kd.R_lower ho2 (below_size bx_bl)); replace BX := bx_call hb; have HO706 := n0_; clear n0_; clear hb ho2))
 go_ret
 exact ⟨_, er2, by (with_reducible repeat (first | apply Kd.R_alloc | apply Kd.R_drewN | apply Kd.R_drew)); exact HO706.out, bx_bl⟩
end
section
/-! ### whittleref2_Read: function 28 -/
mutual
def whittleref2_Read.j0 : Nat → ByteArray → Bool → Option (Int × Int × Int × ByteArray × Bool × Int)
 | 0, _, _ => none
 | k + 1, x0, x29 => if x29 = true then ((whittleref2_Truth.f (x0.toList == ([84, 82, 85, 69] : List UInt8))).bind fun bt724 => (some (bt724.1, bt724.2.1, bt724.2.2.1, bt724.2.2.2.1, bt724.2.2.2.2.1, bt724.2.2.2.2.2))) else ((whittleref2_names.f).bind fun t730 => (whittleref2_Read.l0 k x0 t730 1))
def whittleref2_Read.l0 : Nat → ByteArray → List ByteArray → Int → Option (Int × Int × Int × ByteArray × Bool × Int)
 | 0, _, _, _ => none
 | k + 1, x0, x5, x6 => if x6 < (x5.length : Int) then (if 0 ≤ x6 then (if x0.toList = (rdOf ByteArray.empty x5 x6).toList then ((whittleref2_Fault.f x6).bind fun bt734 => (some (bt734.1, bt734.2.1, bt734.2.2.1, bt734.2.2.2.1, bt734.2.2.2.2.1, bt734.2.2.2.2.2))) else (whittleref2_Read.l0 k x0 x5 (wrap64 (x6 + 1)))) else (none)) else ((whittleref2_Text.f k x0).bind fun bt740 => (some (bt740.1, bt740.2.1, bt740.2.2.1, bt740.2.2.2.1, bt740.2.2.2.2.1, bt740.2.2.2.2.2)))
end
def whittleref2_Read.f (k : Nat) (a0 : ByteArray) : Option (Int × Int × Int × ByteArray × Bool × Int) := if a0.toList = ([] : List UInt8) then (some (0, 0, 0, (⟨#[]⟩ : ByteArray), false, 0)) else (if 0 < (a0.size : Int) then (if (bt a0 0) = 39 then (if 1 ≤ (a0.size : Int) then ((whittleref2_Text.f k (a0.extract 1 a0.size)).bind fun bt708 => (some (bt708.1, bt708.2.1, bt708.2.2.1, bt708.2.2.2.1, bt708.2.2.2.2.1, bt708.2.2.2.2.2))) else (none)) else ((whittleref1_Read.f k a0).bind fun bt714 => (if bt714.2.2 = true then ((whittleref2_Number.f k bt714.1 bt714.2.1).bind fun bt718 => (some (bt718.1, bt718.2.1, bt718.2.2.1, bt718.2.2.2.1, bt718.2.2.2.2.1, bt718.2.2.2.2.2))) else (if a0.toList = ([84, 82, 85, 69] : List UInt8) then (whittleref2_Read.j0 k a0 true) else (whittleref2_Read.j0 k a0 (a0.toList == ([70, 65, 76, 83, 69] : List UInt8))))))) else (none))
theorem whittleref2_Read.mono_l : ∀ k, (∀ y0 y1, LeO (whittleref2_Read.j0 k y0 y1) (whittleref2_Read.j0 (k + 1) y0 y1)) ∧ (∀ y0 y1 y2, LeO (whittleref2_Read.l0 k y0 y1 y2) (whittleref2_Read.l0 (k + 1) y0 y1 y2))
 | 0 => ⟨fun _ _ r h => by simp [whittleref2_Read.j0] at h, fun _ _ _ r h => by simp [whittleref2_Read.l0] at h⟩
 | k + 1 => by
  obtain ⟨ih0, ih1⟩ := whittleref2_Read.mono_l k
  refine ⟨?_, ?_⟩
  ·intro y0 y1
   unfold whittleref2_Read.j0
   repeat' first
   | (with_reducible exact ih0 _ _)
   | (with_reducible exact ih1 _ _ _)
   | (with_reducible exact whittleref1_Read.mono _ _)
   | (with_reducible exact whittleref2_Number.mono _ _ _)
   | (with_reducible exact whittleref2_Text.mono _ _)
   | (with_reducible exact LeO.refl _)
   | (with_reducible exact LeO.none _)
   | (with_reducible refine LeO.ite ?_ ?_)
   | (with_reducible refine LeO.bind ?_ (fun _ => ?_))
   | exact ih0 _ _
   | exact ih1 _ _ _
   | exact whittleref1_Read.mono _ _
   | exact whittleref2_Number.mono _ _ _
   | exact whittleref2_Text.mono _ _
   | exact LeO.none _
   | refine LeO.ite ?_ ?_
   | refine LeO.bind ?_ (fun _ => ?_)
  ·intro y0 y1 y2
   unfold whittleref2_Read.l0
   repeat' first
   | (with_reducible exact ih0 _ _)
   | (with_reducible exact ih1 _ _ _)
   | (with_reducible exact whittleref1_Read.mono _ _)
   | (with_reducible exact whittleref2_Number.mono _ _ _)
   | (with_reducible exact whittleref2_Text.mono _ _)
   | (with_reducible exact LeO.refl _)
   | (with_reducible exact LeO.none _)
   | (with_reducible refine LeO.ite ?_ ?_)
   | (with_reducible refine LeO.bind ?_ (fun _ => ?_))
   | exact ih0 _ _
   | exact ih1 _ _ _
   | exact whittleref1_Read.mono _ _
   | exact whittleref2_Number.mono _ _ _
   | exact whittleref2_Text.mono _ _
   | exact LeO.none _
   | refine LeO.ite ?_ ?_
   | refine LeO.bind ?_ (fun _ => ?_)
theorem whittleref2_Read.mono : ∀ a0 k, LeO (whittleref2_Read.f k a0) (whittleref2_Read.f (k + 1) a0) := by
 intro a0 k
 obtain ⟨ih0, ih1⟩ := whittleref2_Read.mono_l k
 unfold whittleref2_Read.f
 repeat' first
   | (with_reducible exact ih0 _ _)
   | (with_reducible exact ih1 _ _ _)
   | (with_reducible exact whittleref1_Read.mono _ _)
   | (with_reducible exact whittleref2_Number.mono _ _ _)
   | (with_reducible exact whittleref2_Text.mono _ _)
   | (with_reducible exact LeO.refl _)
   | (with_reducible exact LeO.none _)
   | (with_reducible refine LeO.ite ?_ ?_)
   | (with_reducible refine LeO.bind ?_ (fun _ => ?_))
   | exact ih0 _ _
   | exact ih1 _ _ _
   | exact whittleref1_Read.mono _ _
   | exact whittleref2_Number.mono _ _ _
   | exact whittleref2_Text.mono _ _
   | exact LeO.none _
   | refine LeO.ite ?_ ?_
   | refine LeO.bind ?_ (fun _ => ?_)
set_option maxHeartbeats 8000000 in
set_option maxRecDepth 100000 in
theorem whittleref2_Read.calls (k : Nat) (a0 : ByteArray) (r1 : Int) (r2 : Int) (r3 : Int) (r4 : ByteArray) (r5 : Bool) (r6 : Int) (w : World) (h : whittleref2_Read.f k a0 = some (r1, r2, r3, r4, r5, r6)) :
  Calls Tryd.prog 28 #[.string a0] w fun e w' => e = .returned (.agg #[.int .i64 r1, .int .i64 r2, .int .i64 r3, .string r4, .bool r5, .int .i64 r6]) ∧ Below w.heap.size w w' := by
 have hu25 := Tryd.underlying25
 have hu23 := Tryd.underlying23
 have BX := Bx.start w
 have H : (if a0.toList = ([] : List UInt8) then (some (0, 0, 0, (⟨#[]⟩ : ByteArray), false, 0)) else (if 0 < (a0.size : Int) then (if (bt a0 0) = 39 then (if 1 ≤ (a0.size : Int) then ((whittleref2_Text.f k (a0.extract 1 a0.size)).bind fun bt708 => (some (bt708.1, bt708.2.1, bt708.2.2.1, bt708.2.2.2.1, bt708.2.2.2.2.1, bt708.2.2.2.2.2))) else (none)) else ((whittleref1_Read.f k a0).bind fun bt714 => (if bt714.2.2 = true then ((whittleref2_Number.f k bt714.1 bt714.2.1).bind fun bt718 => (some (bt718.1, bt718.2.1, bt718.2.2.1, bt718.2.2.2.1, bt718.2.2.2.2.1, bt718.2.2.2.2.2))) else (if a0.toList = ([84, 82, 85, 69] : List UInt8) then (whittleref2_Read.j0 k a0 true) else (whittleref2_Read.j0 k a0 (a0.toList == ([70, 65, 76, 83, 69] : List UInt8))))))) else (none))) = some (r1, r2, r3, r4, r5, r6) := h
 clear h
 by_cases c2 : a0.toList = ([] : List UInt8)
 ·rw [if_pos c2] at H
  have c2b0 : (a0.toList == ([] : List UInt8)) = true := beq_iff_eq.mpr c2
  have c2b1 : (a0.toList != ([] : List UInt8)) = false := bne_eq_false_iff_eq.mpr c2
  clear c2
  simp only [Option.some.injEq, Prod.mk.injEq] at H
  obtain ⟨rfl, rfl, rfl, rfl, rfl, rfl⟩ := H
  go_enter Tryd.func28, Tryd.ntmps28
  go_wp2_with (first | ((with_reducible refine gate_dst (N := 2) rfl ?_); refine bxe 2 #[.int .i64 0, .int .i64 0, .int .i64 0, .string (⟨#[]⟩ : ByteArray), .bool false, .int .i64 0] 25 rfl rfl gr ?_; clear BX; intro gb707 w3 GE707 BX))
  refine bodyPost_ret (results_cell_row rfl _ _ gb707 25 #[.int .i64 0, .int .i64 0, .int .i64 0, .string (⟨#[]⟩ : ByteArray), .bool false, .int .i64 0] (0, 0) _ rfl bx_get Tryd.underlying25 rfl kr) rfl ?_
  exact ⟨er2, bx_bl⟩
 ·rw [if_neg c2] at H
  have c2b0 : (a0.toList == ([] : List UInt8)) = false := beq_eq_false_iff_ne.mpr c2
  have c2b1 : (a0.toList != ([] : List UInt8)) = true := bne_iff_ne.mpr c2
  by_cases c5 : 0 < (a0.size : Int)
  ·rw [if_pos c5] at H
   have c5b0 : decide (0 < (a0.size : Int)) = true := decide_eq_true c5
   have c5b1 : decide (0 < a0.size) = true := decide_eq_true (by omega)
   clear c5
   by_cases c7 : (bt a0 0) = 39
   ·rw [if_pos c7] at H
    have c7b0 : ((bt a0 0) == 39) = true := beq_iff_eq.mpr c7
    have c7b1 : ((bt a0 0) != 39) = false := bne_eq_false_iff_eq.mpr c7
    clear c7
    by_cases c8 : 1 ≤ (a0.size : Int)
    ·rw [if_pos c8] at H
     have c8b0 := eq_true c8
     have c8b1 : decide (1 ≤ (a0.size : Int)) = true := decide_eq_true c8
     clear c8
     replace H := Option.bind_eq_some_iff.mp H
     obtain ⟨⟨t708, t709, t710, t711, t712, t713⟩, A90, H⟩ := H
     replace H : (some (t708, t709, t710, t711, t712, t713)) = some (r1, r2, r3, r4, r5, r6) := H
     have A9 := Aside0.mk A90
     clear A90
     simp only [Option.some.injEq, Prod.mk.injEq] at H
     obtain ⟨rfl, rfl, rfl, rfl, rfl, rfl⟩ := H
     go_enter Tryd.func28, Tryd.ntmps28
     go_wp2_with (first | ((with_reducible refine gate_dst (N := 2) rfl ?_); refine bxe 2 #[.int .i64 0, .int .i64 0, .int .i64 0, .string (⟨#[]⟩ : ByteArray), .bool false, .int .i64 0] 25 rfl rfl gr ?_; clear BX; intro gb707 w10 GE707 BX; have p6 : 0 ≤ (0 : Int) := (by omega); have q6 : 0 < a0.size := (by have : (0 : Int) < (a0.size : Int) := of_decide_eq_true (by first | (with_reducible assumption) | assumption); omega); have hx6 : ∀ h : 0 < a0.size, ((a0[0]'h).toNat : Int) = bt a0 0 := bt_at a0 0; clear p6; have qi6 : (0 < (a0.size : Int)) = True := eq_true (of_decide_eq_true (by first | (with_reducible assumption) | assumption)); replace q6 := eq_true q6) | ((with_reducible refine gate_callee (f := 22) rfl ?_); refine goesL_ (some 15) rfl rfl Tryd.func22 kr rfl #[.string (a0.extract 1 a0.size)] rfl ga ?_; (with_reducible refine (whittleref2_Text.calls k (a0.extract 1 a0.size) t708 t709 t710 t711 t712 t713 _ A9.out).mono ?_); rintro e w11 ⟨rfl, hb⟩; refine ⟨_, rfl, ?_⟩; replace BX := bx_call hb; clear hb))
     refine bodyPost_ret (results_cell_row rfl _ _ gb707 25 #[.int .i64 t708, .int .i64 t709, .int .i64 t710, .string t711, .bool t712, .int .i64 t713] (0, 0) _ rfl bx_get Tryd.underlying25 rfl kr) rfl ?_
     exact ⟨er2, bx_bl⟩
    ·rw [if_neg c8] at H
     exact absurd H (by simp)
   ·rw [if_neg c7] at H
    have c7b0 : ((bt a0 0) == 39) = false := beq_eq_false_iff_ne.mpr c7
    have c7b1 : ((bt a0 0) != 39) = true := bne_iff_ne.mpr c7
    replace H := Option.bind_eq_some_iff.mp H
    obtain ⟨⟨t714, t715, t716⟩, A130, H⟩ := H
    replace H : (if t716 = true then ((whittleref2_Number.f k t714 t715).bind fun bt718 => (some (bt718.1, bt718.2.1, bt718.2.2.1, bt718.2.2.2.1, bt718.2.2.2.2.1, bt718.2.2.2.2.2))) else (if a0.toList = ([84, 82, 85, 69] : List UInt8) then (whittleref2_Read.j0 k a0 true) else (whittleref2_Read.j0 k a0 (a0.toList == ([70, 65, 76, 83, 69] : List UInt8))))) = some (r1, r2, r3, r4, r5, r6) := H
    have A13 := Aside0.mk A130
    clear A130
    by_cases c14 : t716 = true
    ·subst c14
     have H1 : ((whittleref2_Number.f k t714 t715).bind fun bt718 => (some (bt718.1, bt718.2.1, bt718.2.2.1, bt718.2.2.2.1, bt718.2.2.2.2.1, bt718.2.2.2.2.2))) = some (r1, r2, r3, r4, r5, r6) := by rw [if_pos rfl] at H; exact H
     clear H
     have H := H1
     clear H1
     replace H := Option.bind_eq_some_iff.mp H
     obtain ⟨⟨t718, t719, t720, t721, t722, t723⟩, A150, H⟩ := H
     replace H : (some (t718, t719, t720, t721, t722, t723)) = some (r1, r2, r3, r4, r5, r6) := H
     have A15 := Aside0.mk A150
     clear A150
     simp only [Option.some.injEq, Prod.mk.injEq] at H
     obtain ⟨rfl, rfl, rfl, rfl, rfl, rfl⟩ := H
     go_enter Tryd.func28, Tryd.ntmps28
     go_wp2_with (first | ((with_reducible refine gate_dst (N := 2) rfl ?_); refine bxe 2 #[.int .i64 0, .int .i64 0, .int .i64 0, .string (⟨#[]⟩ : ByteArray), .bool false, .int .i64 0] 25 rfl rfl gr ?_; clear BX; intro gb707 w16 GE707 BX; have p6 : 0 ≤ (0 : Int) := (by omega); have q6 : 0 < a0.size := (by have : (0 : Int) < (a0.size : Int) := of_decide_eq_true (by first | (with_reducible assumption) | assumption); omega); have hx6 : ∀ h : 0 < a0.size, ((a0[0]'h).toNat : Int) = bt a0 0 := bt_at a0 0; clear p6; have qi6 : (0 < (a0.size : Int)) = True := eq_true (of_decide_eq_true (by first | (with_reducible assumption) | assumption)); replace q6 := eq_true q6) | ((with_reducible refine gate_callee (f := 57) rfl ?_); refine goesL_ (some 18) rfl rfl Tryd.func57 kr rfl #[.string a0] rfl ga ?_; (with_reducible refine (whittleref1_Read.calls k a0 t714 t715 true _ A13.out).mono ?_); rintro e w17 ⟨rfl, hb⟩; refine ⟨_, rfl, ?_⟩; replace BX := bx_call hb; clear hb) | ((with_reducible refine gate_dst (N := 3) rfl ?_); refine bxe 3 #[.int .i64 0, .int .i64 0] 23 rfl rfl gr ?_; clear BX; intro gb717 w18 GE717 BX) | ((with_reducible refine gate_callee (f := 20) rfl ?_); refine goesL_ (some 23) rfl rfl Tryd.func20 kr rfl #[.agg #[.int .i64 t714, .int .i64 t715]] rfl ga ?_; (with_reducible refine (whittleref2_Number.calls k t714 t715 t718 t719 t720 t721 t722 t723 _ A15.out).mono ?_); rintro e w21 ⟨rfl, hb⟩; refine ⟨_, rfl, ?_⟩; replace BX := bx_call hb; clear hb))
     refine bodyPost_ret (results_cell_row rfl _ _ gb707 25 #[.int .i64 t718, .int .i64 t719, .int .i64 t720, .string t721, .bool t722, .int .i64 t723] (0, 0) _ rfl bx_get Tryd.underlying25 rfl kr) rfl ?_
     exact ⟨er2, bx_bl⟩
    ·replace c14 := Bool.eq_false_iff.mpr c14
     subst c14
     have H1 : (if a0.toList = ([84, 82, 85, 69] : List UInt8) then (whittleref2_Read.j0 k a0 true) else (whittleref2_Read.j0 k a0 (a0.toList == ([70, 65, 76, 83, 69] : List UInt8)))) = some (r1, r2, r3, r4, r5, r6) := by rw [if_neg (show ¬ (false = true) by decide)] at H; exact H
     clear H
     have H := H1
     clear H1
     have HC23 := Aside0.mk H
     clear H
     go_enter Tryd.func28, Tryd.ntmps28
     go_upto_region 8 with (first | ((with_reducible refine gate_dst (N := 2) rfl ?_); refine bxe 2 #[.int .i64 0, .int .i64 0, .int .i64 0, .string (⟨#[]⟩ : ByteArray), .bool false, .int .i64 0] 25 rfl rfl gr ?_; clear BX; intro gb707 w24 GE707 BX; have p6 : 0 ≤ (0 : Int) := (by omega); have q6 : 0 < a0.size := (by have : (0 : Int) < (a0.size : Int) := of_decide_eq_true (by first | (with_reducible assumption) | assumption); omega); have hx6 : ∀ h : 0 < a0.size, ((a0[0]'h).toNat : Int) = bt a0 0 := bt_at a0 0; clear p6; have qi6 : (0 < (a0.size : Int)) = True := eq_true (of_decide_eq_true (by first | (with_reducible assumption) | assumption)); replace q6 := eq_true q6) | ((with_reducible refine gate_callee (f := 57) rfl ?_); refine goesL_ (some 18) rfl rfl Tryd.func57 kr rfl #[.string a0] rfl ga ?_; (with_reducible refine (whittleref1_Read.calls k a0 t714 t715 false _ A13.out).mono ?_); rintro e w25 ⟨rfl, hb⟩; refine ⟨_, rfl, ?_⟩; replace BX := bx_call hb; clear hb) | ((with_reducible refine gate_dst (N := 3) rfl ?_); refine bxe 3 #[.int .i64 0, .int .i64 0] 23 rfl rfl gr ?_; clear BX; intro gb717 w26 GE717 BX))
     (try simp only [Act.put, List.setIfInBounds_toArray, List.set_cons_zero, List.set_cons_succ])
     go_cut [29] (fun v29 wc => ∃ (kq : Nat) (x29_22 : Bool), v29 = .bool x29_22 ∧ Aside0 (whittleref2_Read.j0 kq a0 x29_22 = some (r1, r2, r3, r4, r5, r6)) ∧ Aside0 (kq ≤ k) ∧ Bx w wc [(gb717, 23, #[.int .i64 t714, .int .i64 t715]), (gb707, 25, #[.int .i64 0, .int .i64 0, .int .i64 0, .string (⟨#[]⟩ : ByteArray), .bool false, .int .i64 0])])
     case first =>
      have H := HC23.out
      clear HC23
      by_cases c29 : a0.toList = ([84, 82, 85, 69] : List UInt8)
      ·rw [if_pos c29] at H
       have c29b0 : (a0.toList == ([84, 82, 85, 69] : List UInt8)) = true := beq_iff_eq.mpr c29
       have c29b1 : (a0.toList != ([84, 82, 85, 69] : List UInt8)) = false := bne_eq_false_iff_eq.mpr c29
       clear c29
       (first | rw [c29b0] | (simp only [i64_w, i32_w]; rw [c29b0]) | skip)
       have H' := Aside0.mk H
       clear H
       go_wp2
       go_meet
       case rel => exact ⟨_, (true), er, H', ⟨by first | omega | exact Nat.le_refl _⟩, bxs⟩
      ·rw [if_neg c29] at H
       have c29b0 : (a0.toList == ([84, 82, 85, 69] : List UInt8)) = false := beq_eq_false_iff_ne.mpr c29
       have c29b1 : (a0.toList != ([84, 82, 85, 69] : List UInt8)) = true := bne_iff_ne.mpr c29
       (first | rw [c29b0] | (simp only [i64_w, i32_w]; rw [c29b0]) | skip)
       have H' := Aside0.mk H
       clear H
       go_wp2
       go_meet
       case rel => exact ⟨_, ((a0.toList == ([70, 65, 76, 83, 69] : List UInt8))), er, H', ⟨by first | omega | exact Nat.le_refl _⟩, bxs⟩
     case rest =>
      clear HC23
      try clear c1
      try clear c2
      try clear c2b0
      try clear c2b1
      try clear p2
      try clear c5
      try clear c5b0
      try clear c5b1
      try clear p6
      try clear q6
      try clear hx6
      try clear qi6
      try clear c7
      try clear c7b0
      try clear c7b1
      try clear c8
      try clear c8b0
      try clear c8b1
      try clear c14
      try clear c19
      try clear c20
      try clear c22
      try clear c27
      try clear c28
      try clear c29
      try clear c29b0
      try clear c29b1
      try clear p6
      try clear q6
      obtain ⟨kq, x29_22, rfl, HA, HJ22, BX⟩ := hcut
      cases kq with
      | zero => exact absurd HA.out (by simp [whittleref2_Read.j0])
      | succ kj22 =>
       have H := HA.out
       clear HA
       simp only [whittleref2_Read.j0] at H
       by_cases c30 : x29_22 = true
       ·subst c30
        have H1 : ((whittleref2_Truth.f (a0.toList == ([84, 82, 85, 69] : List UInt8))).bind fun bt724 => (some (bt724.1, bt724.2.1, bt724.2.2.1, bt724.2.2.2.1, bt724.2.2.2.2.1, bt724.2.2.2.2.2))) = some (r1, r2, r3, r4, r5, r6) := by rw [if_pos rfl] at H; exact H
        clear H
        have H := H1
        clear H1
        replace H := Option.bind_eq_some_iff.mp H
        obtain ⟨⟨t724, t725, t726, t727, t728, t729⟩, A310, H⟩ := H
        replace H : (some (t724, t725, t726, t727, t728, t729)) = some (r1, r2, r3, r4, r5, r6) := H
        have A31 := Aside0.mk A310
        clear A310
        simp only [Option.some.injEq, Prod.mk.injEq] at H
        obtain ⟨rfl, rfl, rfl, rfl, rfl, rfl⟩ := H
        go_wp2_with (first | ((with_reducible refine gate_callee (f := 24) rfl ?_); refine goesL_ (some 32) rfl rfl Tryd.func24 kr rfl #[.bool (a0.toList == ([84, 82, 85, 69] : List UInt8))] rfl ga ?_; (with_reducible refine (whittleref2_Truth.calls (a0.toList == ([84, 82, 85, 69] : List UInt8)) t724 t725 t726 t727 t728 t729 _ A31.out).mono ?_); rintro e w32 ⟨rfl, hb⟩; refine ⟨_, rfl, ?_⟩; replace BX := bx_call hb; clear hb))
        refine bodyPost_ret (results_cell_row rfl _ _ gb707 25 #[.int .i64 t724, .int .i64 t725, .int .i64 t726, .string t727, .bool t728, .int .i64 t729] (0, 0) _ rfl bx_get Tryd.underlying25 rfl kr) rfl ?_
        exact ⟨er2, bx_bl⟩
       ·replace c30 := Bool.eq_false_iff.mpr c30
        subst c30
        have H1 : ((whittleref2_names.f).bind fun t730 => (whittleref2_Read.l0 kj22 a0 t730 1)) = some (r1, r2, r3, r4, r5, r6) := by rw [if_neg (show ¬ (false = true) by decide)] at H; exact H
        clear H
        have H := H1
        clear H1
        replace H := Option.bind_eq_some_iff.mp H
        obtain ⟨t730, A350, H⟩ := H
        replace H : (whittleref2_Read.l0 kj22 a0 t730 1) = some (r1, r2, r3, r4, r5, r6) := H
        have A35 := Aside0.mk A350
        clear A350
        have H' := Aside0.mk H
        clear H
        go_wp2_with (first | ((with_reducible refine gate_callee (f := 58) rfl ?_); refine goesL_ (some 33) rfl rfl Tryd.func58 kr rfl #[] rfl ga ?_; (with_reducible refine (whittleref2_names.calls  t730 _ A35.out).mono ?_); rintro e w36 ⟨v731, rfl, ho0, hb⟩; refine ⟨_, rfl, ?_⟩; have n1_ := Aside0.mk (Kd.R_lower ho0 (below_size bx_bl)); replace BX := bx_call hb; have HO732 := n1_; clear n1_; clear hb; (try clear ho0)))
        go_loopg [6] kj22 (fun kq v6 w' => ∃ (x6_2 : Int) (x708000_2 : Int) (x708001_2 : Int) (x708002_2 : Int) (x708003_2 : ByteArray) (x708004_2 : Bool) (x708005_2 : Int), v6 = .int .i64 x6_2 ∧ Aside0 (whittleref2_Read.l0 kq a0 t730 x6_2 = some (r1, r2, r3, r4, r5, r6)) ∧ Aside0 (kq ≤ kj22) ∧ Aside0 (Kd.R Kd.string 9 w' w.heap.size (fun _ => True) v731 t730) ∧ Bx w w' [(gb717, 23, #[.int .i64 t714, .int .i64 t715]), (gb707, 25, #[.int .i64 x708000_2, .int .i64 x708001_2, .int .i64 x708002_2, .string x708003_2, .bool x708004_2, .int .i64 x708005_2])])
        case atStart => exact ⟨(1), (0), (0), (0), ((⟨#[]⟩ : ByteArray)), (false), (0), er, H', ⟨Nat.le_refl _⟩, ⟨by (with_reducible repeat (first | apply Kd.R_alloc | apply Kd.R_drewN | apply Kd.R_drew)); exact HO732.out⟩, bxs⟩
        case round =>
         clear H'
         try clear c1
         try clear c2
         try clear c2b0
         try clear c2b1
         try clear p2
         try clear c3
         try clear c5
         try clear c5b0
         try clear c5b1
         try clear p6
         try clear q6
         try clear hx6
         try clear qi6
         try clear c7
         try clear c7b0
         try clear c7b1
         try clear c8
         try clear c8b0
         try clear c8b1
         try clear c14
         try clear c19
         try clear c20
         try clear c22
         try clear c24
         try clear c27
         try clear c28
         try clear c29
         try clear c29b0
         try clear c29b1
         try clear c30
         try clear c33
         try clear p2
         try clear p6
         try clear q6
         obtain ⟨x6_2, x708000_2, x708001_2, x708002_2, x708003_2, x708004_2, x708005_2, rfl, HA, HK2, HO_5, BX⟩ := hrel
         cases gk with
         | zero => exact absurd HA.out (by simp [whittleref2_Read.l0])
         | succ k2 =>
          have H := HA.out
          clear HA
          simp only [whittleref2_Read.l0] at H
          by_cases c37 : x6_2 < (t730.length : Int)
          ·rw [if_pos c37] at H
           have c37b0 : decide (x6_2 < (t730.length : Int)) = true := decide_eq_true c37
           clear c37
           by_cases c38 : 0 ≤ x6_2
           ·rw [if_pos c38] at H
            have c38b0 : decide (0 ≤ x6_2) = true := decide_eq_true c38
            clear c38
            by_cases c39 : a0.toList = (rdOf ByteArray.empty t730 x6_2).toList
            ·rw [if_pos c39] at H
             have c39b0 : (a0.toList == (rdOf ByteArray.empty t730 x6_2).toList) = true := beq_iff_eq.mpr c39
             have c39b1 : (a0.toList != (rdOf ByteArray.empty t730 x6_2).toList) = false := bne_eq_false_iff_eq.mpr c39
             clear c39
             replace H := Option.bind_eq_some_iff.mp H
             obtain ⟨⟨t734, t735, t736, t737, t738, t739⟩, A400, H⟩ := H
             replace H : (some (t734, t735, t736, t737, t738, t739)) = some (r1, r2, r3, r4, r5, r6) := H
             have A40 := Aside0.mk A400
             clear A400
             simp only [Option.some.injEq, Prod.mk.injEq] at H
             obtain ⟨rfl, rfl, rfl, rfl, rfl, rfl⟩ := H
             obtain ⟨Ao41, co41, eo41⟩ := Kd.R_slice HO_5.out
             subst eo41
             have p733 : 0 ≤ (x6_2 : Int) := of_decide_eq_true (by first | (with_reducible assumption) | assumption)
             have q733 : x6_2 < (t730.length : Int) := of_decide_eq_true (by first | (with_reducible assumption) | assumption)
             obtain ⟨ad733, e733, hx733_0⟩ := Kd.at_string (Kd.R_reads' HO_5.out).2.2 x6_2 p733 q733
             cases e733
             replace p733 := eq_true p733
             replace q733 := eq_true q733
             go_wp2_with (first | ((with_reducible refine gate_callee (f := 26) rfl ?_); refine goesL_ (some 47) rfl rfl Tryd.func26 kr rfl #[.int .i64 x6_2] rfl ga ?_; (with_reducible refine (whittleref2_Fault.calls x6_2 t734 t735 t736 t737 t738 t739 _ A40.out).mono ?_); rintro e w42 ⟨rfl, hb⟩; refine ⟨_, rfl, ?_⟩; have n1_ := Aside0.mk (Kd.R_below (by (with_reducible repeat (first | apply Kd.R_alloc | apply Kd.R_drewN | apply Kd.R_drew)); exact HO_5.out) hb); replace BX := bx_call hb; clear HO_5; have HO_5 := n1_; clear n1_; clear hb))
             refine bodyPost_ret (results_cell_row rfl _ _ gb707 25 #[.int .i64 t734, .int .i64 t735, .int .i64 t736, .string t737, .bool t738, .int .i64 t739] (0, 0) _ rfl bx_get Tryd.underlying25 rfl kr) rfl ?_
             exact ⟨er2, bx_bl⟩
            ·rw [if_neg c39] at H
             have c39b0 : (a0.toList == (rdOf ByteArray.empty t730 x6_2).toList) = false := beq_eq_false_iff_ne.mpr c39
             have c39b1 : (a0.toList != (rdOf ByteArray.empty t730 x6_2).toList) = true := bne_iff_ne.mpr c39
             have H' := Aside0.mk H
             clear H
             obtain ⟨Ao45, co45, eo45⟩ := Kd.R_slice HO_5.out
             subst eo45
             have p733 : 0 ≤ (x6_2 : Int) := of_decide_eq_true (by first | (with_reducible assumption) | assumption)
             have q733 : x6_2 < (t730.length : Int) := of_decide_eq_true (by first | (with_reducible assumption) | assumption)
             obtain ⟨ad733, e733, hx733_0⟩ := Kd.at_string (Kd.R_reads' HO_5.out).2.2 x6_2 p733 q733
             cases e733
             replace p733 := eq_true p733
             replace q733 := eq_true q733
             go_wp2
             go_roundg k2
             case measure => have := HJ22.out; have := HK2.out; omega
             case rel => exact ⟨(wrap64 (x6_2 + 1)), (x708000_2), (x708001_2), (x708002_2), (x708003_2), (x708004_2), (x708005_2), er, H', ⟨by have := HJ22.out; have := HK2.out; omega⟩, ⟨by (with_reducible repeat (first | apply Kd.R_alloc | apply Kd.R_drewN | apply Kd.R_drew)); exact HO_5.out⟩, bxs⟩
           ·rw [if_neg c38] at H
            exact absurd H (by simp)
          ·rw [if_neg c37] at H
           have c37b0 : decide (x6_2 < (t730.length : Int)) = false := decide_eq_false c37
           clear c37
           replace H := Option.bind_eq_some_iff.mp H
           obtain ⟨⟨t740, t741, t742, t743, t744, t745⟩, A460, H⟩ := H
           replace H : (some (t740, t741, t742, t743, t744, t745)) = some (r1, r2, r3, r4, r5, r6) := H
           have A46 := Aside0.mk A460
           clear A460
           simp only [Option.some.injEq, Prod.mk.injEq] at H
           obtain ⟨rfl, rfl, rfl, rfl, rfl, rfl⟩ := H
           obtain ⟨Ao47, co47, eo47⟩ := Kd.R_slice HO_5.out
           subst eo47
           go_wp2_with (first | ((with_reducible refine gate_callee (f := 22) rfl ?_); refine goesL_ (some 49) rfl rfl Tryd.func22 kr rfl #[.string a0] rfl ga ?_; (with_reducible refine (whittleref2_Text.calls k2 a0 t740 t741 t742 t743 t744 t745 _ A46.out).mono ?_); rintro e w48 ⟨rfl, hb⟩; refine ⟨_, rfl, ?_⟩; have n1_ := Aside0.mk (Kd.R_below (by (with_reducible repeat (first | apply Kd.R_alloc | apply Kd.R_drewN | apply Kd.R_drew)); exact HO_5.out) hb); replace BX := bx_call hb; clear HO_5; have HO_5 := n1_; clear n1_; clear hb))
           refine bodyPost_ret (results_cell_row rfl _ _ gb707 25 #[.int .i64 t740, .int .i64 t741, .int .i64 t742, .string t743, .bool t744, .int .i64 t745] (0, 0) _ rfl bx_get Tryd.underlying25 rfl kr) rfl ?_
           exact ⟨er2, bx_bl⟩
  ·rw [if_neg c5] at H
   exact absurd H (by simp)
end
section
attribute [local go_sem high] eqA25
/-! ### whittleref2_Show: function 30 -/
def whittleref2_Show.f (k : Nat) (a0_0 : Int) (a0_1 : Int) (a0_2 : Int) (a0_3 : ByteArray) (a0_4 : Bool) (a0_5 : Int) : Option (ByteArray) := (whittleref2_Of.f k a0_0 a0_1 a0_2 a0_3 a0_4 a0_5).bind fun bt774 => (if bt774.1 = 1 then ((whittleref1_Text.f k bt774.2.1 bt774.2.2.1).bind fun t780 => (some t780)) else (if bt774.1 = 3 then ((whittleref2_truth.f bt774.2.2.2.2.1).bind fun t781 => (some t781)) else (if bt774.1 = 4 then ((whittleref2_names.f).bind fun t782 => (if 0 ≤ bt774.2.2.2.2.2 then (if bt774.2.2.2.2.2 < (t782.length : Int) then (some (rdOf ByteArray.empty t782 bt774.2.2.2.2.2)) else (none)) else (none))) else (if bt774.1 = 2 then ((whittleref2_Read.f k bt774.2.2.2.1).bind fun bt786 => (if (bt786.1 == bt774.1 && ((bt786.2.1 == bt774.2.1 && (bt786.2.2.1 == bt774.2.2.1)) && (bt786.2.2.2.1.toList == bt774.2.2.2.1.toList && (bt786.2.2.2.2.1 == bt774.2.2.2.2.1 && (bt786.2.2.2.2.2 == bt774.2.2.2.2.2))))) = true then (if 0 < (bt774.2.2.2.1.size : Int) then (if (bt bt774.2.2.2.1 0) = 61 then (if 1 + bt774.2.2.2.1.size ≤ 9223372036854775807 then (some ((⟨#[39]⟩ : ByteArray) ++ bt774.2.2.2.1)) else (none)) else (some bt774.2.2.2.1)) else (none)) else (if 1 + bt774.2.2.2.1.size ≤ 9223372036854775807 then (some ((⟨#[39]⟩ : ByteArray) ++ bt774.2.2.2.1)) else (none)))) else (some (⟨#[]⟩ : ByteArray))))))
theorem whittleref2_Show.mono : ∀ a0 a1 a2 a3 a4 a5 k, LeO (whittleref2_Show.f k a0 a1 a2 a3 a4 a5) (whittleref2_Show.f (k + 1) a0 a1 a2 a3 a4 a5) := by
 intro a0 a1 a2 a3 a4 a5 k
 unfold whittleref2_Show.f
 repeat' first
   | (with_reducible exact whittleref1_Text.mono _ _ _)
   | (with_reducible exact whittleref2_Of.mono _ _ _ _ _ _ _)
   | (with_reducible exact whittleref2_Read.mono _ _)
   | (with_reducible exact LeO.refl _)
   | (with_reducible exact LeO.none _)
   | (with_reducible refine LeO.ite ?_ ?_)
   | (with_reducible refine LeO.bind ?_ (fun _ => ?_))
   | exact whittleref1_Text.mono _ _ _
   | exact whittleref2_Of.mono _ _ _ _ _ _ _
   | exact whittleref2_Read.mono _ _
   | exact LeO.none _
   | refine LeO.ite ?_ ?_
   | refine LeO.bind ?_ (fun _ => ?_)
set_option maxHeartbeats 8000000 in
set_option maxRecDepth 100000 in
theorem whittleref2_Show.calls (k : Nat) (a0_0 : Int) (a0_1 : Int) (a0_2 : Int) (a0_3 : ByteArray) (a0_4 : Bool) (a0_5 : Int) (r : ByteArray) (w : World) (h : whittleref2_Show.f k a0_0 a0_1 a0_2 a0_3 a0_4 a0_5 = some r) :
  Calls Tryd.prog 30 #[.agg #[.int .i64 a0_0, .int .i64 a0_1, .int .i64 a0_2, .string a0_3, .bool a0_4, .int .i64 a0_5]] w fun e w' => e = .returned (.string r) ∧ Below w.heap.size w w' := by
 have hu25 := Tryd.underlying25
 have hu23 := Tryd.underlying23
 have BX := Bx.start w
 have H : ((whittleref2_Of.f k a0_0 a0_1 a0_2 a0_3 a0_4 a0_5).bind fun bt774 => (if bt774.1 = 1 then ((whittleref1_Text.f k bt774.2.1 bt774.2.2.1).bind fun t780 => (some t780)) else (if bt774.1 = 3 then ((whittleref2_truth.f bt774.2.2.2.2.1).bind fun t781 => (some t781)) else (if bt774.1 = 4 then ((whittleref2_names.f).bind fun t782 => (if 0 ≤ bt774.2.2.2.2.2 then (if bt774.2.2.2.2.2 < (t782.length : Int) then (some (rdOf ByteArray.empty t782 bt774.2.2.2.2.2)) else (none)) else (none))) else (if bt774.1 = 2 then ((whittleref2_Read.f k bt774.2.2.2.1).bind fun bt786 => (if (bt786.1 == bt774.1 && ((bt786.2.1 == bt774.2.1 && (bt786.2.2.1 == bt774.2.2.1)) && (bt786.2.2.2.1.toList == bt774.2.2.2.1.toList && (bt786.2.2.2.2.1 == bt774.2.2.2.2.1 && (bt786.2.2.2.2.2 == bt774.2.2.2.2.2))))) = true then (if 0 < (bt774.2.2.2.1.size : Int) then (if (bt bt774.2.2.2.1 0) = 61 then (if 1 + bt774.2.2.2.1.size ≤ 9223372036854775807 then (some ((⟨#[39]⟩ : ByteArray) ++ bt774.2.2.2.1)) else (none)) else (some bt774.2.2.2.1)) else (none)) else (if 1 + bt774.2.2.2.1.size ≤ 9223372036854775807 then (some ((⟨#[39]⟩ : ByteArray) ++ bt774.2.2.2.1)) else (none)))) else (some (⟨#[]⟩ : ByteArray))))))) = some r := h
 clear h
 replace H := Option.bind_eq_some_iff.mp H
 obtain ⟨⟨t774, t775, t776, t777, t778, t779⟩, A20, H⟩ := H
 replace H : (if t774 = 1 then ((whittleref1_Text.f k t775 t776).bind fun t780 => (some t780)) else (if t774 = 3 then ((whittleref2_truth.f t778).bind fun t781 => (some t781)) else (if t774 = 4 then ((whittleref2_names.f).bind fun t782 => (if 0 ≤ t779 then (if t779 < (t782.length : Int) then (some (rdOf ByteArray.empty t782 t779)) else (none)) else (none))) else (if t774 = 2 then ((whittleref2_Read.f k t777).bind fun bt786 => (if (bt786.1 == t774 && ((bt786.2.1 == t775 && (bt786.2.2.1 == t776)) && (bt786.2.2.2.1.toList == t777.toList && (bt786.2.2.2.2.1 == t778 && (bt786.2.2.2.2.2 == t779))))) = true then (if 0 < (t777.size : Int) then (if (bt t777 0) = 61 then (if 1 + t777.size ≤ 9223372036854775807 then (some ((⟨#[39]⟩ : ByteArray) ++ t777)) else (none)) else (some t777)) else (none)) else (if 1 + t777.size ≤ 9223372036854775807 then (some ((⟨#[39]⟩ : ByteArray) ++ t777)) else (none)))) else (some (⟨#[]⟩ : ByteArray)))))) = some r := H
 have A2 := Aside0.mk A20
 clear A20
 by_cases c3 : t774 = 1
 ·rw [if_pos c3] at H
  have c3b0 : (t774 == 1) = true := beq_iff_eq.mpr c3
  have c3b1 : (t774 != 1) = false := bne_eq_false_iff_eq.mpr c3
  clear c3
  replace H := Option.bind_eq_some_iff.mp H
  obtain ⟨t780, A40, H⟩ := H
  replace H : (some t780) = some r := H
  have A4 := Aside0.mk A40
  clear A40
  obtain rfl := Option.some.inj H
  go_enter Tryd.func30, Tryd.ntmps30
  go_wp2_with (first | ((with_reducible refine gate_dst (N := 1) rfl ?_); refine bxe 1 #[.int .i64 a0_0, .int .i64 a0_1, .int .i64 a0_2, .string a0_3, .bool a0_4, .int .i64 a0_5] 25 rfl rfl gr ?_; clear BX; intro gb773 w5 GE773 BX) | ((with_reducible refine gate_callee (f := 60) rfl ?_); refine goesL_ (some 6) rfl rfl Tryd.func60 kr rfl #[.agg #[.int .i64 a0_0, .int .i64 a0_1, .int .i64 a0_2, .string a0_3, .bool a0_4, .int .i64 a0_5]] rfl ga ?_; (with_reducible refine (whittleref2_Of.calls k a0_0 a0_1 a0_2 a0_3 a0_4 a0_5 t774 t775 t776 t777 t778 t779 _ A2.out).mono ?_); rintro e w7 ⟨rfl, hb⟩; refine ⟨_, rfl, ?_⟩; replace BX := bx_call hb; clear hb) | ((with_reducible refine gate_callee (f := 61) rfl ?_); refine goesL_ (some 13) rfl rfl Tryd.func61 kr rfl #[.agg #[.int .i64 t775, .int .i64 t776]] rfl ga ?_; (with_reducible refine (whittleref1_Text.calls k t775 t776 t780 _ A4.out).mono ?_); rintro e w9 ⟨rfl, hb⟩; refine ⟨_, rfl, ?_⟩; replace BX := bx_call hb; clear hb))
  go_ret
  exact ⟨er2, bx_bl⟩
 ·rw [if_neg c3] at H
  have c3b0 : (t774 == 1) = false := beq_eq_false_iff_ne.mpr c3
  have c3b1 : (t774 != 1) = true := bne_iff_ne.mpr c3
  by_cases c10 : t774 = 3
  ·rw [if_pos c10] at H
   have c10b0 : (t774 == 3) = true := beq_iff_eq.mpr c10
   have c10b1 : (t774 != 3) = false := bne_eq_false_iff_eq.mpr c10
   clear c10
   replace H := Option.bind_eq_some_iff.mp H
   obtain ⟨t781, A110, H⟩ := H
   replace H : (some t781) = some r := H
   have A11 := Aside0.mk A110
   clear A110
   obtain rfl := Option.some.inj H
   go_enter Tryd.func30, Tryd.ntmps30
   go_wp2_with (first | ((with_reducible refine gate_dst (N := 1) rfl ?_); refine bxe 1 #[.int .i64 a0_0, .int .i64 a0_1, .int .i64 a0_2, .string a0_3, .bool a0_4, .int .i64 a0_5] 25 rfl rfl gr ?_; clear BX; intro gb773 w12 GE773 BX) | ((with_reducible refine gate_callee (f := 60) rfl ?_); refine goesL_ (some 6) rfl rfl Tryd.func60 kr rfl #[.agg #[.int .i64 a0_0, .int .i64 a0_1, .int .i64 a0_2, .string a0_3, .bool a0_4, .int .i64 a0_5]] rfl ga ?_; (with_reducible refine (whittleref2_Of.calls k a0_0 a0_1 a0_2 a0_3 a0_4 a0_5 t774 t775 t776 t777 t778 t779 _ A2.out).mono ?_); rintro e w14 ⟨rfl, hb⟩; refine ⟨_, rfl, ?_⟩; replace BX := bx_call hb; clear hb) | ((with_reducible refine gate_callee (f := 62) rfl ?_); refine goesL_ (some 18) rfl rfl Tryd.func62 kr rfl #[.bool t778] rfl ga ?_; (with_reducible refine (whittleref2_truth.calls t778 t781 _ A11.out).mono ?_); rintro e w' ⟨rfl, ⟨nd, rfl⟩⟩; refine ⟨_, rfl, ?_⟩))
   go_ret
   exact ⟨er2, bx_bl⟩
  ·rw [if_neg c10] at H
   have c10b0 : (t774 == 3) = false := beq_eq_false_iff_ne.mpr c10
   have c10b1 : (t774 != 3) = true := bne_iff_ne.mpr c10
   by_cases c16 : t774 = 4
   ·rw [if_pos c16] at H
    have c16b0 : (t774 == 4) = true := beq_iff_eq.mpr c16
    have c16b1 : (t774 != 4) = false := bne_eq_false_iff_eq.mpr c16
    clear c16
    replace H := Option.bind_eq_some_iff.mp H
    obtain ⟨t782, A170, H⟩ := H
    replace H : (if 0 ≤ t779 then (if t779 < (t782.length : Int) then (some (rdOf ByteArray.empty t782 t779)) else (none)) else (none)) = some r := H
    have A17 := Aside0.mk A170
    clear A170
    by_cases c18 : 0 ≤ t779
    ·rw [if_pos c18] at H
     have c18b0 : decide (0 ≤ t779) = true := decide_eq_true c18
     clear c18
     by_cases c19 : t779 < (t782.length : Int)
     ·rw [if_pos c19] at H
      have c19b0 : decide (t779 < (t782.length : Int)) = true := decide_eq_true c19
      clear c19
      obtain rfl := Option.some.inj H
      go_enter Tryd.func30, Tryd.ntmps30
      go_wp2_with (first | ((with_reducible refine gate_dst (N := 1) rfl ?_); refine bxe 1 #[.int .i64 a0_0, .int .i64 a0_1, .int .i64 a0_2, .string a0_3, .bool a0_4, .int .i64 a0_5] 25 rfl rfl gr ?_; clear BX; intro gb773 w20 GE773 BX) | ((with_reducible refine gate_callee (f := 60) rfl ?_); refine goesL_ (some 6) rfl rfl Tryd.func60 kr rfl #[.agg #[.int .i64 a0_0, .int .i64 a0_1, .int .i64 a0_2, .string a0_3, .bool a0_4, .int .i64 a0_5]] rfl ga ?_; (with_reducible refine (whittleref2_Of.calls k a0_0 a0_1 a0_2 a0_3 a0_4 a0_5 t774 t775 t776 t777 t778 t779 _ A2.out).mono ?_); rintro e w22 ⟨rfl, hb⟩; refine ⟨_, rfl, ?_⟩; replace BX := bx_call hb; clear hb) | ((with_reducible refine gate_callee (f := 58) rfl ?_); refine goesL_ (some 21) rfl rfl Tryd.func58 kr rfl #[] rfl ga ?_; (with_reducible refine (whittleref2_names.calls  t782 _ A17.out).mono ?_); rintro e w24 ⟨v783, rfl, ho0, hb⟩; refine ⟨_, rfl, ?_⟩; have n1_ := Aside0.mk (Kd.R_lower ho0 (below_size bx_bl)); replace BX := bx_call hb; have HO784 := n1_; clear n1_; clear hb; (try clear ho0); obtain ⟨Ao26, co26, eo26⟩ := Kd.R_slice HO784.out; subst eo26; have p785 : 0 ≤ (t779 : Int) := of_decide_eq_true (by first | (with_reducible assumption) | assumption); have q785 : t779 < (t782.length : Int) := of_decide_eq_true (by first | (with_reducible assumption) | assumption); obtain ⟨ad785, e785, hx785_0⟩ := Kd.at_string (Kd.R_reads' HO784.out).2.2 t779 p785 q785; cases e785; replace p785 := eq_true p785; replace q785 := eq_true q785))
      go_ret
      exact ⟨er2, bx_bl⟩
     ·rw [if_neg c19] at H
      exact absurd H (by simp)
    ·rw [if_neg c18] at H
     exact absurd H (by simp)
   ·rw [if_neg c16] at H
    have c16b0 : (t774 == 4) = false := beq_eq_false_iff_ne.mpr c16
    have c16b1 : (t774 != 4) = true := bne_iff_ne.mpr c16
    by_cases c27 : t774 = 2
    ·rw [if_pos c27] at H
     have c27b0 : (t774 == 2) = true := beq_iff_eq.mpr c27
     have c27b1 : (t774 != 2) = false := bne_eq_false_iff_eq.mpr c27
     clear c27
     replace H := Option.bind_eq_some_iff.mp H
     obtain ⟨⟨t786, t787, t788, t789, t790, t791⟩, A280, H⟩ := H
     replace H : (if (t786 == t774 && ((t787 == t775 && (t788 == t776)) && (t789.toList == t777.toList && (t790 == t778 && (t791 == t779))))) = true then (if 0 < (t777.size : Int) then (if (bt t777 0) = 61 then (if 1 + t777.size ≤ 9223372036854775807 then (some ((⟨#[39]⟩ : ByteArray) ++ t777)) else (none)) else (some t777)) else (none)) else (if 1 + t777.size ≤ 9223372036854775807 then (some ((⟨#[39]⟩ : ByteArray) ++ t777)) else (none))) = some r := H
     have A28 := Aside0.mk A280
     clear A280
     by_cases c29 : (t786 == t774 && ((t787 == t775 && (t788 == t776)) && (t789.toList == t777.toList && (t790 == t778 && (t791 == t779))))) = true
     ·rw [if_pos c29] at H
      have c29b0 : (t786 == t774 && ((t787 == t775 && (t788 == t776)) && (t789.toList == t777.toList && (t790 == t778 && (t791 == t779))))) = true := c29
      (try (have c29b1 : decide (t786 = t774 && ((t787 == t775 && (t788 == t776)) && (t789.toList == t777.toList && (t790 == t778 && (t791 == t779))))) = true := by simpa using c29))
      (try (have c29b2 : (t786 == t774 && ((t787 == t775 && (t788 == t776)) && (t789.toList == t777.toList && (t790 == t778 && (t791 == t779))))) = true := by simpa using c29))
      clear c29
      by_cases c30 : 0 < (t777.size : Int)
      ·rw [if_pos c30] at H
       have c30b0 : decide (0 < (t777.size : Int)) = true := decide_eq_true c30
       have c30b1 : decide (0 < t777.size) = true := decide_eq_true (by omega)
       clear c30
       by_cases c32 : (bt t777 0) = 61
       ·rw [if_pos c32] at H
        have c32b0 : ((bt t777 0) == 61) = true := beq_iff_eq.mpr c32
        have c32b1 : ((bt t777 0) != 61) = false := bne_eq_false_iff_eq.mpr c32
        clear c32
        by_cases c33 : 1 + t777.size ≤ 9223372036854775807
        ·rw [if_pos c33] at H
         have c33b0 := eq_true c33
         have c33b1 : decide (1 + t777.size ≤ 9223372036854775807) = true := decide_eq_true c33
         try have c33b2 : (9223372036854775807 < 1 + t777.size) = False := eq_false (Nat.not_lt.2 c33)
         obtain rfl := Option.some.inj H
         go_enter Tryd.func30, Tryd.ntmps30
         go_wp2_with (first | ((with_reducible refine gate_dst (N := 1) rfl ?_); refine bxe 1 #[.int .i64 a0_0, .int .i64 a0_1, .int .i64 a0_2, .string a0_3, .bool a0_4, .int .i64 a0_5] 25 rfl rfl gr ?_; clear BX; intro gb773 w34 GE773 BX) | ((with_reducible refine gate_callee (f := 60) rfl ?_); refine goesL_ (some 6) rfl rfl Tryd.func60 kr rfl #[.agg #[.int .i64 a0_0, .int .i64 a0_1, .int .i64 a0_2, .string a0_3, .bool a0_4, .int .i64 a0_5]] rfl ga ?_; (with_reducible refine (whittleref2_Of.calls k a0_0 a0_1 a0_2 a0_3 a0_4 a0_5 t774 t775 t776 t777 t778 t779 _ A2.out).mono ?_); rintro e w36 ⟨rfl, hb⟩; refine ⟨_, rfl, ?_⟩; replace BX := bx_call hb; clear hb) | ((with_reducible refine gate_callee (f := 28) rfl ?_); refine goesL_ (some 31) rfl rfl Tryd.func28 kr rfl #[.string t777] rfl ga ?_; (with_reducible refine (whittleref2_Read.calls k t777 t786 t787 t788 t789 t790 t791 _ A28.out).mono ?_); rintro e w38 ⟨rfl, hb⟩; refine ⟨_, rfl, ?_⟩; replace BX := bx_call hb; clear hb) | ((with_reducible refine gate_dst (N := 4) rfl ?_); refine bxe 4 #[.int .i64 0, .int .i64 0, .int .i64 0, .string (⟨#[]⟩ : ByteArray), .bool false, .int .i64 0] 25 rfl rfl gr ?_; clear BX; intro gb792 w39 GE792 BX; have p31 : 0 ≤ (0 : Int) := (by omega); have q31 : 0 < t777.size := (by have : (0 : Int) < (t777.size : Int) := of_decide_eq_true (by first | (with_reducible assumption) | assumption); omega); have hx31 : ∀ h : 0 < t777.size, ((t777[0]'h).toNat : Int) = bt t777 0 := bt_at t777 0; clear p31; have qi31 : (0 < (t777.size : Int)) = True := eq_true (of_decide_eq_true (by first | (with_reducible assumption) | assumption)); replace q31 := eq_true q31))
         go_ret
         exact ⟨er2, bx_bl⟩
        ·rw [if_neg c33] at H
         exact absurd H (by simp)
       ·rw [if_neg c32] at H
        have c32b0 : ((bt t777 0) == 61) = false := beq_eq_false_iff_ne.mpr c32
        have c32b1 : ((bt t777 0) != 61) = true := bne_iff_ne.mpr c32
        obtain rfl := Option.some.inj H
        go_enter Tryd.func30, Tryd.ntmps30
        go_wp2_with (first | ((with_reducible refine gate_dst (N := 1) rfl ?_); refine bxe 1 #[.int .i64 a0_0, .int .i64 a0_1, .int .i64 a0_2, .string a0_3, .bool a0_4, .int .i64 a0_5] 25 rfl rfl gr ?_; clear BX; intro gb773 w43 GE773 BX) | ((with_reducible refine gate_callee (f := 60) rfl ?_); refine goesL_ (some 6) rfl rfl Tryd.func60 kr rfl #[.agg #[.int .i64 a0_0, .int .i64 a0_1, .int .i64 a0_2, .string a0_3, .bool a0_4, .int .i64 a0_5]] rfl ga ?_; (with_reducible refine (whittleref2_Of.calls k a0_0 a0_1 a0_2 a0_3 a0_4 a0_5 t774 t775 t776 t777 t778 t779 _ A2.out).mono ?_); rintro e w45 ⟨rfl, hb⟩; refine ⟨_, rfl, ?_⟩; replace BX := bx_call hb; clear hb) | ((with_reducible refine gate_callee (f := 28) rfl ?_); refine goesL_ (some 31) rfl rfl Tryd.func28 kr rfl #[.string t777] rfl ga ?_; (with_reducible refine (whittleref2_Read.calls k t777 t786 t787 t788 t789 t790 t791 _ A28.out).mono ?_); rintro e w47 ⟨rfl, hb⟩; refine ⟨_, rfl, ?_⟩; replace BX := bx_call hb; clear hb) | ((with_reducible refine gate_dst (N := 4) rfl ?_); refine bxe 4 #[.int .i64 0, .int .i64 0, .int .i64 0, .string (⟨#[]⟩ : ByteArray), .bool false, .int .i64 0] 25 rfl rfl gr ?_; clear BX; intro gb792 w48 GE792 BX; have p31 : 0 ≤ (0 : Int) := (by omega); have q31 : 0 < t777.size := (by have : (0 : Int) < (t777.size : Int) := of_decide_eq_true (by first | (with_reducible assumption) | assumption); omega); have hx31 : ∀ h : 0 < t777.size, ((t777[0]'h).toNat : Int) = bt t777 0 := bt_at t777 0; clear p31; have qi31 : (0 < (t777.size : Int)) = True := eq_true (of_decide_eq_true (by first | (with_reducible assumption) | assumption)); replace q31 := eq_true q31))
        go_ret
        exact ⟨er2, bx_bl⟩
      ·rw [if_neg c30] at H
       exact absurd H (by simp)
     ·rw [if_neg c29] at H
      have c29b0 : (t786 == t774 && ((t787 == t775 && (t788 == t776)) && (t789.toList == t777.toList && (t790 == t778 && (t791 == t779))))) = false := by simpa using c29
      (try (have c29b1 : decide (t786 = t774 && ((t787 == t775 && (t788 == t776)) && (t789.toList == t777.toList && (t790 == t778 && (t791 == t779))))) = false := by simpa using c29))
      (try (have c29b2 : (t786 == t774 && ((t787 == t775 && (t788 == t776)) && (t789.toList == t777.toList && (t790 == t778 && (t791 == t779))))) = false := by simpa using c29))
      (try (have c29b3 : ¬ (t786 = t774 && ((t787 == t775 && (t788 == t776)) && (t789.toList == t777.toList && (t790 == t778 && (t791 == t779))))) := by simpa using c29))
      clear c29
      by_cases c52 : 1 + t777.size ≤ 9223372036854775807
      ·rw [if_pos c52] at H
       have c52b0 := eq_true c52
       have c52b1 : decide (1 + t777.size ≤ 9223372036854775807) = true := decide_eq_true c52
       try have c52b2 : (9223372036854775807 < 1 + t777.size) = False := eq_false (Nat.not_lt.2 c52)
       obtain rfl := Option.some.inj H
       go_enter Tryd.func30, Tryd.ntmps30
       go_wp2_with (first | ((with_reducible refine gate_dst (N := 1) rfl ?_); refine bxe 1 #[.int .i64 a0_0, .int .i64 a0_1, .int .i64 a0_2, .string a0_3, .bool a0_4, .int .i64 a0_5] 25 rfl rfl gr ?_; clear BX; intro gb773 w53 GE773 BX) | ((with_reducible refine gate_callee (f := 60) rfl ?_); refine goesL_ (some 6) rfl rfl Tryd.func60 kr rfl #[.agg #[.int .i64 a0_0, .int .i64 a0_1, .int .i64 a0_2, .string a0_3, .bool a0_4, .int .i64 a0_5]] rfl ga ?_; (with_reducible refine (whittleref2_Of.calls k a0_0 a0_1 a0_2 a0_3 a0_4 a0_5 t774 t775 t776 t777 t778 t779 _ A2.out).mono ?_); rintro e w55 ⟨rfl, hb⟩; refine ⟨_, rfl, ?_⟩; replace BX := bx_call hb; clear hb) | ((with_reducible refine gate_callee (f := 28) rfl ?_); refine goesL_ (some 31) rfl rfl Tryd.func28 kr rfl #[.string t777] rfl ga ?_; (with_reducible refine (whittleref2_Read.calls k t777 t786 t787 t788 t789 t790 t791 _ A28.out).mono ?_); rintro e w57 ⟨rfl, hb⟩; refine ⟨_, rfl, ?_⟩; replace BX := bx_call hb; clear hb) | ((with_reducible refine gate_dst (N := 4) rfl ?_); refine bxe 4 #[.int .i64 0, .int .i64 0, .int .i64 0, .string (⟨#[]⟩ : ByteArray), .bool false, .int .i64 0] 25 rfl rfl gr ?_; clear BX; intro gb792 w58 GE792 BX))
       go_ret
       exact ⟨er2, bx_bl⟩
      ·rw [if_neg c52] at H
       exact absurd H (by simp)
    ·rw [if_neg c27] at H
     have c27b0 : (t774 == 2) = false := beq_eq_false_iff_ne.mpr c27
     have c27b1 : (t774 != 2) = true := bne_iff_ne.mpr c27
     obtain rfl := Option.some.inj H
     go_enter Tryd.func30, Tryd.ntmps30
     go_wp2_with (first | ((with_reducible refine gate_dst (N := 1) rfl ?_); refine bxe 1 #[.int .i64 a0_0, .int .i64 a0_1, .int .i64 a0_2, .string a0_3, .bool a0_4, .int .i64 a0_5] 25 rfl rfl gr ?_; clear BX; intro gb773 w62 GE773 BX) | ((with_reducible refine gate_callee (f := 60) rfl ?_); refine goesL_ (some 6) rfl rfl Tryd.func60 kr rfl #[.agg #[.int .i64 a0_0, .int .i64 a0_1, .int .i64 a0_2, .string a0_3, .bool a0_4, .int .i64 a0_5]] rfl ga ?_; (with_reducible refine (whittleref2_Of.calls k a0_0 a0_1 a0_2 a0_3 a0_4 a0_5 t774 t775 t776 t777 t778 t779 _ A2.out).mono ?_); rintro e w64 ⟨rfl, hb⟩; refine ⟨_, rfl, ?_⟩; replace BX := bx_call hb; clear hb))
     go_ret
     exact ⟨er2, bx_bl⟩
end
end Go.Proofs.YtmakkdlkgfgaoaaDoor.F
