-- Laid by program (wip/tools/gen.sh of this repo) out of the translation; Lean checks it.
import Derived.Test.YtlcjfabbnclalaaDoorF0
import Derived.Test.YtlcjfabbnclalaaDoorF2
import Derived.Test.YtlcjfabbnclalaaDoorF8
namespace Go.Proofs.YtlcjfabbnclalaaDoor.F
open Go.RowKit Go.Proofs.YtlcjfabbnclalaaDoorW.PrintWords Go.Proofs.YtlcjfabbnclalaaDoorW.PrintLast Go.Proofs.YtlcjfabbnclalaaDoorW.PrintMore
attribute [local go_sem] max2_int min2_int max_two min_two max_three min_three max_four min_four   -- for this text's walks alone
set_option linter.unusedVariables false
set_option linter.unusedSimpArgs false

/-! ### whittleref1_digits: function 67 -/
def whittleref1_digits.l0 : Nat → Int → ByteArray → Option (ByteArray)
  | 0, _, _ => none
  | k + 1, x0, x3 => (some (([(IntKind.u64.wrap (48 + (Int.tmod x0 10))) % 256] : List Int) : List Int)).bind fun y218 => (if (strOfNums y218).size + x3.size ≤ 9223372036854775807 then (if (IntKind.u64.wrap (Int.tdiv x0 10)) = 0 then (some ((strOfNums y218) ++ x3)) else (whittleref1_digits.l0 k (IntKind.u64.wrap (Int.tdiv x0 10)) ((strOfNums y218) ++ x3))) else (none))
def whittleref1_digits.f (k : Nat) (a0 : Int) : Option (ByteArray) := whittleref1_digits.l0 k a0 (⟨#[]⟩ : ByteArray)
theorem whittleref1_digits.mono_l : ∀ k, (∀ y0 y1, LeO (whittleref1_digits.l0 k y0 y1) (whittleref1_digits.l0 (k + 1) y0 y1))
  | 0 => fun _ _ r h => by simp [whittleref1_digits.l0] at h
  | k + 1 => by
    have ih0 := whittleref1_digits.mono_l k
    · intro y0 y1
      unfold whittleref1_digits.l0
      repeat' first
      | (with_reducible exact ih0 _ _)
      | (with_reducible exact LeO.refl _)
      | (with_reducible exact LeO.none _)
      | (with_reducible refine LeO.ite ?_ ?_)
      | (with_reducible refine LeO.bind ?_ (fun _ => ?_))
      | exact ih0 _ _
      | exact LeO.none _
      | refine LeO.ite ?_ ?_
      | refine LeO.bind ?_ (fun _ => ?_)
theorem whittleref1_digits.mono : ∀ a0 k, LeO (whittleref1_digits.f k a0) (whittleref1_digits.f (k + 1) a0) := by
  intro a0 k
  have ih0 := whittleref1_digits.mono_l k
  unfold whittleref1_digits.f
  repeat' first
      | (with_reducible exact ih0 _ _)
      | (with_reducible exact LeO.refl _)
      | (with_reducible exact LeO.none _)
      | (with_reducible refine LeO.ite ?_ ?_)
      | (with_reducible refine LeO.bind ?_ (fun _ => ?_))
      | exact ih0 _ _
      | exact LeO.none _
      | refine LeO.ite ?_ ?_
      | refine LeO.bind ?_ (fun _ => ?_)
set_option maxHeartbeats 8000000 in
set_option maxRecDepth 100000 in
theorem whittleref1_digits.calls (k : Nat) (a0 : Int) (r : ByteArray) (w : World) (h : whittleref1_digits.f k a0 = some r) :
    Calls Tryd.prog 67 #[.int .u64 a0] w fun e w' => e = .returned (.string r) ∧ Below w.heap.size w w' := by
  have HB := Aside0.mk (Below.refl w.heap.size w)
  have H : (whittleref1_digits.l0 k a0 (⟨#[]⟩ : ByteArray)) = some r := h
  clear h
  have H' := Aside0.mk H
  clear H
  go_enter Tryd.func67, Tryd.ntmps67
  go_wp2
  go_loopg [0, 3] k (fun kq v0 v3 w' => ∃ (x0_1 : Int) (x3_1 : ByteArray), v0 = .int .u64 x0_1 ∧ v3 = .string x3_1 ∧ Aside0 (whittleref1_digits.l0 kq x0_1 x3_1 = some r) ∧ Aside0 (kq ≤ k) ∧ Aside0 (Below w.heap.size w w'))
  case atStart => exact ⟨(a0), ((⟨#[]⟩ : ByteArray)), (by first | rfl | (simp; done) | (simp [*]; done) | (simp [bne_nil]; done)), (by first | rfl | (simp; done) | (simp [*]; done) | (simp [bne_nil]; done)), H', ⟨Nat.le_refl _⟩, ⟨by repeat (first | (with_reducible first | exact HB.out | apply below_alloc | apply pw_below_drewN | apply below_drew1) | exact HB.out)⟩⟩
  case round =>
    clear H'
    obtain ⟨x0_1, x3_1, rfl, rfl, HA, HK1, HB⟩ := hrel
    cases gk with
    | zero => exact absurd HA.out (by simp [whittleref1_digits.l0])
    | succ k1 =>
      have H := HA.out
      clear HA
      simp only [whittleref1_digits.l0] at H
      obtain ⟨y218, hy218⟩ : ∃ y_ : List Int, y_ = (([(IntKind.u64.wrap (48 + (Int.tmod x0_1 10))) % 256] : List Int)) := ⟨_, rfl⟩
      replace H : (if (strOfNums y218).size + x3_1.size ≤ 9223372036854775807 then (if (IntKind.u64.wrap (Int.tdiv x0_1 10)) = 0 then (some ((strOfNums y218) ++ x3_1)) else (whittleref1_digits.l0 k1 (IntKind.u64.wrap (Int.tdiv x0_1 10)) ((strOfNums y218) ++ x3_1))) else (none)) = some r := by first | (rw [hy218]; with_reducible exact H) | (have H2_ := (Option.bind_some _ _).symm.trans H; rw [hy218]; with_reducible exact H2_) | (have H2_ := (Option.bind_some _ _).symm.trans H; with_reducible exact H2_) | with_reducible exact H | (rw [hy218]; exact H) | exact H
      have Ny218 := Aside0.mk hy218
      clear hy218
      by_cases c2 : (strOfNums y218).size + x3_1.size ≤ 9223372036854775807
      · rw [if_pos c2] at H
        have c2b0 := eq_true c2
        have c2b1 : decide ((strOfNums y218).size + x3_1.size ≤ 9223372036854775807) = true := decide_eq_true c2
        try have c2b2 : (9223372036854775807 < (strOfNums y218).size + x3_1.size) = False := eq_false (Nat.not_lt.2 c2)
        by_cases c3 : (IntKind.u64.wrap (Int.tdiv x0_1 10)) = 0
        · rw [if_pos c3] at H
          have c3b0 : ((IntKind.u64.wrap (Int.tdiv x0_1 10)) == 0) = true := beq_iff_eq.mpr c3
          have c3b1 : ((IntKind.u64.wrap (Int.tdiv x0_1 10)) != 0) = false := bne_eq_false_iff_eq.mpr c3
          clear c3
          obtain rfl := Option.some.inj H
          go_wp2_with (first | ((with_reducible refine gate_dst (N := 8) rfl ?_); refine Kd.R_lit (Kd.int .u8) _ 5 ?hg (N := 8) ?hd (xs := ([(IntKind.u64.wrap (48 + (Int.tmod x0_1 10))) % 256] : List Int)) (inner := [.int .u8 ((IntKind.u64.wrap (48 + (Int.tmod x0_1 10))) % 256)]) (ok := fun _ => True) (okp := fun _ => True) ?hr ?hp (fun _ hk => hk) trivial (Below.refl _ _) (Nat.le_refl _) (by simp) ?_; (case hd => rfl); (case hg => rfl); (case hr => first | (go_simp; done) | (go_simp; rfl)); (case hp => exact (Reps.one (show Kd.M (Kd.int .u8) _ _ _ ((IntKind.u64.wrap (48 + (Int.tmod x0_1 10))) % 256) [.int .u8 ((IntKind.u64.wrap (48 + (Int.tmod x0_1 10))) % 256)] from rfl) (Reps.none _ _))); intro v219 w4 ho5 hb hg_ hnew_; clear hg_ hnew_; (first | rw [← Ny218.out] at ho5 | (simp only [Int.reduceToNat] at ho5; rw [← Ny218.out] at ho5)); have n0_ := Aside0.mk (Kd.R_lower ho5 (below_size (by repeat (first | (with_reducible first | exact HB.out | apply below_alloc | apply pw_below_drewN | apply below_drew1) | exact HB.out)))); have n1_ := Aside0.mk (below_step (by repeat (first | (with_reducible first | exact HB.out | apply below_alloc | apply pw_below_drewN | apply below_drew1) | exact HB.out)) hb); clear HB; have HO220 := n0_; have HB := n1_; clear n0_ n1_; clear hb ho5; have hcv6 := own_string (P := Tryd.prog) Tryd.underlying72 Tryd.underlying5 Tryd.underlying9 (Kd.own_of_R HO220.out)))
          go_ret
          exact ⟨by first | rfl | (simp [errW_none, errW_some] <;> rfl) | (simp [*, errW_none, errW_some] <;> rfl), by repeat (first | (with_reducible first | exact HB.out | apply below_alloc | apply pw_below_drewN | apply below_drew1) | exact HB.out)⟩
        · rw [if_neg c3] at H
          have c3b0 : ((IntKind.u64.wrap (Int.tdiv x0_1 10)) == 0) = false := beq_eq_false_iff_ne.mpr c3
          have c3b1 : ((IntKind.u64.wrap (Int.tdiv x0_1 10)) != 0) = true := bne_iff_ne.mpr c3
          have H' := Aside0.mk H
          clear H
          go_wp2_with (first | ((with_reducible refine gate_dst (N := 8) rfl ?_); refine Kd.R_lit (Kd.int .u8) _ 5 ?hg (N := 8) ?hd (xs := ([(IntKind.u64.wrap (48 + (Int.tmod x0_1 10))) % 256] : List Int)) (inner := [.int .u8 ((IntKind.u64.wrap (48 + (Int.tmod x0_1 10))) % 256)]) (ok := fun _ => True) (okp := fun _ => True) ?hr ?hp (fun _ hk => hk) trivial (Below.refl _ _) (Nat.le_refl _) (by simp) ?_; (case hd => rfl); (case hg => rfl); (case hr => first | (go_simp; done) | (go_simp; rfl)); (case hp => exact (Reps.one (show Kd.M (Kd.int .u8) _ _ _ ((IntKind.u64.wrap (48 + (Int.tmod x0_1 10))) % 256) [.int .u8 ((IntKind.u64.wrap (48 + (Int.tmod x0_1 10))) % 256)] from rfl) (Reps.none _ _))); intro v219 w7 ho8 hb hg_ hnew_; clear hg_ hnew_; (first | rw [← Ny218.out] at ho8 | (simp only [Int.reduceToNat] at ho8; rw [← Ny218.out] at ho8)); have n0_ := Aside0.mk (Kd.R_lower ho8 (below_size (by repeat (first | (with_reducible first | exact HB.out | apply below_alloc | apply pw_below_drewN | apply below_drew1) | exact HB.out)))); have n1_ := Aside0.mk (below_step (by repeat (first | (with_reducible first | exact HB.out | apply below_alloc | apply pw_below_drewN | apply below_drew1) | exact HB.out)) hb); clear HB; have HO220 := n0_; have HB := n1_; clear n0_ n1_; clear hb ho8; have hcv9 := own_string (P := Tryd.prog) Tryd.underlying72 Tryd.underlying5 Tryd.underlying9 (Kd.own_of_R HO220.out)))
          go_roundg k1
          case measure => have := HK1.out; omega
          case rel => exact ⟨(IntKind.u64.wrap (Int.tdiv x0_1 10)), ((strOfNums y218) ++ x3_1), (by first | rfl | (simp; done) | (simp [*]; done) | (simp [bne_nil]; done)), (by first | rfl | (simp; done) | (simp [*]; done) | (simp [bne_nil]; done)), H', ⟨by have := HK1.out; omega⟩, ⟨by repeat (first | (with_reducible first | exact HB.out | apply below_alloc | apply pw_below_drewN | apply below_drew1) | exact HB.out)⟩⟩
      · rw [if_neg c2] at H
        exact absurd H (by simp)

/-! ### whittleref1_Text: function 28 -/
mutual
def whittleref1_Text.j0 : Nat → ByteArray → Int → Int → Option (ByteArray)
  | 0, _, _, _ => none
  | k + 1, x3, x222000, x222001 => (whittleref1_far.f x222000).bind fun t224 => (if (IntKind.u64.wrap (x222001)) = 0 then (none) else (if ((1000000 : Int) % (IntKind.u64.wrap (x222001))) = 0 then ((whittleref1_digits.f k (IntKind.u64.wrap (Int.tdiv t224 (IntKind.u64.wrap (x222001))))).bind fun t227 => (if x3.size + t227.size ≤ 9223372036854775807 then (if (Int.tmod t224 (IntKind.u64.wrap (x222001))) = 0 then (some (x3 ++ t227)) else (if (x3 ++ t227).size + 1 ≤ 9223372036854775807 then (whittleref1_Text.l0 k (IntKind.u64.wrap (x222001)) ((x3 ++ t227) ++ (⟨#[46]⟩ : ByteArray)) (Int.tmod t224 (IntKind.u64.wrap (x222001)))) else (none))) else (none))) else ((whittleref1_digits.f k t224).bind fun t225 => (if x3.size + t225.size ≤ 9223372036854775807 then (if (x3 ++ t225).size + 1 ≤ 9223372036854775807 then ((whittleref1_digits.f k (IntKind.u64.wrap (x222001))).bind fun t226 => (if ((x3 ++ t225) ++ (⟨#[47]⟩ : ByteArray)).size + t226.size ≤ 9223372036854775807 then (some (((x3 ++ t225) ++ (⟨#[47]⟩ : ByteArray)) ++ t226)) else (none))) else (none)) else (none)))))
def whittleref1_Text.l0 : Nat → Int → ByteArray → Int → Option (ByteArray)
  | 0, _, _, _ => none
  | k + 1, x5, x6, x7 => if x7 = 0 then (some x6) else (if x5 = 0 then (none) else ((whittleref1_digits.f k (IntKind.u64.wrap (Int.tdiv (IntKind.u64.wrap (x7 * 10)) x5))).bind fun t228 => (if x6.size + t228.size ≤ 9223372036854775807 then (whittleref1_Text.l0 k x5 (x6 ++ t228) (Int.tmod (IntKind.u64.wrap (x7 * 10)) x5)) else (none))))
end
def whittleref1_Text.f (k : Nat) (a0_0 : Int) (a0_1 : Int) : Option (ByteArray) := (whittleref1_Of.f k a0_0 a0_1).bind fun bt222 => (if bt222.1 < 0 then (whittleref1_Text.j0 k (⟨#[45]⟩ : ByteArray) bt222.1 bt222.2) else (whittleref1_Text.j0 k (⟨#[]⟩ : ByteArray) bt222.1 bt222.2))
theorem whittleref1_Text.mono_l : ∀ k, (∀ y0 y1 y2, LeO (whittleref1_Text.j0 k y0 y1 y2) (whittleref1_Text.j0 (k + 1) y0 y1 y2)) ∧ (∀ y0 y1 y2, LeO (whittleref1_Text.l0 k y0 y1 y2) (whittleref1_Text.l0 (k + 1) y0 y1 y2))
  | 0 => ⟨fun _ _ _ r h => by simp [whittleref1_Text.j0] at h, fun _ _ _ r h => by simp [whittleref1_Text.l0] at h⟩
  | k + 1 => by
    obtain ⟨ih0, ih1⟩ := whittleref1_Text.mono_l k
    refine ⟨?_, ?_⟩
    · intro y0 y1 y2
      unfold whittleref1_Text.j0
      repeat' first
      | (with_reducible exact ih0 _ _ _)
      | (with_reducible exact ih1 _ _ _)
      | (with_reducible exact whittleref1_Of.mono _ _ _)
      | (with_reducible exact whittleref1_digits.mono _ _)
      | (with_reducible exact LeO.refl _)
      | (with_reducible exact LeO.none _)
      | (with_reducible refine LeO.ite ?_ ?_)
      | (with_reducible refine LeO.bind ?_ (fun _ => ?_))
      | exact ih0 _ _ _
      | exact ih1 _ _ _
      | exact whittleref1_Of.mono _ _ _
      | exact whittleref1_digits.mono _ _
      | exact LeO.none _
      | refine LeO.ite ?_ ?_
      | refine LeO.bind ?_ (fun _ => ?_)
    · intro y0 y1 y2
      unfold whittleref1_Text.l0
      repeat' first
      | (with_reducible exact ih0 _ _ _)
      | (with_reducible exact ih1 _ _ _)
      | (with_reducible exact whittleref1_Of.mono _ _ _)
      | (with_reducible exact whittleref1_digits.mono _ _)
      | (with_reducible exact LeO.refl _)
      | (with_reducible exact LeO.none _)
      | (with_reducible refine LeO.ite ?_ ?_)
      | (with_reducible refine LeO.bind ?_ (fun _ => ?_))
      | exact ih0 _ _ _
      | exact ih1 _ _ _
      | exact whittleref1_Of.mono _ _ _
      | exact whittleref1_digits.mono _ _
      | exact LeO.none _
      | refine LeO.ite ?_ ?_
      | refine LeO.bind ?_ (fun _ => ?_)
theorem whittleref1_Text.mono : ∀ a0 a1 k, LeO (whittleref1_Text.f k a0 a1) (whittleref1_Text.f (k + 1) a0 a1) := by
  intro a0 a1 k
  obtain ⟨ih0, ih1⟩ := whittleref1_Text.mono_l k
  unfold whittleref1_Text.f
  repeat' first
      | (with_reducible exact ih0 _ _ _)
      | (with_reducible exact ih1 _ _ _)
      | (with_reducible exact whittleref1_Of.mono _ _ _)
      | (with_reducible exact whittleref1_digits.mono _ _)
      | (with_reducible exact LeO.refl _)
      | (with_reducible exact LeO.none _)
      | (with_reducible refine LeO.ite ?_ ?_)
      | (with_reducible refine LeO.bind ?_ (fun _ => ?_))
      | exact ih0 _ _ _
      | exact ih1 _ _ _
      | exact whittleref1_Of.mono _ _ _
      | exact whittleref1_digits.mono _ _
      | exact LeO.none _
      | refine LeO.ite ?_ ?_
      | refine LeO.bind ?_ (fun _ => ?_)
set_option maxHeartbeats 8000000 in
set_option maxRecDepth 100000 in
theorem whittleref1_Text.calls (k : Nat) (a0_0 : Int) (a0_1 : Int) (r : ByteArray) (w : World) (h : whittleref1_Text.f k a0_0 a0_1 = some r) :
    Calls Tryd.prog 28 #[.agg #[.int .i64 a0_0, .int .i64 a0_1]] w fun e w' => e = .returned (.string r) ∧ Below w.heap.size w w' := by
  have hu23 := Tryd.underlying23
  have HB := Aside0.mk (Below.refl w.heap.size w)
  have H : ((whittleref1_Of.f k a0_0 a0_1).bind fun bt222 => (if bt222.1 < 0 then (whittleref1_Text.j0 k (⟨#[45]⟩ : ByteArray) bt222.1 bt222.2) else (whittleref1_Text.j0 k (⟨#[]⟩ : ByteArray) bt222.1 bt222.2))) = some r := h
  clear h
  replace H := Option.bind_eq_some_iff.mp H
  obtain ⟨⟨t222, t223⟩, A20, H⟩ := H
  replace H : (if t222 < 0 then (whittleref1_Text.j0 k (⟨#[45]⟩ : ByteArray) t222 t223) else (whittleref1_Text.j0 k (⟨#[]⟩ : ByteArray) t222 t223)) = some r := H
  have A2 := Aside0.mk A20
  clear A20
  have HC3 := Aside0.mk H
  clear H
  go_enter Tryd.func28, Tryd.ntmps28
  go_upto_if 12 with (first | ((with_reducible refine gate_dst (N := 1) rfl ?_); refine box_event ?hg (N := 1) ?hd (cs := #[.int .i64 a0_0, .int .i64 a0_1]) (t := 23) ?hr ?_; (case hd => rfl); (case hg => rfl); (case hr => first | (go_simp; done) | (go_simp; rfl)); intro gb221 hg w4 hbox hb; have n0_ := Aside0.mk (below_step (by repeat (first | (with_reducible first | exact HB.out | apply below_alloc | apply pw_below_drewN | apply below_drew1) | exact HB.out)) hb); have n1_ := Aside0.mk (hbox); have n2_ := Aside0.mk ((by rw [hg]; exact (below_size (by repeat (first | (with_reducible first | exact HB.out | apply below_alloc | apply pw_below_drewN | apply below_drew1) | exact HB.out))) : w.heap.size ≤ gb221)); have n3_ := Aside0.mk ((by rw [hg]; exact (below_size (by repeat (first | (with_reducible first | exact HB.out | apply below_alloc | apply pw_below_drewN | apply below_drew1) | exact HB.out))) : w.heap.size ≤ gb221)); clear HB; have HB := n0_; have BK221 := n1_; have GW221 := n2_; have GE221 := n3_; clear n0_ n1_ n2_ n3_; clear hb hbox hg; have hcz5_0 : w4.cell? ⟨gb221, 0, none⟩ = some (.int .i64 a0_0) := (blk_cell BK221.out 0).trans rfl; have hcz5_1 : w4.cell? ⟨gb221, 1, none⟩ = some (.int .i64 a0_1) := (blk_cell BK221.out 1).trans rfl; have hfz5_0 := blk_frozen BK221.out 0; have hfz5_1 := blk_frozen BK221.out 1) | ((with_reducible refine gate_callee (f := 64) rfl ?_); refine goesL_ (some 9) rfl rfl Tryd.func64 (by kernel_rfl) rfl #[.agg #[.int .i64 a0_0, .int .i64 a0_1]] rfl (by (try simp only [List.map_toArray, List.map_cons, List.map_nil]); first | done | rfl | (simp only [List.length_drop, List.length_take]; rfl)) ?_; (with_reducible refine (whittleref1_Of.calls k a0_0 a0_1 t222 t223 _ A2.out).mono ?_); rintro e w6 ⟨rfl, hb⟩; refine ⟨_, rfl, ?_⟩; have n0_ := Aside0.mk (blk_below (g := gb221) (o := .cells #[.int .i64 a0_0, .int .i64 a0_1] 23 (0, 0)) (by (with_reducible repeat (first | refine blk_drewN ?_ _ | refine blk_drew ?_ | refine blk_alloc ?_ _)); exact BK221.out) hb); have n1_ := Aside0.mk (below_step (by repeat (first | (with_reducible first | exact HB.out | apply below_alloc | apply pw_below_drewN | apply below_drew1 | refine below_set ?_ GE221.out) | exact HB.out)) hb); clear BK221; clear HB; have BK221 := n0_; have HB := n1_; clear n0_ n1_; (try clear hb); (try clear hb2); (try clear hk); (try clear hi); have hcz7_0 : w6.cell? ⟨gb221, 0, none⟩ = some (.int .i64 a0_0) := (blk_cell BK221.out 0).trans rfl; have hcz7_1 : w6.cell? ⟨gb221, 1, none⟩ = some (.int .i64 a0_1) := (blk_cell BK221.out 1).trans rfl; have hfz7_0 := blk_frozen BK221.out 0; have hfz7_1 := blk_frozen BK221.out 1))
  (try simp only [Act.put, List.setIfInBounds_toArray, List.set_cons_zero, List.set_cons_succ])
  go_cut [3] (fun v3 wc => ∃ (kq : Nat) (x3_2 : ByteArray), v3 = .string x3_2 ∧ Aside0 (whittleref1_Text.j0 kq x3_2 t222 t223 = some r) ∧ Aside0 (kq ≤ k) ∧ Aside0 (wc.heap[gb221]? = some (.cells #[.int .i64 t222, .int .i64 t223] 23 (0, 0))) ∧ Aside0 (Below w.heap.size w wc))
  case first =>
    have H := HC3.out
    clear HC3
    by_cases c8 : t222 < 0
    · rw [if_pos c8] at H
      have c8b0 : decide (t222 < 0) = true := decide_eq_true c8
      clear c8
      (first | rw [c8b0] | (simp only [i64_w, i32_w]; rw [c8b0]) | skip)
      have H' := Aside0.mk H
      clear H
      go_wp2
      go_meet
      case rel => exact ⟨_, ((⟨#[45]⟩ : ByteArray)), (by first | rfl | (simp; done) | (simp [*]; done) | (simp [bne_nil]; done)), H', ⟨by first | omega | exact Nat.le_refl _⟩, ⟨by (with_reducible repeat (first | refine blk_drewN ?_ _ | refine blk_drew ?_ | refine blk_alloc ?_ _)); refine blk_put (cs := #[.int .i64 t222, .int .i64 a0_1]) ?_ 1 _ rfl; (with_reducible repeat (first | refine blk_drewN ?_ _ | refine blk_drew ?_ | refine blk_alloc ?_ _)); refine blk_put (cs := #[.int .i64 a0_0, .int .i64 a0_1]) ?_ 0 _ rfl; (with_reducible repeat (first | refine blk_drewN ?_ _ | refine blk_drew ?_ | refine blk_alloc ?_ _)); exact BK221.out⟩, ⟨by repeat (first | (with_reducible first | exact HB.out | apply below_alloc | apply pw_below_drewN | apply below_drew1 | refine below_set ?_ GE221.out) | exact HB.out)⟩⟩
    · rw [if_neg c8] at H
      have c8b0 : decide (t222 < 0) = false := decide_eq_false c8
      clear c8
      (first | rw [c8b0] | (simp only [i64_w, i32_w]; rw [c8b0]) | skip)
      have H' := Aside0.mk H
      clear H
      go_wp2
      go_meet
      case rel => exact ⟨_, ((⟨#[]⟩ : ByteArray)), (by first | rfl | (simp; done) | (simp [*]; done) | (simp [bne_nil]; done)), H', ⟨by first | omega | exact Nat.le_refl _⟩, ⟨by (with_reducible repeat (first | refine blk_drewN ?_ _ | refine blk_drew ?_ | refine blk_alloc ?_ _)); refine blk_put (cs := #[.int .i64 t222, .int .i64 a0_1]) ?_ 1 _ rfl; (with_reducible repeat (first | refine blk_drewN ?_ _ | refine blk_drew ?_ | refine blk_alloc ?_ _)); refine blk_put (cs := #[.int .i64 a0_0, .int .i64 a0_1]) ?_ 0 _ rfl; (with_reducible repeat (first | refine blk_drewN ?_ _ | refine blk_drew ?_ | refine blk_alloc ?_ _)); exact BK221.out⟩, ⟨by repeat (first | (with_reducible first | exact HB.out | apply below_alloc | apply pw_below_drewN | apply below_drew1 | refine below_set ?_ GE221.out) | exact HB.out)⟩⟩
  case rest =>
    clear HC3
    try clear c2
    try clear p2
    try clear c6
    try clear c8
    try clear c8b0
    try clear hcz5_0
    try clear hcz5_1
    try clear hcz7_0
    try clear hcz7_1
    try clear hfz5_0
    try clear hfz5_1
    try clear hfz7_0
    try clear hfz7_1
    obtain ⟨kq, x3_2, rfl, HA, HJ2, BK221, HB⟩ := hcut
    cases kq with
    | zero => exact absurd HA.out (by simp [whittleref1_Text.j0])
    | succ kj2 =>
      have H := HA.out
      clear HA
      simp only [whittleref1_Text.j0] at H
      replace H := Option.bind_eq_some_iff.mp H
      obtain ⟨t224, A90, H⟩ := H
      replace H : (if (IntKind.u64.wrap (t223)) = 0 then (none) else (if ((1000000 : Int) % (IntKind.u64.wrap (t223))) = 0 then ((whittleref1_digits.f kj2 (IntKind.u64.wrap (Int.tdiv t224 (IntKind.u64.wrap (t223))))).bind fun t227 => (if x3_2.size + t227.size ≤ 9223372036854775807 then (if (Int.tmod t224 (IntKind.u64.wrap (t223))) = 0 then (some (x3_2 ++ t227)) else (if (x3_2 ++ t227).size + 1 ≤ 9223372036854775807 then (whittleref1_Text.l0 kj2 (IntKind.u64.wrap (t223)) ((x3_2 ++ t227) ++ (⟨#[46]⟩ : ByteArray)) (Int.tmod t224 (IntKind.u64.wrap (t223)))) else (none))) else (none))) else ((whittleref1_digits.f kj2 t224).bind fun t225 => (if x3_2.size + t225.size ≤ 9223372036854775807 then (if (x3_2 ++ t225).size + 1 ≤ 9223372036854775807 then ((whittleref1_digits.f kj2 (IntKind.u64.wrap (t223))).bind fun t226 => (if ((x3_2 ++ t225) ++ (⟨#[47]⟩ : ByteArray)).size + t226.size ≤ 9223372036854775807 then (some (((x3_2 ++ t225) ++ (⟨#[47]⟩ : ByteArray)) ++ t226)) else (none))) else (none)) else (none))))) = some r := H
      have A9 := Aside0.mk A90
      clear A90
      by_cases c10 : (IntKind.u64.wrap (t223)) = 0
      · rw [if_pos c10] at H
        exact absurd H (by simp)
      · rw [if_neg c10] at H
        have c10b0 : ((IntKind.u64.wrap (t223)) == 0) = false := beq_eq_false_iff_ne.mpr c10
        have c10b1 : ((IntKind.u64.wrap (t223)) != 0) = true := bne_iff_ne.mpr c10
        by_cases c11 : ((1000000 : Int) % (IntKind.u64.wrap (t223))) = 0
        · rw [if_pos c11] at H
          have c11b0 : (((1000000 : Int) % (IntKind.u64.wrap (t223))) == 0) = true := beq_iff_eq.mpr c11
          have c11b1 : (((1000000 : Int) % (IntKind.u64.wrap (t223))) != 0) = false := bne_eq_false_iff_eq.mpr c11
          clear c11
          replace H := Option.bind_eq_some_iff.mp H
          obtain ⟨t227, A120, H⟩ := H
          replace H : (if x3_2.size + t227.size ≤ 9223372036854775807 then (if (Int.tmod t224 (IntKind.u64.wrap (t223))) = 0 then (some (x3_2 ++ t227)) else (if (x3_2 ++ t227).size + 1 ≤ 9223372036854775807 then (whittleref1_Text.l0 kj2 (IntKind.u64.wrap (t223)) ((x3_2 ++ t227) ++ (⟨#[46]⟩ : ByteArray)) (Int.tmod t224 (IntKind.u64.wrap (t223)))) else (none))) else (none)) = some r := H
          have A12 := Aside0.mk A120
          clear A120
          by_cases c13 : x3_2.size + t227.size ≤ 9223372036854775807
          · rw [if_pos c13] at H
            have c13b0 := eq_true c13
            have c13b1 : decide (x3_2.size + t227.size ≤ 9223372036854775807) = true := decide_eq_true c13
            try have c13b2 : (9223372036854775807 < x3_2.size + t227.size) = False := eq_false (Nat.not_lt.2 c13)
            by_cases c14 : (Int.tmod t224 (IntKind.u64.wrap (t223))) = 0
            · rw [if_pos c14] at H
              have c14b0 : ((Int.tmod t224 (IntKind.u64.wrap (t223))) == 0) = true := beq_iff_eq.mpr c14
              have c14b1 : ((Int.tmod t224 (IntKind.u64.wrap (t223))) != 0) = false := bne_eq_false_iff_eq.mpr c14
              clear c14
              obtain rfl := Option.some.inj H
              have hcz15_0 : wc.cell? ⟨gb221, 0, none⟩ = some (.int .i64 t222) := (blk_cell BK221.out 0).trans rfl
              have hcz15_1 : wc.cell? ⟨gb221, 1, none⟩ = some (.int .i64 t223) := (blk_cell BK221.out 1).trans rfl
              have hfz15_0 := blk_frozen BK221.out 0
              have hfz15_1 := blk_frozen BK221.out 1
              go_wp2_with (first | ((with_reducible refine gate_callee (f := 61) rfl ?_); refine goesL_ (some 15) rfl rfl Tryd.func61 (by kernel_rfl) rfl #[.int .i64 t222] rfl (by (try simp only [List.map_toArray, List.map_cons, List.map_nil]); first | done | rfl | (simp only [List.length_drop, List.length_take]; rfl)) ?_; (with_reducible refine (whittleref1_far.calls t222 t224 _ A9.out).mono ?_); rintro e w' ⟨rfl, ⟨nd, rfl⟩⟩; refine ⟨_, rfl, ?_⟩) | ((with_reducible refine gate_callee (f := 67) rfl ?_); refine goesL_ (some 34) rfl rfl Tryd.func67 (by kernel_rfl) rfl #[.int .u64 (IntKind.u64.wrap (Int.tdiv t224 (IntKind.u64.wrap (t223))))] rfl (by (try simp only [List.map_toArray, List.map_cons, List.map_nil]); first | done | rfl | (simp only [List.length_drop, List.length_take]; rfl)) ?_; (with_reducible refine (whittleref1_digits.calls kj2 (IntKind.u64.wrap (Int.tdiv t224 (IntKind.u64.wrap (t223)))) t227 _ A12.out).mono ?_); rintro e w16 ⟨rfl, hb⟩; refine ⟨_, rfl, ?_⟩; have n0_ := Aside0.mk (blk_below (g := gb221) (o := .cells #[.int .i64 t222, .int .i64 t223] 23 (0, 0)) (by (with_reducible repeat (first | refine blk_drewN ?_ _ | refine blk_drew ?_ | refine blk_alloc ?_ _)); exact BK221.out) hb); have n1_ := Aside0.mk (below_step (by repeat (first | (with_reducible first | exact HB.out | apply below_alloc | apply pw_below_drewN | apply below_drew1 | refine below_set ?_ GE221.out) | exact HB.out)) hb); clear BK221; clear HB; have BK221 := n0_; have HB := n1_; clear n0_ n1_; (try clear hb); (try clear hb2); (try clear hk); (try clear hi)))
              go_ret
              exact ⟨by first | rfl | (simp [errW_none, errW_some] <;> rfl) | (simp [*, errW_none, errW_some] <;> rfl), by repeat (first | (with_reducible first | exact HB.out | apply below_alloc | apply pw_below_drewN | apply below_drew1 | refine below_set ?_ GE221.out) | exact HB.out)⟩
            · rw [if_neg c14] at H
              have c14b0 : ((Int.tmod t224 (IntKind.u64.wrap (t223))) == 0) = false := beq_eq_false_iff_ne.mpr c14
              have c14b1 : ((Int.tmod t224 (IntKind.u64.wrap (t223))) != 0) = true := bne_iff_ne.mpr c14
              by_cases c17 : (x3_2 ++ t227).size + 1 ≤ 9223372036854775807
              · rw [if_pos c17] at H
                have c17b0 := eq_true c17
                have c17b1 : decide ((x3_2 ++ t227).size + 1 ≤ 9223372036854775807) = true := decide_eq_true c17
                try have c17b2 : (9223372036854775807 < (x3_2 ++ t227).size + 1) = False := eq_false (Nat.not_lt.2 c17)
                have c17b3 : x3_2.size + t227.size + 1 ≤ 9223372036854775807 := by have h_ := c17; simp only [ByteArray.size_append] at h_; exact h_
                have c17b4 : (9223372036854775807 < x3_2.size + t227.size + 1) = False := eq_false (Nat.not_lt.2 c17b3)
                replace c17b3 : decide (x3_2.size + t227.size + 1 ≤ 9223372036854775807) = true := decide_eq_true c17b3
                have H' := Aside0.mk H
                clear H
                have hcz18_0 : wc.cell? ⟨gb221, 0, none⟩ = some (.int .i64 t222) := (blk_cell BK221.out 0).trans rfl
                have hcz18_1 : wc.cell? ⟨gb221, 1, none⟩ = some (.int .i64 t223) := (blk_cell BK221.out 1).trans rfl
                have hfz18_0 := blk_frozen BK221.out 0
                have hfz18_1 := blk_frozen BK221.out 1
                go_wp2_with (first | ((with_reducible refine gate_callee (f := 61) rfl ?_); refine goesL_ (some 15) rfl rfl Tryd.func61 (by kernel_rfl) rfl #[.int .i64 t222] rfl (by (try simp only [List.map_toArray, List.map_cons, List.map_nil]); first | done | rfl | (simp only [List.length_drop, List.length_take]; rfl)) ?_; (with_reducible refine (whittleref1_far.calls t222 t224 _ A9.out).mono ?_); rintro e w' ⟨rfl, ⟨nd, rfl⟩⟩; refine ⟨_, rfl, ?_⟩) | ((with_reducible refine gate_callee (f := 67) rfl ?_); refine goesL_ (some 34) rfl rfl Tryd.func67 (by kernel_rfl) rfl #[.int .u64 (IntKind.u64.wrap (Int.tdiv t224 (IntKind.u64.wrap (t223))))] rfl (by (try simp only [List.map_toArray, List.map_cons, List.map_nil]); first | done | rfl | (simp only [List.length_drop, List.length_take]; rfl)) ?_; (with_reducible refine (whittleref1_digits.calls kj2 (IntKind.u64.wrap (Int.tdiv t224 (IntKind.u64.wrap (t223)))) t227 _ A12.out).mono ?_); rintro e w19 ⟨rfl, hb⟩; refine ⟨_, rfl, ?_⟩; have n0_ := Aside0.mk (blk_below (g := gb221) (o := .cells #[.int .i64 t222, .int .i64 t223] 23 (0, 0)) (by (with_reducible repeat (first | refine blk_drewN ?_ _ | refine blk_drew ?_ | refine blk_alloc ?_ _)); exact BK221.out) hb); have n1_ := Aside0.mk (below_step (by repeat (first | (with_reducible first | exact HB.out | apply below_alloc | apply pw_below_drewN | apply below_drew1 | refine below_set ?_ GE221.out) | exact HB.out)) hb); clear BK221; clear HB; have BK221 := n0_; have HB := n1_; clear n0_ n1_; (try clear hb); (try clear hb2); (try clear hk); (try clear hi)))
                go_loopg [6, 7] kj2 (fun kq v6 v7 w' => ∃ (x6_2 : ByteArray) (x7_2 : Int), v6 = .string x6_2 ∧ v7 = .int .u64 x7_2 ∧ Aside0 (whittleref1_Text.l0 kq (IntKind.u64.wrap (t223)) x6_2 x7_2 = some r) ∧ Aside0 (kq ≤ kj2) ∧ Aside0 (w'.heap[gb221]? = some (.cells #[.int .i64 t222, .int .i64 t223] 23 (0, 0))) ∧ Aside0 (Below w.heap.size w w'))
                case atStart => exact ⟨((x3_2 ++ t227) ++ (⟨#[46]⟩ : ByteArray)), (Int.tmod t224 (IntKind.u64.wrap (t223))), (by first | rfl | (simp; done) | (simp [*]; done) | (simp [bne_nil]; done)), (by first | rfl | (simp; done) | (simp [*]; done) | (simp [bne_nil]; done)), H', ⟨Nat.le_refl _⟩, ⟨by (with_reducible repeat (first | refine blk_drewN ?_ _ | refine blk_drew ?_ | refine blk_alloc ?_ _)); exact BK221.out⟩, ⟨by repeat (first | (with_reducible first | exact HB.out | apply below_alloc | apply pw_below_drewN | apply below_drew1 | refine below_set ?_ GE221.out) | exact HB.out)⟩⟩
                case round =>
                  clear H'
                  try clear c1
                  try clear c2
                  try clear p2
                  try clear c6
                  try clear c8
                  try clear c8b0
                  try clear c10
                  try clear c10b0
                  try clear c10b1
                  try clear c11
                  try clear c11b0
                  try clear c11b1
                  try clear c13
                  try clear c13b0
                  try clear c13b1
                  try clear c13b2
                  try clear c14
                  try clear c14b0
                  try clear c14b1
                  try clear c17
                  try clear c17b0
                  try clear c17b1
                  try clear c17b2
                  try clear hcz15_0
                  try clear hcz15_1
                  try clear hcz18_0
                  try clear hcz18_1
                  try clear hcz5_0
                  try clear hcz5_1
                  try clear hcz7_0
                  try clear hcz7_1
                  try clear hfz15_0
                  try clear hfz15_1
                  try clear hfz18_0
                  try clear hfz18_1
                  try clear hfz5_0
                  try clear hfz5_1
                  try clear hfz7_0
                  try clear hfz7_1
                  try clear p2
                  obtain ⟨x6_2, x7_2, rfl, rfl, HA, HK2, BK221, HB⟩ := hrel
                  cases gk with
                  | zero => exact absurd HA.out (by simp [whittleref1_Text.l0])
                  | succ k2 =>
                    have H := HA.out
                    clear HA
                    simp only [whittleref1_Text.l0] at H
                    by_cases c20 : x7_2 = 0
                    · rw [if_pos c20] at H
                      have c20b0 : (x7_2 == 0) = true := beq_iff_eq.mpr c20
                      have c20b1 : (x7_2 != 0) = false := bne_eq_false_iff_eq.mpr c20
                      clear c20
                      obtain rfl := Option.some.inj H
                      go_wp2
                      go_ret
                      exact ⟨by first | rfl | (simp [errW_none, errW_some] <;> rfl) | (simp [*, errW_none, errW_some] <;> rfl), by repeat (first | (with_reducible first | exact HB.out | apply below_alloc | apply pw_below_drewN | apply below_drew1 | refine below_set ?_ GE221.out) | exact HB.out)⟩
                    · rw [if_neg c20] at H
                      have c20b0 : (x7_2 == 0) = false := beq_eq_false_iff_ne.mpr c20
                      have c20b1 : (x7_2 != 0) = true := bne_iff_ne.mpr c20
                      by_cases c21 : (IntKind.u64.wrap (t223)) = 0
                      · rw [if_pos c21] at H
                        exact absurd H (by simp)
                      · rw [if_neg c21] at H
                        have c21b0 : ((IntKind.u64.wrap (t223)) == 0) = false := beq_eq_false_iff_ne.mpr c21
                        have c21b1 : ((IntKind.u64.wrap (t223)) != 0) = true := bne_iff_ne.mpr c21
                        replace H := Option.bind_eq_some_iff.mp H
                        obtain ⟨t228, A220, H⟩ := H
                        replace H : (if x6_2.size + t228.size ≤ 9223372036854775807 then (whittleref1_Text.l0 k2 (IntKind.u64.wrap (t223)) (x6_2 ++ t228) (Int.tmod (IntKind.u64.wrap (x7_2 * 10)) (IntKind.u64.wrap (t223)))) else (none)) = some r := H
                        have A22 := Aside0.mk A220
                        clear A220
                        by_cases c23 : x6_2.size + t228.size ≤ 9223372036854775807
                        · rw [if_pos c23] at H
                          have c23b0 := eq_true c23
                          have c23b1 : decide (x6_2.size + t228.size ≤ 9223372036854775807) = true := decide_eq_true c23
                          try have c23b2 : (9223372036854775807 < x6_2.size + t228.size) = False := eq_false (Nat.not_lt.2 c23)
                          have H' := Aside0.mk H
                          clear H
                          go_wp2_with (first | ((with_reducible refine gate_callee (f := 67) rfl ?_); refine goesL_ (some 52) rfl rfl Tryd.func67 (by kernel_rfl) rfl #[.int .u64 (IntKind.u64.wrap (Int.tdiv (IntKind.u64.wrap (x7_2 * 10)) (IntKind.u64.wrap (t223))))] rfl (by (try simp only [List.map_toArray, List.map_cons, List.map_nil]); first | done | rfl | (simp only [List.length_drop, List.length_take]; rfl)) ?_; (with_reducible refine (whittleref1_digits.calls k2 (IntKind.u64.wrap (Int.tdiv (IntKind.u64.wrap (x7_2 * 10)) (IntKind.u64.wrap (t223)))) t228 _ A22.out).mono ?_); rintro e w24 ⟨rfl, hb⟩; refine ⟨_, rfl, ?_⟩; have n0_ := Aside0.mk (blk_below (g := gb221) (o := .cells #[.int .i64 t222, .int .i64 t223] 23 (0, 0)) (by (with_reducible repeat (first | refine blk_drewN ?_ _ | refine blk_drew ?_ | refine blk_alloc ?_ _)); exact BK221.out) hb); have n1_ := Aside0.mk (below_step (by repeat (first | (with_reducible first | exact HB.out | apply below_alloc | apply pw_below_drewN | apply below_drew1 | refine below_set ?_ GE221.out) | exact HB.out)) hb); clear BK221; clear HB; have BK221 := n0_; have HB := n1_; clear n0_ n1_; (try clear hb); (try clear hb2); (try clear hk); (try clear hi)))
                          go_roundg k2
                          case measure => have := HJ2.out; have := HK2.out; omega
                          case rel => exact ⟨(x6_2 ++ t228), (Int.tmod (IntKind.u64.wrap (x7_2 * 10)) (IntKind.u64.wrap (t223))), (by first | rfl | (simp; done) | (simp [*]; done) | (simp [bne_nil]; done)), (by first | rfl | (simp; done) | (simp [*]; done) | (simp [bne_nil]; done)), H', ⟨by have := HJ2.out; have := HK2.out; omega⟩, ⟨by (with_reducible repeat (first | refine blk_drewN ?_ _ | refine blk_drew ?_ | refine blk_alloc ?_ _)); exact BK221.out⟩, ⟨by repeat (first | (with_reducible first | exact HB.out | apply below_alloc | apply pw_below_drewN | apply below_drew1 | refine below_set ?_ GE221.out) | exact HB.out)⟩⟩
                        · rw [if_neg c23] at H
                          exact absurd H (by simp)
              · rw [if_neg c17] at H
                exact absurd H (by simp)
          · rw [if_neg c13] at H
            exact absurd H (by simp)
        · rw [if_neg c11] at H
          have c11b0 : (((1000000 : Int) % (IntKind.u64.wrap (t223))) == 0) = false := beq_eq_false_iff_ne.mpr c11
          have c11b1 : (((1000000 : Int) % (IntKind.u64.wrap (t223))) != 0) = true := bne_iff_ne.mpr c11
          replace H := Option.bind_eq_some_iff.mp H
          obtain ⟨t225, A250, H⟩ := H
          replace H : (if x3_2.size + t225.size ≤ 9223372036854775807 then (if (x3_2 ++ t225).size + 1 ≤ 9223372036854775807 then ((whittleref1_digits.f kj2 (IntKind.u64.wrap (t223))).bind fun t226 => (if ((x3_2 ++ t225) ++ (⟨#[47]⟩ : ByteArray)).size + t226.size ≤ 9223372036854775807 then (some (((x3_2 ++ t225) ++ (⟨#[47]⟩ : ByteArray)) ++ t226)) else (none))) else (none)) else (none)) = some r := H
          have A25 := Aside0.mk A250
          clear A250
          by_cases c26 : x3_2.size + t225.size ≤ 9223372036854775807
          · rw [if_pos c26] at H
            have c26b0 := eq_true c26
            have c26b1 : decide (x3_2.size + t225.size ≤ 9223372036854775807) = true := decide_eq_true c26
            try have c26b2 : (9223372036854775807 < x3_2.size + t225.size) = False := eq_false (Nat.not_lt.2 c26)
            by_cases c27 : (x3_2 ++ t225).size + 1 ≤ 9223372036854775807
            · rw [if_pos c27] at H
              have c27b0 := eq_true c27
              have c27b1 : decide ((x3_2 ++ t225).size + 1 ≤ 9223372036854775807) = true := decide_eq_true c27
              try have c27b2 : (9223372036854775807 < (x3_2 ++ t225).size + 1) = False := eq_false (Nat.not_lt.2 c27)
              have c27b3 : x3_2.size + t225.size + 1 ≤ 9223372036854775807 := by have h_ := c27; simp only [ByteArray.size_append] at h_; exact h_
              have c27b4 : (9223372036854775807 < x3_2.size + t225.size + 1) = False := eq_false (Nat.not_lt.2 c27b3)
              replace c27b3 : decide (x3_2.size + t225.size + 1 ≤ 9223372036854775807) = true := decide_eq_true c27b3
              replace H := Option.bind_eq_some_iff.mp H
              obtain ⟨t226, A280, H⟩ := H
              replace H : (if ((x3_2 ++ t225) ++ (⟨#[47]⟩ : ByteArray)).size + t226.size ≤ 9223372036854775807 then (some (((x3_2 ++ t225) ++ (⟨#[47]⟩ : ByteArray)) ++ t226)) else (none)) = some r := H
              have A28 := Aside0.mk A280
              clear A280
              by_cases c29 : ((x3_2 ++ t225) ++ (⟨#[47]⟩ : ByteArray)).size + t226.size ≤ 9223372036854775807
              · rw [if_pos c29] at H
                have c29b0 := eq_true c29
                have c29b1 : decide (((x3_2 ++ t225) ++ (⟨#[47]⟩ : ByteArray)).size + t226.size ≤ 9223372036854775807) = true := decide_eq_true c29
                try have c29b2 : (9223372036854775807 < ((x3_2 ++ t225) ++ (⟨#[47]⟩ : ByteArray)).size + t226.size) = False := eq_false (Nat.not_lt.2 c29)
                have c29b3 : x3_2.size + t225.size + 1 + t226.size ≤ 9223372036854775807 := by have h_ := c29; simp only [ByteArray.size_append] at h_; exact h_
                have c29b4 : (9223372036854775807 < x3_2.size + t225.size + 1 + t226.size) = False := eq_false (Nat.not_lt.2 c29b3)
                replace c29b3 : decide (x3_2.size + t225.size + 1 + t226.size ≤ 9223372036854775807) = true := decide_eq_true c29b3
                obtain rfl := Option.some.inj H
                have hcz30_0 : wc.cell? ⟨gb221, 0, none⟩ = some (.int .i64 t222) := (blk_cell BK221.out 0).trans rfl
                have hcz30_1 : wc.cell? ⟨gb221, 1, none⟩ = some (.int .i64 t223) := (blk_cell BK221.out 1).trans rfl
                have hfz30_0 := blk_frozen BK221.out 0
                have hfz30_1 := blk_frozen BK221.out 1
                go_wp2_with (first | ((with_reducible refine gate_callee (f := 61) rfl ?_); refine goesL_ (some 15) rfl rfl Tryd.func61 (by kernel_rfl) rfl #[.int .i64 t222] rfl (by (try simp only [List.map_toArray, List.map_cons, List.map_nil]); first | done | rfl | (simp only [List.length_drop, List.length_take]; rfl)) ?_; (with_reducible refine (whittleref1_far.calls t222 t224 _ A9.out).mono ?_); rintro e w' ⟨rfl, ⟨nd, rfl⟩⟩; refine ⟨_, rfl, ?_⟩) | ((with_reducible refine gate_callee (f := 67) rfl ?_); refine goesL_ (some 24) rfl rfl Tryd.func67 (by kernel_rfl) rfl #[.int .u64 t224] rfl (by (try simp only [List.map_toArray, List.map_cons, List.map_nil]); first | done | rfl | (simp only [List.length_drop, List.length_take]; rfl)) ?_; (with_reducible refine (whittleref1_digits.calls kj2 t224 t225 _ A25.out).mono ?_); rintro e w31 ⟨rfl, hb⟩; refine ⟨_, rfl, ?_⟩; have n0_ := Aside0.mk (blk_below (g := gb221) (o := .cells #[.int .i64 t222, .int .i64 t223] 23 (0, 0)) (by (with_reducible repeat (first | refine blk_drewN ?_ _ | refine blk_drew ?_ | refine blk_alloc ?_ _)); exact BK221.out) hb); have n1_ := Aside0.mk (below_step (by repeat (first | (with_reducible first | exact HB.out | apply below_alloc | apply pw_below_drewN | apply below_drew1 | refine below_set ?_ GE221.out) | exact HB.out)) hb); clear BK221; clear HB; have BK221 := n0_; have HB := n1_; clear n0_ n1_; (try clear hb); (try clear hb2); (try clear hk); (try clear hi)) | ((with_reducible refine gate_callee (f := 67) rfl ?_); refine goesL_ (some 28) rfl rfl Tryd.func67 (by kernel_rfl) rfl #[.int .u64 (IntKind.u64.wrap (t223))] rfl (by (try simp only [List.map_toArray, List.map_cons, List.map_nil]); first | done | rfl | (simp only [List.length_drop, List.length_take]; rfl)) ?_; (with_reducible refine (whittleref1_digits.calls kj2 (IntKind.u64.wrap (t223)) t226 _ A28.out).mono ?_); rintro e w32 ⟨rfl, hb⟩; refine ⟨_, rfl, ?_⟩; have n0_ := Aside0.mk (blk_below (g := gb221) (o := .cells #[.int .i64 t222, .int .i64 t223] 23 (0, 0)) (by (with_reducible repeat (first | refine blk_drewN ?_ _ | refine blk_drew ?_ | refine blk_alloc ?_ _)); exact BK221.out) hb); have n1_ := Aside0.mk (below_step (by repeat (first | (with_reducible first | exact HB.out | apply below_alloc | apply pw_below_drewN | apply below_drew1 | refine below_set ?_ GE221.out) | exact HB.out)) hb); clear BK221; clear HB; have BK221 := n0_; have HB := n1_; clear n0_ n1_; (try clear hb); (try clear hb2); (try clear hk); (try clear hi)))
                go_ret
                exact ⟨by first | rfl | (simp [errW_none, errW_some] <;> rfl) | (simp [*, errW_none, errW_some] <;> rfl), by repeat (first | (with_reducible first | exact HB.out | apply below_alloc | apply pw_below_drewN | apply below_drew1 | refine below_set ?_ GE221.out) | exact HB.out)⟩
              · rw [if_neg c29] at H
                exact absurd H (by simp)
            · rw [if_neg c27] at H
              exact absurd H (by simp)
          · rw [if_neg c26] at H
            exact absurd H (by simp)

end Go.Proofs.YtlcjfabbnclalaaDoor.F
