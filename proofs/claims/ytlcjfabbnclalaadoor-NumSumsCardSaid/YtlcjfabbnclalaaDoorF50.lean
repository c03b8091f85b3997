/-
The walk of NumSums: Sum of a copied list, with more behind it, is Sum of the list; the list stays.
-/
import Derived.Test.YtlcjfabbnclalaaDoorH1
import Derived.Test.YtlcjfabbnclalaaDoorF6
import Derived.Test.YtlcjfabbnclalaaDoorF19
import Derived.Test.YtlcjfabbnclalaaDoorF20
namespace Go.Proofs.YtlcjfabbnclalaaDoor.F
open Go.RowKit Go.Proofs.YtlcjfabbnclalaaDoorW.PrintWords Go.Proofs.YtlcjfabbnclalaaDoorW.PrintLast Go.Proofs.YtlcjfabbnclalaaDoorW.PrintMore
attribute [local go_sem high] bx_cell bx_frozen
set_option linter.unusedVariables false
set_option linter.unusedSimpArgs false
def more2 : List S23 := [⟨77, 1⟩, ⟨78, 1⟩]
set_option maxHeartbeats 8000000 in
set_option maxRecDepth 100000 in
theorem NumSums_calls (k : Nat) (A0 : Option Addr) (c0 : Nat) (l0 : List S23) (r1 r2 : Int) (r3 : Bool) (w : World) (HT0 : TabAt w) (hA0 : A0 = none → c0 = 0) (hr0 : Kd.C k23 w A0 l0.length l0) (hc0 : l0.length ≤ c0) (hsz : l0.length * 16 ≤ 140737488351232)
   (h1 : num_Sum.f k l0 = some (r1, r2, r3)) (h2 : whittleref1_Sum.f k l0 = some (r1, r2, r3)) (h3 : whittlelaw1_able.f k = some true) :
  Calls Tryd.prog 9 #[.slice A0 l0.length c0] w fun e w' => e = .returned (.bool true) ∧ Below w.heap.size w w' := by
 have hu23 := Tryd.underlying23
 have HT := Aside0.mk HT0
 have HA0 := Aside0.mk hA0
 have HR0 := Aside0.mk hr0
 have HC0 := Aside0.mk hc0
 have H1 := Aside0.mk h1
 have H2 := Aside0.mk h2
 have H3 := Aside0.mk h3
 have hn : (l0.length : Int) ≤ 140737488351232 := by omega
 have HZ := Aside0.mk hsz
 clear HT0 hA0 hr0 hc0 h1 h2 h3 hsz
 obtain ⟨ll, hll⟩ : ∃ ll, ll = l0 ++ more2 := ⟨_, rfl⟩
 have hlen : ll.length = l0.length + 2 := by rw [hll, List.length_append]; rfl
 have HLL := Aside0.mk hll
 have HLEN := Aside0.mk hlen
 have hlt : l0.length + 1 < ll.length := by omega
 clear hll hlen
 go_enter Tryd.func9, Tryd.ntmps9
 go_wp2_with (first
  | ((with_reducible refine gate_dst (N := 11) rfl ?_); refine append_any (w0 := w) rfl (.tmp 9) (.tmp 10) 37 rfl w.heap.size 23 _ 2 16 Tryd.underlying37 info23 rfl (by decide) _ 0 [] rfl (World.ownsRow_made w #[] 0 (Nat.le_refl _) (by decide) rfl) A0 l0.length c0 (cellsS l0) rfl (cellsS_len l0) (fun e => ⟨by have := HA0.out e; have := HC0.out; omega, HA0.out e⟩) (fun ad e j u hu => by have := news_of_C HR0.out ad e j u hu; exact ((below_alloc (Below.refl _ _) _).cell (World.block_lt_of_cell? w _ this)).trans this) (cellsS_one l0) l0.length (Nat.zero_add _) (by have := HZ.out; simp only [maxLen]; omega) (by have := HZ.out; omega) (by simp) (below_alloc (Below.refl _ _) _) ?_; intro v1 w1 hown1 hb1; have HO1 := Aside0.mk hown1; have HB1 := Aside0.mk hb1; clear hown1 hb1)
  | ((with_reducible refine gate_dst (N := 15) rfl ?_); refine append_any (w0 := w) rfl (.tmp 11) (.tmp 14) 37 rfl w.heap.size 23 _ 2 16 Tryd.underlying37 info23 rfl (by decide) v1 l0.length (cellsS l0) rfl (HO1.out.alloc _) (some ⟨w1.heap.size, 0, none⟩) 2 2 (cellsS more2) rfl rfl (fun e => nomatch e) (fun ad e => by cases e; exact World.news_of_block (heap_alloc_new w1 _)) (cellsS_one more2) ll.length HLEN.out.symm (by have := HZ.out; have := HLEN.out; simp only [maxLen]; omega) (by have := HZ.out; have := HLEN.out; omega) (below_size (below_alloc HB1.out _)) (below_alloc HB1.out _) ?_; intro v2 w2 hown2 hb2; rw [← cellsS_app, ← HLL.out] at hown2; obtain ⟨adl, cap, rfl, hcap, HL0⟩ := own_told (w := w) hown2 (by have := HLEN.out; omega); have HL := Aside0.mk HL0; have HB2 := Aside0.mk hb2; have HR2 := Aside0.mk (Kd.C_below HR0.out hb2); have BX := Bx.start w2; have hcut := cut_list (some adl) ll.length cap l0.length (by omega) hcap; have HCAP := Aside0.mk hcap; clear hown2 hb2 HL0 HO1 HB1 hcap)
  | ((with_reducible refine gate_callee (f := 37) rfl ?_); refine goesL_ (some 21) rfl rfl Tryd.func37 kr rfl #[.slice (some adl) l0.length cap] rfl ga ?_; (with_reducible refine (num_Sum.calls k (some adl) cap l0 r1 r2 r3 _ (by have := HL.out; rw [HLL.out] at this; exact C_left this) (by have := HCAP.out; omega) H1.out).mono ?_); rintro e w3 ⟨rfl, hb⟩; refine ⟨_, rfl, ?_⟩; replace BX := bx_call hb; clear hb)
  | ((with_reducible refine gate_dst (N := 4) rfl ?_); refine bxe 4 #[.int .i64 0, .int .i64 0] 23 rfl rfl gr ?_; clear BX; intro g4 w4 GE4 BX)
  | ((with_reducible refine gate_callee (f := 38) rfl ?_); refine goesL_ (some 26) rfl rfl Tryd.func38 kr rfl #[.slice A0 l0.length c0] rfl ga ?_; (with_reducible refine (whittleref1_Sum.calls k A0 c0 l0 r1 r2 r3 _ (Kd.C_below HR2.out bx_bl) HC0.out H2.out).mono ?_); rintro e w5 ⟨rfl, hb⟩; refine ⟨_, rfl, ?_⟩; replace BX := bx_call hb; clear hb)
  | ((with_reducible refine gate_dst (N := 6) rfl ?_); refine bxe 6 #[.int .i64 0, .int .i64 0] 23 rfl rfl gr ?_; clear BX; intro g6 w6 GE6 BX)
  | (go_at_call 22; refine (whittlelaw1_able.calls k true _ ((HT.out.on HB2.out).on bx_bl) H3.out).mono ?_; rintro e w7 ⟨rfl, hb⟩; replace BX := bx_call hb; clear hb))
 go_loopg [8] l0.length (fun kq v8 w' => ∃ i : Nat, v8 = .int .i64 (i : Int) ∧ Aside0 (i + kq = l0.length) ∧ Bx w2 w' [(g6, 23, #[.int .i64 r1, .int .i64 r2]), (g4, 23, #[.int .i64 r1, .int .i64 r2])])
 case atStart => exact ⟨0, er, ⟨Nat.zero_add _⟩, bxi⟩
 case round =>
  clear BX
  obtain ⟨i, rfl, HI, BX⟩ := hrel
  have HRW := Aside0.mk (Kd.C_below HR2.out (bx_bl (w := wr)))
  have HLW := Aside0.mk (Kd.C_below HL.out (bx_bl (w := wr)))
  cases gk with
  | zero =>
   obtain rfl : i = l0.length := by have := HI.out; omega
   have c1 : decide ((l0.length : Int) < (l0.length : Int)) = false := by simp
   have q2 : ((l0.length : Nat) : Int) < (ll.length : Int) := by omega
   have q3 : ((l0.length : Nat) : Int) + 1 < (ll.length : Int) := by omega
   obtain ⟨ad1, e1, y0, _⟩ := at_T23 HLW.out ((l0.length : Nat) : Int) (by omega) q2
   cases e1
   obtain ⟨ad2, e2, y1, _⟩ := at_T23 HLW.out (((l0.length : Nat) : Int) + 1) (by omega) q3
   cases e2
   have r0 : rd_T23 ll ((l0.length : Nat) : Int) = ⟨77, 1⟩ := by
    unfold rd_T23; rw [HLL.out, Int.toNat_natCast]; simp [more2]
   have r1_ : rd_T23 ll (((l0.length : Nat) : Int) + 1) = ⟨78, 1⟩ := by
    unfold rd_T23; rw [HLL.out, show (((l0.length : Nat) : Int) + 1).toNat = l0.length + 1 by omega]; simp [more2]
   rw [r0] at y0
   rw [r1_, show (((l0.length : Nat) : Int) + 1).toNat = l0.length + 1 by omega] at y1
   simp only [Int.toNat_natCast] at y0
   clear r0 r1_
   replace q2 := eq_true q2
   replace q3 := eq_true q3
   go_wp2
   go_ret
   exact ⟨rfl, below_then HB2.out HB2.out.size bx_bl⟩
  | succ k1 =>
   have hi : i < l0.length := by have := HI.out; omega
   have c1 : decide ((i : Int) < (l0.length : Int)) = true := decide_eq_true (by omega)
   have p1 : 0 ≤ (i : Int) := by omega
   have q1 : (i : Int) < (l0.length : Int) := by omega
   have q2 : (i : Int) < (ll.length : Int) := by omega
   obtain ⟨ad0, e0, x0, x1⟩ := at_T23 HRW.out (i : Int) p1 q1
   cases e0
   obtain ⟨ad1, e1, y0, y1⟩ := at_T23 HLW.out (i : Int) p1 q2
   cases e1
   have er_ : rd_T23 ll (i : Int) = rd_T23 l0 (i : Int) := by
    unfold rd_T23; rw [HLL.out, Int.toNat_natCast, List.getD_eq_getElem?_getD, List.getD_eq_getElem?_getD, List.getElem?_append_left hi]
   rw [er_] at y0 y1
   clear er_
   generalize rd_T23 l0 (i : Int) = ent at *
   simp only [Int.toNat_natCast] at x0 x1 y0 y1
   replace p1 := eq_true p1
   replace q1 := eq_true q1
   replace q2 := eq_true q2
   go_wp2
   go_quiet (fail)
   go_wp2
   go_roundg k1
   case measure => omega
   case rel => exact ⟨i + 1, er, ⟨by have := HI.out; omega⟩, bxi⟩
end Go.Proofs.YtlcjfabbnclalaaDoor.F
