/-
ValueTexts: texts put together: Join of two is OpJoin of them; how three are grouped isn't seen, where none is a fault and all fits.
-/
import Derived.Test.YtmakkdlkgfgaoaaDoorF131
import Derived.Test.YtmakkdlkgfgaoaaDoorA0
import Derived.Test.YtmakkdlkgfgaoaaDoorV4
namespace Go.Proofs.YtmakkdlkgfgaoaaDoor.F
open Go.RowKit Go.Proofs.YtmakkdlkgfgaoaaDoorW.PrintWords NumM
set_option linter.unusedVariables false
set_option linter.unusedSimpArgs false
/-- texts put together, till a fault comes -/
def joinF : W → List W → W
  | .fault c, _ => .fault c
  | t, [] => t
  | t, x :: l => joinF (binW 16 t x) l
theorem joinF_fault (c : Int) (l : List W) : joinF (.fault c) l = .fault c := by unfold joinF; rfl
theorem joinF_nil (t : W) : joinF t [] = t := by cases t <;> (unfold joinF; rfl)
theorem joinF_cons {t : W} (h : ¬ kindW t = 4) (x : W) (l : List W) : joinF t (x :: l) = joinF (binW 16 t x) l := by
  cases t with
  | fault c => exact absurd rfl h
  | _ => rw [joinF]; intro c e; cases e
theorem joinF_ok (l : List W) (hl : ∀ x ∈ l, x.Ok) : ∀ t : W, t.Ok → (joinF t l).Ok := by
  induction l with
  | nil => intro t h; rw [joinF_nil]; exact h
  | cons x l ih =>
    intro t h
    by_cases h4 : kindW t = 4
    · obtain ⟨c, rfl⟩ := fault_of h4
      rw [joinF_fault]; exact h
    · rw [joinF_cons h4]
      exact ih (fun y hy => hl y (by simp [hy])) _ (binW_ok 16 h (hl x (by simp)))
theorem joinL_ev (l : List V) (hl : ∀ v ∈ l, BV v) : ∀ t : W, t.Ok → ¬ kindW t = 4 → Ev (fun k => joinL k (enc t) l) (enc (joinF t (l.map tk))) := by
  induction l with
  | nil =>
    intro t _ _
    rw [List.map_nil, joinF_nil]
    exact Ev.now _
  | cons x l ih =>
    intro t ht hk
    rw [List.map_cons, joinF_cons hk]
    have hx := hl x (by simp)
    have hb := bin_ev 16 (enc t) x (bv_enc ht) hx
    rw [tk_enc ht] at hb
    have hu := binW_ok 16 ht (ok_tk x)
    refine Ev.bind hb ?_
    generalize binW 16 t (tk x) = u at hu ⊢
    by_cases h4 : kindW u = 4
    · obtain ⟨c, rfl⟩ := fault_of h4
      rw [joinF_fault]
      exact Ev.ite_pos rfl (Ev.now _)
    · refine Ev.ite_neg (by rw [kind_enc]; exact h4) ?_
      exact ih (fun v hv => hl v (by simp [hv])) u hu h4
theorem ebin_ev1 {a : W} (h : a.Ok) (v : V) (hv : BV v) : Ev (fun k => value_Bin.f k 16 (enc a).1 (enc a).2.1 (enc a).2.2.1 (enc a).2.2.2.1 (enc a).2.2.2.2.1 (enc a).2.2.2.2.2 v.1 v.2.1 v.2.2.1 v.2.2.2.1 v.2.2.2.2.1 v.2.2.2.2.2) (enc (binW 16 a (tk v))) := by
  have := bin_ev 16 (enc a) v (bv_enc h) hv
  rwa [tk_enc h] at this
theorem ebin_ev2 {a : W} (h : a.Ok) (v : V) (hv : BV v) : Ev (fun k => value_Bin.f k 16 v.1 v.2.1 v.2.2.1 v.2.2.2.1 v.2.2.2.2.1 v.2.2.2.2.2 (enc a).1 (enc a).2.1 (enc a).2.2.1 (enc a).2.2.2.1 (enc a).2.2.2.2.1 (enc a).2.2.2.2.2) (enc (binW 16 (tk v) a)) := by
  have := bin_ev 16 v (enc a) hv (bv_enc h)
  rwa [tk_enc h] at this
theorem bin16 (a b : W) : binW 16 a b = orFault a (orFault b (textW (asTxt a ++ asTxt b))) := by
  rw [ebin_known 16 a b (Or.inl ⟨by decide, by decide⟩)]
  rfl
theorem bin16_f (c : Int) (b : W) : binW 16 (.fault c) b = .fault c := by rw [bin16]; rfl
/-- what is no fault is a text, of what are no faults -/
theorem bin16_t {a b : W} (h : ¬ kindW (binW 16 a b) = 4) : ¬ kindW a = 4 ∧ ¬ kindW b = 4 ∧ plainL (asTxt a ++ asTxt b) = true ∧ (asTxt a ++ asTxt b).length ≤ 256 ∧ binW 16 a b = .text (asTxt a ++ asTxt b) := by
  rw [bin16] at h ⊢
  by_cases ha : kindW a = 4
  · obtain ⟨c, rfl⟩ := fault_of ha
    exact absurd rfl h
  have ha' : ¬ ∃ c, a = .fault c := by rintro ⟨c, rfl⟩; exact ha rfl
  rw [orFault_ne ha'] at h ⊢
  by_cases hb : kindW b = 4
  · obtain ⟨c, rfl⟩ := fault_of hb
    exact absurd rfl h
  have hb' : ¬ ∃ c, b = .fault c := by rintro ⟨c, rfl⟩; exact hb rfl
  rw [orFault_ne hb'] at h ⊢
  unfold textW at h ⊢
  by_cases hp : plainL (asTxt a ++ asTxt b) = true
  · rw [if_pos hp] at h ⊢
    by_cases hl : (asTxt a ++ asTxt b).length > 256
    · rw [if_pos hl] at h
      exact absurd rfl h
    · rw [if_neg hl]
      exact ⟨ha, hb, hp, by omega, rfl⟩
  · rw [if_neg hp] at h
    exact absurd rfl h
theorem bin16_mk {a b : W} (ha : ¬ kindW a = 4) (hb : ¬ kindW b = 4) (hp : plainL (asTxt a ++ asTxt b) = true) (hl : (asTxt a ++ asTxt b).length ≤ 256) : binW 16 a b = .text (asTxt a ++ asTxt b) := by
  have ha' : ¬ ∃ c, a = .fault c := by rintro ⟨c, rfl⟩; exact ha rfl
  have hb' : ¬ ∃ c, b = .fault c := by rintro ⟨c, rfl⟩; exact hb rfl
  rw [bin16, orFault_ne ha', orFault_ne hb']
  unfold textW
  rw [if_pos hp, if_neg (by omega)]
theorem plain_app (l m : List UInt8) : plainL (l ++ m) = (plainL l && plainL m) := by unfold plainL; exact List.all_append
/-- Join of two is OpJoin of them -/
theorem join2 {A B : W} (h : ¬ kindW (binW 16 A B) = 4) : joinF (.text []) [A, B] = binW 16 A B := by
  obtain ⟨ha, hb, hp, hl, e⟩ := bin16_t h
  rw [plain_app, Bool.and_eq_true] at hp
  rw [List.length_append] at hl
  have k2 : ∀ l : List UInt8, ¬ kindW (.text l) = 4 := fun l => by simp [kindW]
  have e1 : binW 16 (.text []) A = .text (asTxt A) := by
    rw [bin16_mk (k2 _) ha (by simpa [asTxt] using hp.1) (by show ([] ++ asTxt A).length ≤ 256; rw [List.nil_append]; omega)]
    rfl
  rw [joinF_cons (k2 _), e1, joinF_cons (k2 _), joinF_nil]
  rw [bin16_mk (k2 _) hb (by show plainL (asTxt A ++ asTxt B) = true; rw [plain_app, Bool.and_eq_true]; exact hp) (by show (asTxt A ++ asTxt B).length ≤ 256; rw [List.length_append]; omega), e]
  rfl
theorem joinF_two (t A B : W) (ht : ¬ kindW t = 4) : joinF t [A, B] = binW 16 (joinF t [A]) B := by
  rw [joinF_cons ht, joinF_cons ht, joinF_nil]
  by_cases h : kindW (binW 16 t A) = 4
  · obtain ⟨c, e⟩ := fault_of h
    rw [e, joinF_fault, bin16_f]
  · rw [joinF_cons h, joinF_nil]
theorem joinF_three (t A B C : W) (ht : ¬ kindW t = 4) (h2 : ¬ kindW (joinF t [A, B]) = 4) : joinF t [A, B, C] = binW 16 (joinF t [A, B]) C := by
  rw [joinF_two t A B ht, joinF_cons ht, joinF_nil] at *
  rw [joinF_cons ht]
  by_cases h : kindW (binW 16 t A) = 4
  · obtain ⟨c, e⟩ := fault_of h
    rw [e, bin16_f] at h2
    exact absurd rfl h2
  · rw [joinF_cons h, joinF_cons h2, joinF_nil, joinF_nil]
/-- how three are grouped -/
theorem group3 {A B C : W} (h1 : ¬ kindW (binW 16 (binW 16 A B) C) = 4) (h2 : ¬ kindW (binW 16 A (binW 16 B C)) = 4) : binW 16 A (binW 16 B C) = binW 16 (binW 16 A B) C := by
  obtain ⟨hx, hc, _, _, e1⟩ := bin16_t h1
  obtain ⟨ha, hq, _, _, e2⟩ := bin16_t h2
  obtain ⟨_, hb, _, _, ex⟩ := bin16_t hx
  obtain ⟨_, _, _, _, eq⟩ := bin16_t hq
  rw [e1, e2, ex, eq]
  simp only [asTxt, List.append_assoc]
theorem enc_four {u : W} (h : kindW u = 4) : enc u = (4, (enc u).2) := by rw [← h, ← kind_enc]
theorem ValueTexts_calls (a1 a2 a3 : Int) (a4 : ByteArray) (a5 : Bool) (a6 b1 b2 b3 : Int) (b4 : ByteArray) (b5 : Bool) (b6 c1 c2 c3 : Int) (c4 : ByteArray) (c5 : Bool) (c6 : Int) (ha : BV (a1, a2, a3, a4, a5, a6)) (hb : BV (b1, b2, b3, b4, b5, b6)) (hc : BV (c1, c2, c3, c4, c5, c6)) (w : World) (HT0 : TabAt w) :
    Calls Tryd.prog 10 #[.agg #[.int .i64 a1, .int .i64 a2, .int .i64 a3, .string a4, .bool a5, .int .i64 a6], .agg #[.int .i64 b1, .int .i64 b2, .int .i64 b3, .string b4, .bool b5, .int .i64 b6], .agg #[.int .i64 c1, .int .i64 c2, .int .i64 c3, .string c4, .bool c5, .int .i64 c6]] w fun e w' => e = .returned (.bool true) ∧ Below w.heap.size w w' := by
  have ok : (W.text []).Ok := ⟨by simp, rfl⟩
  have nt : ¬ kindW (W.text []) = 4 := by simp [kindW]
  have ht := vtext_ev (⟨#[]⟩ : ByteArray) (by decide)
  rw [show textW (⟨#[]⟩ : ByteArray).toList = .text [] from by rw [by_nil, by_toList]; rfl] at ht
  have oA := ok_tk (a1, a2, a3, a4, a5, a6)
  have oB := ok_tk (b1, b2, b3, b4, b5, b6)
  have oC := ok_tk (c1, c2, c3, c4, c5, c6)
  have eX := bin_ev 16 _ _ ha hb
  have eQ := bin_ev 16 _ _ hb hc
  have eJ2 := joinL_ev [(a1, a2, a3, a4, a5, a6), (b1, b2, b3, b4, b5, b6)] (by rintro v hv; simp at hv; rcases hv with rfl | rfl <;> assumption) (.text []) ok nt
  have eJ1 := joinL_ev [(a1, a2, a3, a4, a5, a6)] (by rintro v hv; simp at hv; rcases hv with rfl; assumption) (.text []) ok nt
  have eJ3 := joinL_ev [(a1, a2, a3, a4, a5, a6), (b1, b2, b3, b4, b5, b6), (c1, c2, c3, c4, c5, c6)] (by rintro v hv; simp at hv; rcases hv with rfl | rfl | rfl <;> assumption) (.text []) ok nt
  simp only [List.map_cons, List.map_nil] at eJ1 eJ2 eJ3
  have oJ1 := joinF_ok [tk (a1, a2, a3, a4, a5, a6)] (by simpa using oA) (.text []) ok
  have eB := ebin_ev1 oJ1 _ hb
  have oX := binW_ok 16 oA oB
  have oQ := binW_ok 16 oB oC
  have eL := ebin_ev1 oX _ hc
  have eR := ebin_ev2 oQ _ ha
  rw [← joinF_two _ _ _ nt] at eB
  generalize tk (a1, a2, a3, a4, a5, a6) = A at *
  generalize tk (b1, b2, b3, b4, b5, b6) = B at *
  generalize tk (c1, c2, c3, c4, c5, c6) = C at *
  obtain ⟨k0, h0⟩ := ht
  obtain ⟨k1, h1⟩ := eX
  obtain ⟨k2, h2⟩ := eQ
  obtain ⟨k3, h3⟩ := eJ2
  obtain ⟨k4, h4⟩ := eJ1
  obtain ⟨k5, h5⟩ := eJ3
  obtain ⟨k6, h6⟩ := eB
  obtain ⟨k7, h7⟩ := eL
  obtain ⟨k8, h8⟩ := eR
  obtain ⟨k9, h9⟩ := vable_ev
  obtain ⟨k, m0, m1, m2, m3, m4, m5, m6, m7, m8, m9⟩ : ∃ k, k0 ≤ k ∧ k1 ≤ k ∧ k2 ≤ k ∧ k3 ≤ k ∧ k4 ≤ k ∧ k5 ≤ k ∧ k6 ≤ k ∧ k7 ≤ k ∧ k8 ≤ k ∧ k9 ≤ k := ⟨k0 + k1 + k2 + k3 + k4 + k5 + k6 + k7 + k8 + k9, by omega, by omega, by omega, by omega, by omega, by omega, by omega, by omega, by omega, by omega⟩
  have f0 := h0 k m0
  have f1 := h1 k m1
  have f2 := h2 k m2
  have f3 := h3 k m3
  have f4 := h4 k m4
  have f5 := h5 k m5
  have f6 := h6 k m6
  have f7 := h7 k m7
  have f8 := h8 k m8
  have f9 := h9 k m9
  clear h0 h1 h2 h3 h4 h5 h6 h7 h8 h9
  by_cases x4 : kindW (binW 16 A B) = 4
  · have l4 : kindW (binW 16 (binW 16 A B) C) = 4 := by
      obtain ⟨d, e⟩ := fault_of x4
      rw [e, bin16_f]; rfl
    rw [enc_four x4] at f1
    rw [enc_four x4, enc_four l4] at f7
    exact ValueTexts_x4 k a1 a2 a3 a4 a5 a6 b1 b2 b3 b4 b5 b6 c1 c2 c3 c4 c5 c6 _ _ _ _ _ _ w HT0 _ _ _ _ _ _ _ _ _ _ _ _ _ _ _ _ _ _ _ _ _ _ _ _ _ _ _ _ _ _ _ _ _ _ f9 f0 f1 f3 f4 f6 f7 f2 f8
  obtain ⟨_, _, _, _, ex⟩ := bin16_t x4
  have j2 := join2 x4
  rw [ex] at f1 f7 x4 j2
  rw [j2] at f3 f6
  by_cases l4 : kindW (binW 16 (.text (asTxt A ++ asTxt B)) C) = 4
  · rw [enc_four l4] at f7
    exact ValueTexts_l4 k a1 a2 a3 a4 a5 a6 b1 b2 b3 b4 b5 b6 c1 c2 c3 c4 c5 c6 _ _ _ _ _ _ w HT0 _ _ _ _ _ _ _ _ _ _ _ _ _ _ _ _ _ _ _ _ _ _ _ _ _ _ _ _ f9 f0 f1 f3 f4 f6 f7 f2 f8
  have nl : ¬ (enc (binW 16 (.text (asTxt A ++ asTxt B)) C)).1 = 4 := by rw [kind_enc]; exact l4
  by_cases r4 : kindW (binW 16 A (binW 16 B C)) = 4
  · rw [enc_four r4] at f8
    exact ValueTexts_r4 k a1 a2 a3 a4 a5 a6 b1 b2 b3 b4 b5 b6 c1 c2 c3 c4 c5 c6 _ _ _ _ _ _ w HT0 _ _ _ _ _ _ _ _ _ _ _ _ _ _ _ _ _ _ _ _ _ _ _ _ _ _ _ _ f9 f0 f1 f3 f4 f6 f7 f2 f8 nl
  have g : binW 16 A (binW 16 B C) = binW 16 (.text (asTxt A ++ asTxt B)) C := by rw [← ex]; exact group3 (by rw [ex]; exact l4) r4
  rw [g] at f8
  rw [joinF_three _ _ _ _ nt (by rw [j2]; exact x4), j2] at f5
  exact ValueTexts_eq k a1 a2 a3 a4 a5 a6 b1 b2 b3 b4 b5 b6 c1 c2 c3 c4 c5 c6 _ _ _ _ _ _ w HT0 _ _ _ _ _ _ _ _ _ _ _ _ _ _ _ _ _ _ _ _ _ _ _ f9 f0 f1 f3 f4 f6 f7 f2 f8 nl f5
end Go.Proofs.YtmakkdlkgfgaoaaDoor.F
