/-
NumWritten, plainly: what Text writes Read reads back, and what Read reads Text writes.
-/
import Derived.Test.YtlcjfabbnclalaaDoorF16
import Derived.Test.YtlcjfabbnclalaaDoorM12
import Derived.Test.YtlcjfabbnclalaaDoorM18
namespace Go.Proofs.YtlcjfabbnclalaaDoor.F
open Go.RowKit Go.Proofs.YtlcjfabbnclalaaDoorW.PrintWords NumM
set_option linter.unusedVariables false
set_option linter.unusedSimpArgs false

theorem written_tail {n d : Int} (hn : I64 n) (hd : I64 d) : Ev (fun k => (num_Text.f k n d).bind (fun t => num_Read.f k t)) ((rat n d).num, ((rat n d).den : Int), true) := by
  have hq := fits_rat n d
  refine Ev.bind (text_ev hn hd) ?_
  have := read_ev (textS (rat n d)) (by have := textS_len hq; omega)
  rw [read_text hq] at this
  exact this

theorem written_j0 (s : ByteArray) (hs : s.size ≤ 9223372036854775807) : Ev (fun k => whittlelaw1_NumWritten.j0 k s false) true := by
  refine Ev.step (fun k => by simp only [whittlelaw1_NumWritten.j0]; exact if_neg (by simp)) ?_
  have h1 := read_ev s.data.toList (by rw [Array.length_toList]; exact hs)
  rw [← by_eta] at h1
  refine Ev.bind h1 ?_
  rcases readS_cases s.data.toList with h | ⟨q, hq, h⟩
  · rw [h]
    exact Ev.ite_neg (by simp) (Ev.now _)
  · rw [h]
    refine Ev.ite_pos rfl ?_
    have hb := fits_bounds hq
    have h2 := text_ev (i64_num hq) (i64_den hq)
    rw [rat_of_fits hq] at h2
    refine Ev.bind h2 ?_
    have h3 := read_ev (textS q) (by have := textS_len hq; omega)
    rw [read_text hq] at h3
    refine Ev.bind h3 (Ev.bind (rightF_ev hq) (Ev.ite_pos rfl (Ev.ite_pos rfl (Ev.const ?_))))
    simp

theorem NumWritten_pure (n d : Int) (s : ByteArray) (hn : I64 n) (hd : I64 d) (hs : s.size ≤ 140737488351232) : ∃ r, whittlelaw1_NumWritten.f r n d s = some true := by
  refine Ev.rounds ?_
  unfold whittlelaw1_NumWritten.f
  refine Ev.bind able_ev (Ev.ite_pos rfl ?_)
  have hq := fits_rat n d
  refine Ev.bind (text_ev hn hd) ?_
  have h3 := read_ev (textS (rat n d)) (by have := textS_len hq; omega)
  rw [read_text hq] at h3
  refine Ev.bind h3 (Ev.bind (rightL_ev hn hd) ?_)
  by_cases h : RightP n d
  · rw [decide_eq_true h]
    have he := right_nd h
    refine Ev.ite_pos rfl (Ev.ite_pos rfl (Ev.ite_neg ?_ ?_))
    · rw [← he.1, ← he.2]; simp
    · refine Ev.bind (rightL_ev hn hd) ?_
      rw [decide_eq_true h]
      exact Ev.ite_pos rfl (written_j0 s (by omega))
  · rw [decide_eq_false h]
    refine Ev.ite_neg (by simp) (Ev.bind (rightL_ev hn hd) ?_)
    rw [decide_eq_false h]
    refine Ev.ite_neg (by simp) (Ev.ite_pos rfl (Ev.bind0 (show whittlelaw1_zero.f = some (0, 1) from rfl) ?_))
    rw [rat_wrong h]
    exact written_j0 s (by omega)
end Go.Proofs.YtlcjfabbnclalaaDoor.F
