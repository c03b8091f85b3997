/-
The reference's values, more: what typed contents are; how a value is shown: the same as the program's.
-/
import Derived.Test.YtmakkdlkgfgaoaaDoorF108
import Derived.Test.YtmakkdlkgfgaoaaDoorF110
import Derived.Test.YtmakkdlkgfgaoaaDoorU2
import Derived.Test.YtmakkdlkgfgaoaaDoorV3
namespace Go.Proofs.YtmakkdlkgfgaoaaDoor.F
open Go.RowKit Go.Proofs.YtmakkdlkgfgaoaaDoorW.PrintWords NumM
set_option linter.unusedVariables false
set_option linter.unusedSimpArgs false

def nmB : List ByteArray := [⟨#[]⟩, ⟨#[35, 68, 73, 86, 47, 48, 33]⟩, ⟨#[35, 86, 65, 76, 85, 69, 33]⟩, ⟨#[35, 82, 69, 70, 33]⟩, ⟨#[35, 78, 85, 77, 33]⟩, ⟨#[35, 78, 47, 65]⟩, ⟨#[35, 67, 73, 82, 67, 76, 69, 33]⟩, ⟨#[35, 76, 79, 78, 71, 33]⟩, ⟨#[35, 65, 82, 71, 33]⟩]
theorem nm_same (c : Int) (h : 1 ≤ c ∧ c ≤ 8) : rdOf ByteArray.empty nmB c = nmA (c - 1) := by
  have : c = 1 ∨ c = 2 ∨ c = 3 ∨ c = 4 ∨ c = 5 ∨ c = 6 ∨ c = 7 ∨ c = 8 := by omega
  rcases this with rfl | rfl | rfl | rfl | rfl | rfl | rfl | rfl <;> rfl
theorem rvtextb_ev (l : List UInt8) (hl : l.length ≤ 9223372036854775807) : Ev (fun k => whittleref2_Text.f k (by' l)) (enc (textW l)) := by
  have := rvtext_ev (by' l) (by rw [by_size]; exact hl)
  rwa [by_toList] at this
theorem rname_step (l n : List UInt8) (i : Int) (r : V) (hi : 1 ≤ i ∧ i ≤ 8) (hn : (nmA (i - 1)).toList = n) (ih : Ev (fun k => whittleref2_Read.l0 k (by' l) nmB (i + 1)) r) : Ev (fun k => whittleref2_Read.l0 k (by' l) nmB i) (if l = n then enc (.fault i) else r) := by
  refine Ev.step (fun k => by simp only [whittleref2_Read.l0]; exact if_pos (by show i < 9; omega)) (Ev.ite_pos (by omega) ?_)
  rw [by_toList, nm_same i hi, hn]
  refine Ev.ite (fun h => Ev.const ?_) fun h => ?_
  · rw [rfault_ev, if_neg (by omega), if_neg (by omega)]; rfl
  · rw [w64 (x := i + 1) (by unfold I64; omega)]
    exact ih
theorem rnames_ev (l : List UInt8) (hl : l.length ≤ 9223372036854775807) : Ev (fun k => whittleref2_Read.l0 k (by' l) nmB 1) (enc (nameW l)) := by
  have h9 : Ev (fun k => whittleref2_Read.l0 k (by' l) nmB 9) (enc (textW l)) := Ev.step (fun k => by simp only [whittleref2_Read.l0]; exact if_neg (by decide)) (Ev.bind (rvtextb_ev l hl) (Ev.now _))
  have h8 := rname_step l [35, 65, 82, 71, 33] 8 _ (by decide) (by_toList [35, 65, 82, 71, 33]) h9
  have h7 := rname_step l [35, 76, 79, 78, 71, 33] 7 _ (by decide) (by_toList [35, 76, 79, 78, 71, 33]) h8
  have h6 := rname_step l [35, 67, 73, 82, 67, 76, 69, 33] 6 _ (by decide) (by_toList [35, 67, 73, 82, 67, 76, 69, 33]) h7
  have h5 := rname_step l [35, 78, 47, 65] 5 _ (by decide) (by_toList [35, 78, 47, 65]) h6
  have h4 := rname_step l [35, 78, 85, 77, 33] 4 _ (by decide) (by_toList [35, 78, 85, 77, 33]) h5
  have h3 := rname_step l [35, 82, 69, 70, 33] 3 _ (by decide) (by_toList [35, 82, 69, 70, 33]) h4
  have h2 := rname_step l [35, 86, 65, 76, 85, 69, 33] 2 _ (by decide) (by_toList [35, 86, 65, 76, 85, 69, 33]) h3
  have h1 := rname_step l [35, 68, 73, 86, 47, 48, 33] 1 _ (by decide) (by_toList [35, 68, 73, 86, 47, 48, 33]) h2
  unfold nameW
  simp only [apply_ite enc]
  exact h1
theorem rwords_ev (l : List UInt8) (hl : l.length ≤ 9223372036854775807) (h0 : l ≠ []) : Ev (fun k => if (by' l).toList = ([84, 82, 85, 69] : List UInt8) then (whittleref2_Read.j0 k (by' l) true) else (whittleref2_Read.j0 k (by' l) ((by' l).toList == ([70, 65, 76, 83, 69] : List UInt8)))) (enc (wordW l)) := by
  unfold wordW
  rw [if_neg h0, by_toList]
  simp only [apply_ite enc]
  refine Ev.ite (fun h => ?_) fun h => ?_
  · subst h
    refine Ev.step (fun k => by simp only [whittleref2_Read.j0]; exact if_pos trivial) (Ev.const ?_)
    rw [by_toList]; rfl
  · by_cases h2 : l = [70, 65, 76, 83, 69]
    · rw [if_pos h2]
      subst h2
      refine Ev.step (fun k => by simp only [whittleref2_Read.j0]; exact if_pos (by decide)) (Ev.const ?_)
      rw [by_toList]; rfl
    · rw [if_neg h2]
      exact Ev.step (fun k => by simp only [whittleref2_Read.j0]; exact if_neg (by simpa using h2)) (Ev.bind (Ev.const (show whittleref2_names.f = some nmB from rfl)) (rnames_ev l hl))
theorem read_nil : readW [] = .blank := by
  unfold readW plainReadW
  rw [if_neg (by decide)]; rfl
theorem rread_ev (l : List UInt8) (hl : l.length ≤ 9223372036854775000) : Ev (fun k => whittleref2_Read.f k (by' l)) (enc (readW l)) := by
  unfold whittleref2_Read.f
  cases l with
  | nil => rw [read_nil]; exact Ev.ite_pos (by_toList []) (Ev.now _)
  | cons c t =>
    refine Ev.ite_neg (by rw [by_toList]; simp) (Ev.ite_pos (by rw [by_size, List.length_cons]; omega) ?_)
    have hbt : bt (by' (c :: t)) 0 = (c.toNat : Int) := bt_by (c :: t) 0 (by simp)
    rw [hbt, show readW (c :: t) = if c = 39 then textW t else plainReadW (c :: t) from rfl]
    by_cases hc : c = 39
    · subst hc
      refine Ev.ite_pos (by decide) (Ev.ite_pos (by rw [by_size, List.length_cons]; omega) ?_)
      rw [if_pos (rfl : (39 : UInt8) = 39), by_tail]
      exact Ev.bind (rvtextb_ev t (by simp only [List.length_cons] at hl; omega)) (Ev.now _)
    · rw [if_neg hc]
      refine Ev.ite_neg (fun e => hc (UInt8.toNat_inj.1 (by have e' : c.toNat = 39 := by omega
                                                            exact e'))) (Ev.bind (readR_ev (c :: t) hl) ?_)
      unfold plainReadW
      rw [apply_ite enc]
      refine Ev.ite (fun h => ?_) fun h => rwords_ev (c :: t) (by omega) (by simp)
      rcases readS_cases (c :: t) with hr | ⟨r, hr, he⟩
      · rw [hr] at h; exact absurd h (by decide)
      · rw [he]
        exact Ev.bind (rnumber_ev (i64_num hr) (i64_den hr)) (Ev.now _)
theorem rshow_ev (v : V) (h : BV v) : Ev (fun k => whittleref2_Show.f k v.1 v.2.1 v.2.2.1 v.2.2.2.1 v.2.2.2.2.1 v.2.2.2.2.2) (by' (showW (tk v))) := by
  unfold whittleref2_Show.f
  refine Ev.bind (rof_ev v h) ?_
  have ok := ok_tk v
  generalize tk v = w at ok ⊢
  cases w with
  | blank => exact Ev.ite_neg (by decide) (Ev.ite_neg (by decide) (Ev.ite_neg (by decide) (Ev.ite_neg (by decide) (Ev.const rfl))))
  | num q =>
    refine Ev.ite_pos rfl ?_
    have ht := textR_ev (i64_num ok) (i64_den ok)
    rw [rat_of_fits ok] at ht
    exact Ev.bind ht (Ev.now _)
  | truth b =>
    refine Ev.ite_neg (show ¬ ((3 : Int) = 1) by decide) (Ev.ite_pos rfl (Ev.const ?_))
    cases b <;> rfl
  | fault c =>
    refine Ev.ite_neg (show ¬ ((4 : Int) = 1) by decide) (Ev.ite_neg (show ¬ ((4 : Int) = 3) by decide) (Ev.ite_pos rfl (Ev.bind (Ev.const (show whittleref2_names.f = some nmB from rfl)) ?_)))
    have h1 := ok.1
    have h2 := ok.2
    refine Ev.ite_pos (show 0 ≤ c by omega) (Ev.ite_pos (show c < 9 by omega) (Ev.const ?_))
    simp only [enc, showW, by_list, nm_same c ok]
  | text l =>
    have hl := ok.1
    have hb : 1 + (by' l).size ≤ 9223372036854775807 := by rw [by_size]; omega
    refine Ev.ite_neg (show ¬ ((2 : Int) = 1) by decide) (Ev.ite_neg (show ¬ ((2 : Int) = 3) by decide) (Ev.ite_neg (show ¬ ((2 : Int) = 4) by decide) (Ev.ite_pos rfl ?_)))
    refine Ev.bind (rread_ev l (by omega)) ?_
    have hd : Ev (fun k => if eqB (enc (readW l)) (enc (.text l)) = true then (if 0 < ((by' l).size : Int) then (if (bt (by' l) 0) = 61 then (if 1 + (by' l).size ≤ 9223372036854775807 then (some ((⟨#[39]⟩ : ByteArray) ++ (by' l))) else (none)) else (some (by' l))) else (none)) else (if 1 + (by' l).size ≤ 9223372036854775807 then (some ((⟨#[39]⟩ : ByteArray) ++ (by' l))) else (none))) (by' (showW (.text l))) := by
      by_cases h0 : l = []
      · subst h0
        exact Ev.ite_neg (by rw [eqB_iff, read_nil]; simp [enc]) (Ev.ite_pos hb (Ev.const (congrArg some (quote_app []))))
      obtain ⟨c, t, rfl⟩ : ∃ c t, l = c :: t := by cases l with | nil => exact absurd rfl h0 | cons c t => exact ⟨c, t, rfl⟩
      have hbt : bt (by' (c :: t)) 0 = (c.toNat : Int) := bt_by (c :: t) 0 (by simp)
      by_cases he : eqB (enc (readW (c :: t))) (enc (.text (c :: t))) = true
      · refine Ev.ite_pos he (Ev.ite_pos (show (0 : Int) < ((by' (c :: t)).size : Int) by rw [by_size, List.length_cons]; omega) ?_)
        by_cases h61 : c = 61
        · have e : showW (.text (c :: t)) = 39 :: c :: t := by subst h61; simp [showW]
          rw [e]
          exact Ev.ite_pos (show bt (by' (c :: t)) 0 = 61 by rw [hbt, h61]; rfl) (Ev.ite_pos hb (Ev.const (congrArg some (quote_app (c :: t)))))
        · have hne : ¬ (bt (by' (c :: t)) 0 = 61) := by
            rw [hbt]
            intro e
            have e' : c.toNat = (61 : UInt8).toNat := by show c.toNat = 61; omega
            exact h61 (UInt8.toNat_inj.1 e')
          have h61' : ¬ (c :: t).head? = some 61 := by simpa using h61
          have e : showW (.text (c :: t)) = c :: t := by
            unfold showW
            simp only
            rw [if_neg h0, if_neg h61', if_pos he]
          rw [e]
          exact Ev.ite_neg hne (Ev.now _)
      · have e : showW (.text (c :: t)) = 39 :: c :: t := by
          unfold showW
          simp only
          rw [if_neg h0]
          split
          all_goals first | rfl | rw [if_neg he]
        rw [e]
        exact Ev.ite_neg he (Ev.ite_pos hb (Ev.const (congrArg some (quote_app (c :: t)))))
    exact hd
end Go.Proofs.YtmakkdlkgfgaoaaDoor.F
