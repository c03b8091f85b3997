/-
Values, plainly, more: orders; what typed contents are; how a value is shown.
-/
import Derived.Test.YtmakkdlkgfgaoaaDoorF102
import Derived.Test.YtmakkdlkgfgaoaaDoorF103
import Derived.Test.YtmakkdlkgfgaoaaDoorF104
import Derived.Test.YtmakkdlkgfgaoaaDoorG2
import Derived.Test.YtmakkdlkgfgaoaaDoorG3
import Derived.Test.YtmakkdlkgfgaoaaDoorV2
namespace Go.Proofs.YtmakkdlkgfgaoaaDoor.F
open Go.RowKit Go.Proofs.YtmakkdlkgfgaoaaDoorW.PrintWords NumM
set_option linter.unusedVariables false
set_option linter.unusedSimpArgs false

def kindW : W → Int
  | .blank => 0
  | .num _ => 1
  | .text _ => 2
  | .truth _ => 3
  | .fault _ => 4
theorem kind_enc (w : W) : (enc w).1 = kindW w := by cases w <;> rfl
/-- Blank as a kind -/
def asKind (w : W) (k : Int) : W :=
  match w with
  | .blank => if k = 1 then .num 0 else if k = 2 then .text [] else if k = 3 then .truth false else .blank
  | w => w
theorem asKind_ok {w : W} (h : w.Ok) (k : Int) : (asKind w k).Ok := by
  cases w with
  | blank =>
    unfold asKind
    simp only
    split
    · exact (by decide : Fits 0)
    · split
      · exact ⟨by simp, rfl⟩
      · split <;> trivial
  | _ => exact h
/-- the order of two of whatever kinds -/
def ordW : W → W → Int
  | .num p, .num q => cmpQ p q
  | .text l, .text m => Lib.compareBytes l m
  | .truth s, .truth t => if s = t then 0 else if t = true then -1 else 1
  | .fault c, .fault d => if c < d then -1 else if d < c then 1 else 0
  | x, y => if kindW x < kindW y then -1 else if kindW y < kindW x then 1 else 0
def cmpW (a b : W) : Int := ordW (asKind a (kindW b)) (asKind b (kindW a))
theorem mx_mn (c d : Int) (hc : 1 ≤ c ∧ c ≤ 8) (hd : 1 ≤ d ∧ d ≤ 8) : mx (-1) (mn 1 (wrap64 (c - d))) = if c < d then -1 else if d < c then 1 else 0 := by
  rw [w64 (by unfold I64; omega)]
  unfold mx mn
  split <;> split <;> split <;> omega
theorem ord_ev {x y : W} (hx : x.Ok) (hy : y.Ok) : Ev (fun k => value_Cmp.j1 k (enc x).1 (enc x).2.1 (enc x).2.2.1 (enc x).2.2.2.1 (enc x).2.2.2.2.1 (enc x).2.2.2.2.2 (enc y).1 (enc y).2.1 (enc y).2.2.1 (enc y).2.2.2.1 (enc y).2.2.2.2.1 (enc y).2.2.2.2.2) (ordW x y) := by
  refine Ev.step (fun k => by simp only [value_Cmp.j1]; rfl) ?_
  by_cases h1 : (enc x).1 < (enc y).1
  · refine Ev.ite_pos h1 (Ev.const ?_)
    rw [kind_enc, kind_enc] at h1
    congr 1
    cases x <;> cases y <;> simp only [kindW] at h1 <;> first | omega | rfl
  refine Ev.ite_neg h1 ?_
  by_cases h2 : (enc x).1 > (enc y).1
  · refine Ev.ite_pos h2 (Ev.const ?_)
    rw [kind_enc, kind_enc] at h2
    congr 1
    cases x <;> cases y <;> simp only [kindW] at h2 <;> first | omega | rfl
  refine Ev.ite_neg h2 ?_
  have hk : kindW x = kindW y := by rw [← kind_enc, ← kind_enc]; omega
  cases x with
  | blank =>
    cases y <;> simp [kindW] at hk
    exact Ev.ite_neg (by decide) (Ev.ite_neg (by decide) (Ev.ite_neg (by decide) (Ev.ite_pos rfl (Ev.now _))))
  | num p =>
    cases y <;> simp [kindW] at hk
    rename_i q
    refine Ev.ite_pos rfl ?_
    have := cmp_ev (i64_num hx) (i64_den hx) (i64_num hy) (i64_den hy)
    rw [rat_of_fits hx, rat_of_fits hy] at this
    exact Ev.bind this (Ev.now _)
  | text l =>
    cases y <;> simp [kindW] at hk
    rename_i m
    refine Ev.ite_neg (show ¬ ((2 : Int) = 1) by decide) (Ev.ite_pos rfl (Ev.bind (Ev.const rfl) (Ev.const ?_)))
    simp only [enc, by_data]; rfl
  | truth s =>
    cases y <;> simp [kindW] at hk
    rename_i t
    refine Ev.ite_neg (show ¬ ((3 : Int) = 1) by decide) (Ev.ite_neg (show ¬ ((3 : Int) = 2) by decide) (Ev.ite_neg (show ¬ ((3 : Int) = 4) by decide) (Ev.const ?_)))
    cases s <;> cases t <;> rfl
  | fault c =>
    cases y <;> simp [kindW] at hk
    rename_i d
    refine Ev.ite_neg (show ¬ ((4 : Int) = 1) by decide) (Ev.ite_neg (show ¬ ((4 : Int) = 2) by decide) (Ev.ite_pos rfl (Ev.const ?_)))
    exact congrArg some (mx_mn c d hx hy)
theorem beside_w (w : W) : Ev (fun k => value_beside.f k (enc w).1) (enc (asKind .blank (kindW w))) := by
  have := beside_ev (enc w).1
  rw [kind_enc] at this ⊢
  exact this
theorem cmp_j0 {x b : W} (hx : x.Ok) (hb : b.Ok) : Ev (fun k => value_Cmp.j0 k (enc x).1 (enc x).2.1 (enc x).2.2.1 (enc x).2.2.2.1 (enc x).2.2.2.2.1 (enc x).2.2.2.2.2 (enc b).1 (enc b).2.1 (enc b).2.2.1 (enc b).2.2.2.1 (enc b).2.2.2.2.1 (enc b).2.2.2.2.2) (ordW x (asKind b (kindW x))) := by
  refine Ev.step (fun k => by simp only [value_Cmp.j0]; rfl) ?_
  by_cases h : (enc b).1 = 0
  · refine Ev.ite_pos h ?_
    have hb0 : b = .blank := by
      cases b <;> simp [enc] at h
      rfl
    subst hb0
    have hy := asKind_ok (w := .blank) trivial (kindW x)
    refine Ev.bind (beside_w x) ?_
    exact ord_ev hx hy
  · refine Ev.ite_neg h ?_
    have e : asKind b (kindW x) = b := by
      cases b <;> first | rfl | exact absurd rfl h
    rw [e]
    exact ord_ev hx hb
theorem vcmp_ev (v u : V) (h : BV v) (h' : BV u) : Ev (fun k => value_Cmp.f k v.1 v.2.1 v.2.2.1 v.2.2.2.1 v.2.2.2.2.1 v.2.2.2.2.2 u.1 u.2.1 u.2.2.1 u.2.2.2.1 u.2.2.2.2.1 u.2.2.2.2.2) (cmpW (tk v) (tk u)) := by
  unfold value_Cmp.f cmpW
  refine Ev.bind (wtaken_ev v h) (Ev.bind (wtaken_ev u h') ?_)
  have ok := ok_tk v
  have ok' := ok_tk u
  generalize tk v = a at ok ⊢
  generalize tk u = b at ok' ⊢
  by_cases ha : (enc a).1 = 0
  · have ha0 : a = .blank := by
      cases a <;> simp [enc] at ha
      rfl
    subst ha0
    refine Ev.ite_pos ha (Ev.bind (beside_w b) ?_)
    have hx := asKind_ok (w := .blank) trivial (kindW b)
    have := cmp_j0 hx ok'
    rw [show asKind b (kindW .blank) = asKind b (kindW (asKind .blank (kindW b))) from by cases b <;> rfl]
    exact this
  · refine Ev.ite_neg ha ?_
    rw [show asKind a (kindW b) = a from by cases a <;> first | rfl | exact absurd rfl ha]
    exact cmp_j0 ok ok'
theorem evcmp_ev {a b : W} (h : a.Ok) (h' : b.Ok) : Ev (fun k => value_Cmp.f k (enc a).1 (enc a).2.1 (enc a).2.2.1 (enc a).2.2.2.1 (enc a).2.2.2.2.1 (enc a).2.2.2.2.2 (enc b).1 (enc b).2.1 (enc b).2.2.1 (enc b).2.2.2.1 (enc b).2.2.2.2.1 (enc b).2.2.2.2.2) (cmpW a b) := by
  have := vcmp_ev (enc a) (enc b) (bv_enc h) (bv_enc h')
  rw [tk_enc h, tk_enc h'] at this
  exact this
/-- the same, for a search -/
def sameW (a b : W) : Bool := if kindW a = kindW b then (if kindW a = 0 then false else if kindW a = 4 then false else (cmpW a b == 0)) else false
theorem same_ev (v u : V) (h : BV v) (h' : BV u) : Ev (fun k => value_Same.f k v.1 v.2.1 v.2.2.1 v.2.2.2.1 v.2.2.2.2.1 v.2.2.2.2.2 u.1 u.2.1 u.2.2.1 u.2.2.2.1 u.2.2.2.2.1 u.2.2.2.2.2) (sameW (tk v) (tk u)) := by
  unfold value_Same.f sameW
  refine Ev.bind (wtaken_ev v h) (Ev.bind (wtaken_ev u h') ?_)
  have ok := ok_tk v
  have ok' := ok_tk u
  generalize tk v = a at ok ⊢
  generalize tk u = b at ok' ⊢
  simp only [kind_enc]
  refine Ev.ite (fun h1 => Ev.ite (fun h2 => Ev.now _) fun h2 => Ev.ite (fun h3 => Ev.now _) fun h3 => ?_) fun h1 => Ev.now _
  have := evcmp_ev ok ok'
  simp only [kind_enc] at this
  exact Ev.bind this (Ev.now _)

/-- what a text that is no number, no truth is -/
def nameW (l : List UInt8) : W :=
  if l = [35, 68, 73, 86, 47, 48, 33] then .fault 1 else if l = [35, 86, 65, 76, 85, 69, 33] then .fault 2 else if l = [35, 82, 69, 70, 33] then .fault 3 else if l = [35, 78, 85, 77, 33] then .fault 4
  else if l = [35, 78, 47, 65] then .fault 5 else if l = [35, 67, 73, 82, 67, 76, 69, 33] then .fault 6 else if l = [35, 76, 79, 78, 71, 33] then .fault 7 else if l = [35, 65, 82, 71, 33] then .fault 8 else textW l
def wordW (l : List UInt8) : W := if l = [] then .blank else if l = [84, 82, 85, 69] then .truth true else if l = [70, 65, 76, 83, 69] then .truth false else nameW l
def plainReadW (l : List UInt8) : W := if (readS l).2.2 = true then .num (rat (readS l).1 (readS l).2.1) else wordW l
/-- what typed contents are -/
def readW : List UInt8 → W
  | [] => plainReadW []
  | c :: l => if c = 39 then textW l else plainReadW (c :: l)
theorem cut_quote (l : List UInt8) : strings_CutPrefix.f (by' l) ⟨#[39]⟩ = some (match l with | [] => (by' [], false) | c :: t => if c = 39 then (by' t, true) else (by' (c :: t), false)) := by
  have e1 : (⟨#[39]⟩ : ByteArray) = by' [39] := rfl
  have s1 : ((by' [39]).size : Int) = 1 := rfl
  unfold strings_CutPrefix.f stringslite_CutPrefix.f stringslite_HasPrefix.f
  rw [e1]
  cases l with
  | nil =>
    rw [if_neg (by rw [by_size, by_size]; simp)]
    simp
  | cons c t =>
    rw [if_pos (by rw [by_size, by_size, List.length_cons, List.length_cons, List.length_nil]; omega), if_pos (by omega), if_pos (by rw [by_size, by_size, List.length_cons, List.length_cons, List.length_nil]; omega)]
    rw [s1, show Int.toNat 1 = 1 from rfl, by_extract, by_toList, by_toList]
    by_cases hc : c = 39
    · subst hc
      simp only [if_true, Option.bind_some]
      rw [if_pos (by simp), if_pos (by omega), if_pos (by rw [by_size, List.length_cons]; omega), by_tail]
      rfl
    · simp only [if_neg hc, Option.bind_some]
      rw [if_neg (by simpa using hc)]
      rfl
theorem vtextb_ev (l : List UInt8) (hl : l.length ≤ 9223372036854775807) : Ev (fun k => value_Text.f k (by' l)) (enc (textW l)) := by
  have := vtext_ev (by' l) (by rw [by_size]; exact hl)
  rwa [by_toList] at this
theorem name_step (l n : List UInt8) (i : Int) (r : V) (hi : 0 ≤ i ∧ i < 8) (hn : (nmA i).toList = n) (ih : Ev (fun k => value_Read.l0 k (by' l) (i + 1)) r) : Ev (fun k => value_Read.l0 k (by' l) i) (if l = n then enc (.fault (i + 1)) else r) := by
  refine Ev.step (fun k => by simp only [value_Read.l0]; exact if_pos hi.2) (Ev.ite_pos hi.1 ?_)
  rw [by_toList, hn]
  refine Ev.ite (fun h => Ev.const ?_) fun h => ih
  rw [fault_ev, if_neg (by omega), if_neg (by omega)]
theorem names_ev (l : List UInt8) (hl : l.length ≤ 9223372036854775807) : Ev (fun k => value_Read.l0 k (by' l) 0) (enc (nameW l)) := by
  have h8 : Ev (fun k => value_Read.l0 k (by' l) 8) (enc (textW l)) := Ev.step (fun k => by simp only [value_Read.l0]; exact if_neg (by decide)) (vtextb_ev l hl)
  have h7 := name_step l [35, 65, 82, 71, 33] 7 _ (by decide) (by_toList [35, 65, 82, 71, 33]) h8
  have h6 := name_step l [35, 76, 79, 78, 71, 33] 6 _ (by decide) (by_toList [35, 76, 79, 78, 71, 33]) h7
  have h5 := name_step l [35, 67, 73, 82, 67, 76, 69, 33] 5 _ (by decide) (by_toList [35, 67, 73, 82, 67, 76, 69, 33]) h6
  have h4 := name_step l [35, 78, 47, 65] 4 _ (by decide) (by_toList [35, 78, 47, 65]) h5
  have h3 := name_step l [35, 78, 85, 77, 33] 3 _ (by decide) (by_toList [35, 78, 85, 77, 33]) h4
  have h2 := name_step l [35, 82, 69, 70, 33] 2 _ (by decide) (by_toList [35, 82, 69, 70, 33]) h3
  have h1 := name_step l [35, 86, 65, 76, 85, 69, 33] 1 _ (by decide) (by_toList [35, 86, 65, 76, 85, 69, 33]) h2
  have h0 := name_step l [35, 68, 73, 86, 47, 48, 33] 0 _ (by decide) (by_toList [35, 68, 73, 86, 47, 48, 33]) h1
  unfold nameW
  simp only [apply_ite enc]
  exact h0
theorem rest_ev (l : List UInt8) (hl : l.length ≤ 9223372036854775807) : Ev (fun k => (num_Read.f k (by' l)).bind fun bt2 => (if bt2.2.2 = true then (value_Number.f k bt2.1 bt2.2.1) else (if (by' l).toList = ([] : List UInt8) then (value_Blank.f) else (if (by' l).toList = ([84, 82, 85, 69] : List UInt8) then (value_Truth.f true) else (if (by' l).toList = ([70, 65, 76, 83, 69] : List UInt8) then (value_Truth.f false) else (value_Read.l0 k (by' l) 0)))))) (enc (plainReadW l)) := by
  refine Ev.bind (read_ev l hl) ?_
  unfold plainReadW wordW
  simp only [apply_ite enc, by_toList]
  refine Ev.ite (fun h => ?_) fun h => Ev.ite (fun h => Ev.const rfl) fun h => Ev.ite (fun h => Ev.const rfl) fun h => Ev.ite (fun h => Ev.const rfl) fun h => names_ev l hl
  rcases readS_cases l with hr | ⟨r, hr, he⟩
  · rw [hr] at h; exact absurd h (by decide)
  · rw [he]
    exact number_ev (i64_num hr) (i64_den hr)
theorem vread_ev (l : List UInt8) (hl : l.length ≤ 9223372036854775807) : Ev (fun k => value_Read.f k (by' l)) (enc (readW l)) := by
  unfold value_Read.f
  refine Ev.bind (Ev.const (cut_quote l)) ?_
  cases l with
  | nil => exact Ev.ite_neg (by simp) (rest_ev [] hl)
  | cons c t =>
    unfold readW
    by_cases hc : c = 39
    · simp only [if_pos hc]
      exact Ev.ite_pos trivial (vtextb_ev t (by simp only [List.length_cons] at hl; omega))
    · simp only [if_neg hc]
      exact Ev.ite_neg (by simp) (rest_ev (c :: t) hl)
theorem vreads_ev (s : ByteArray) (hs : s.size ≤ 9223372036854775807) : Ev (fun k => value_Read.f k s) (enc (readW s.toList)) := by
  have := vread_ev s.toList (by rw [size_toList]; exact hs)
  rwa [by_list] at this

/-- how a value is shown -/
def showW : W → List UInt8
  | .blank => []
  | .num q => textS q
  | .text l => if l = [] then [39] else if l.head? = some 61 then 39 :: l else if eqB (enc (readW l)) (enc (.text l)) = true then l else 39 :: l
  | .truth b => wordL b
  | .fault c => (nmA (c - 1)).toList
theorem neB_eq (v u : V) : (!(v.1 == u.1) || ((!(v.2.1 == u.2.1) || (!(v.2.2.1 == u.2.2.1))) || (!(v.2.2.2.1.toList == u.2.2.2.1.toList) || (!(v.2.2.2.2.1 == u.2.2.2.2.1) || (!(v.2.2.2.2.2 == u.2.2.2.2.2)))))) = !eqB v u := by
  unfold eqB
  simp only [Bool.not_and]
theorem quote_app (l : List UInt8) : (⟨#[39]⟩ : ByteArray) ++ by' l = by' (39 :: l) := by_app [39] l
theorem show_ev (v : V) (h : BV v) : Ev (fun k => value_Show.f k v.1 v.2.1 v.2.2.1 v.2.2.2.1 v.2.2.2.2.1 v.2.2.2.2.2) (by' (showW (tk v))) := by
  unfold value_Show.f
  refine Ev.bind (wtaken_ev v h) ?_
  have ok := ok_tk v
  generalize tk v = w at ok ⊢
  cases w with
  | blank => exact Ev.ite_neg (by decide) (Ev.ite_neg (by decide) (Ev.bind (eastext_ev (w := .blank) ok) (Ev.now _)))
  | num q => exact Ev.ite_neg (show ¬ ((1 : Int) = 4) by decide) (Ev.ite_neg (show ¬ ((1 : Int) = 2) by decide) (Ev.bind (eastext_ev (w := .num q) ok) (Ev.now _)))
  | truth b => exact Ev.ite_neg (show ¬ ((3 : Int) = 4) by decide) (Ev.ite_neg (show ¬ ((3 : Int) = 2) by decide) (Ev.bind (eastext_ev (w := .truth b) ok) (Ev.now _)))
  | fault c =>
    refine Ev.ite_pos rfl (Ev.ite_pos ok.1 (Ev.ite_pos ok.2 (Ev.const ?_)))
    simp only [enc, showW, by_list]
  | text l =>
    have hl := ok.1
    have hb : 1 + (by' l).size ≤ 9223372036854775807 := by rw [by_size]; omega
    refine Ev.ite_neg (show ¬ ((2 : Int) = 4) by decide) (Ev.ite_pos rfl ?_)
    by_cases h0 : l = []
    · subst h0
      exact Ev.ite_pos (by_toList []) (Ev.ite_pos hb (Ev.const (congrArg some (quote_app []))))
    refine Ev.ite_neg (fun e => h0 ((by_toList l).symm.trans e)) ?_
    obtain ⟨c, t, rfl⟩ : ∃ c t, l = c :: t := by cases l with | nil => exact absurd rfl h0 | cons c t => exact ⟨c, t, rfl⟩
    refine Ev.ite_pos (show (0 : Int) < ((by' (c :: t)).size : Int) by rw [by_size, List.length_cons]; omega) ?_
    have hbt : bt (by' (c :: t)) 0 = (c.toNat : Int) := bt_by (c :: t) 0 (by simp)
    by_cases h61 : c = 61
    · have e : showW (.text (c :: t)) = 39 :: c :: t := by subst h61; simp [showW]
      rw [e]
      exact Ev.ite_pos (show bt (by' (c :: t)) 0 = 61 by rw [hbt, h61]; rfl) (Ev.ite_pos hb (Ev.const (congrArg some (quote_app (c :: t)))))
    · have hne : ¬ (bt (by' (c :: t)) 0 = 61) := by
        rw [hbt]
        intro e
        have e' : c.toNat = (61 : UInt8).toNat := by show c.toNat = 61; omega
        exact h61 (UInt8.toNat_inj.1 e')
      have h61' : ¬ (c :: t).head? = some 61 := by simpa using h61
      refine Ev.ite_neg hne (Ev.bind (vread_ev (c :: t) (by omega)) ?_)
      have hq := neB_eq (enc (readW (c :: t))) (enc (.text (c :: t)))
      by_cases he : eqB (enc (readW (c :: t))) (enc (.text (c :: t))) = true
      · have e : showW (.text (c :: t)) = c :: t := by
          unfold showW
          simp only
          rw [if_neg h0, if_neg h61', if_pos he]
        rw [e]
        rw [he] at hq
        exact Ev.ite_neg (fun h => Bool.false_ne_true (hq.symm.trans h)) (Ev.now _)
      · have e : showW (.text (c :: t)) = 39 :: c :: t := by
          unfold showW
          simp only
          rw [if_neg h0, if_neg h61', if_neg he]
        rw [e]
        rw [Bool.not_eq_true] at he
        rw [he] at hq
        exact Ev.ite_pos hq (Ev.ite_pos hb (Ev.const (congrArg some (quote_app (c :: t)))))
end Go.Proofs.YtmakkdlkgfgaoaaDoor.F
