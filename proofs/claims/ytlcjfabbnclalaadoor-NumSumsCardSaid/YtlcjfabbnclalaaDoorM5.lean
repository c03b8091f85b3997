/-
Neg and Sub of the program; Add, Neg and Sub of the reference, as rationals.
-/
import Derived.Test.YtlcjfabbnclalaaDoorF17
import Derived.Test.YtlcjfabbnclalaaDoorM4
namespace Go.Proofs.YtlcjfabbnclalaaDoor.F
open Go.RowKit Go.Proofs.YtlcjfabbnclalaaDoorW.PrintWords NumM
set_option linter.unusedVariables false
set_option linter.unusedSimpArgs false

/-- a rational as a pair of ints -/
def nd (q : Rat) : Int × Int := (q.num, (q.den : Int))

theorem fits_neg {q : Rat} (h : Fits q) : Fits (-q) := by
  unfold Fits at *
  rw [Rat.neg_num, Rat.neg_den, Int.natAbs_neg]
  exact h

theorem rat_nd {q : Rat} (h : Fits q) : rat (nd q).1 (nd q).2 = q := rat_of_fits h
theorem i64_num {q : Rat} (h : Fits q) : I64 q.num := by have := fits_bounds h; unfold I64; omega
theorem i64_den {q : Rat} (h : Fits q) : I64 (q.den : Int) := by have := fits_bounds h; unfold I64; omega

theorem neg_ev {n d : Int} (hn : I64 n) (hd : I64 d) : Ev (fun k => num_Neg.f k n d) (nd (-(rat n d))) := by
  unfold num_Neg.f
  refine Ev.bind (taken_ev hn hd) (Ev.const ?_)
  have h := fits_bounds (fits_rat n d)
  rw [w64 (x := -(rat n d).num) (by unfold I64; omega)]
  rfl

theorem negR_ev {n d : Int} (hn : I64 n) (hd : I64 d) : Ev (fun k => whittleref1_Neg.f k n d) (nd (-(rat n d))) := by
  unfold whittleref1_Neg.f
  refine Ev.bind (ofR_ev hn hd) (Ev.const ?_)
  have h := fits_bounds (fits_rat n d)
  rw [w64 (x := -(rat n d).num) (by unfold I64; omega)]
  rfl

theorem addR_ev {n d m e : Int} (hn : I64 n) (hd : I64 d) (hm : I64 m) (he : I64 e) : Ev (fun k => whittleref1_Add.f k n d m e) (res (rat n d + rat m e)) := by
  unfold whittleref1_Add.f
  refine Ev.bind (ofR_ev hn hd) (Ev.bind (ofR_ev hm he) ?_)
  have hp := fits_rat n d
  have hq := fits_rat m e
  generalize rat n d = p at *
  generalize rat m e = q at *
  obtain ⟨h1, h2, h3, h4, h5⟩ := add_parts p q hp hq
  simp only [w64 h1, w64 h2, w64 h3, w64 h4]
  refine Ev.bind (makeR_ev h3 h4) (Ev.const ?_)
  rw [res_eta, add_formula]
  unfold mk
  rw [if_neg h5]

theorem sub_ev {n d m e : Int} (hn : I64 n) (hd : I64 d) (hm : I64 m) (he : I64 e) : Ev (fun k => num_Sub.f k n d m e) (res (rat n d - rat m e)) := by
  unfold num_Sub.f
  refine Ev.bind (neg_ev hm he) ?_
  have hf := fits_neg (fits_rat m e)
  refine Ev.bind (add_ev hn hd (i64_num hf) (i64_den hf)) (Ev.const ?_)
  rw [res_eta, rat_nd hf, Rat.sub_eq_add_neg]

theorem subR_ev {n d m e : Int} (hn : I64 n) (hd : I64 d) (hm : I64 m) (he : I64 e) : Ev (fun k => whittleref1_Sub.f k n d m e) (res (rat n d - rat m e)) := by
  unfold whittleref1_Sub.f
  refine Ev.bind (negR_ev hm he) ?_
  have hf := fits_neg (fits_rat m e)
  refine Ev.bind (addR_ev hn hd (i64_num hf) (i64_den hf)) (Ev.const ?_)
  rw [res_eta, rat_nd hf, Rat.sub_eq_add_neg]
end Go.Proofs.YtlcjfabbnclalaaDoor.F
