/-
Cmp and Add of the program, as rationals; and that the package is able at all (the statements' first question).
-/
import Derived.Test.YtlcjfabbnclalaaDoorF6
import Derived.Test.YtlcjfabbnclalaaDoorM2
namespace Go.Proofs.YtlcjfabbnclalaaDoor.F
open Go.RowKit Go.Proofs.YtlcjfabbnclalaaDoorW.PrintWords NumM
set_option linter.unusedVariables false
set_option linter.unusedSimpArgs false

/-- how two lie -/
def cmpQ (p q : Rat) : Int := if p < q then -1 else if q < p then 1 else 0

theorem cmp_parts (p q : Rat) (hp : Fits p) (hq : Fits q) : I64 (p.num * q.den) ∧ I64 (q.num * p.den) := by
  have b1 := fits_bounds hp
  have b2 := fits_bounds hq
  have m1 := mul_bounds ⟨b1.1, b1.2.1⟩ (d := (q.den : Int)) ⟨by omega, by omega⟩
  have m2 := mul_bounds ⟨b2.1, b2.2.1⟩ (d := (p.den : Int)) ⟨by omega, by omega⟩
  unfold I64
  omega

theorem cmp_ev {n d m e : Int} (hn : I64 n) (hd : I64 d) (hm : I64 m) (he : I64 e) : Ev (fun k => num_Cmp.f k n d m e) (cmpQ (rat n d) (rat m e)) := by
  unfold num_Cmp.f
  refine Ev.bind (taken_ev hn hd) (Ev.bind (taken_ev hm he) ?_)
  have hp := fits_rat n d
  have hq := fits_rat m e
  generalize rat n d = p at *
  generalize rat m e = q at *
  obtain ⟨h1, h2⟩ := cmp_parts p q hp hq
  simp only [w64 h1, w64 h2, cmp_lt, gt_iff_lt]
  refine Ev.const ?_
  unfold cmpQ
  split
  · rfl
  · split <;> rfl

theorem res_eta (x : Int × Int × Bool) : (x.1, x.2.1, x.2.2) = x := rfl

/-- the parts of a sum lie within an int -/
theorem add_parts (p q : Rat) (hp : Fits p) (hq : Fits q) : I64 (p.num * q.den) ∧ I64 (q.num * p.den) ∧ I64 (p.num * q.den + q.num * p.den) ∧ I64 ((p.den : Int) * q.den) ∧ (p.den : Int) * q.den ≠ 0 := by
  have b1 := fits_bounds hp
  have b2 := fits_bounds hq
  have m1 := mul_bounds ⟨b1.1, b1.2.1⟩ (d := (q.den : Int)) ⟨by omega, by omega⟩
  have m2 := mul_bounds ⟨b2.1, b2.2.1⟩ (d := (p.den : Int)) ⟨by omega, by omega⟩
  have m3 := den_bounds b1.2.2 b2.2.2
  unfold I64
  omega

theorem add_ev {n d m e : Int} (hn : I64 n) (hd : I64 d) (hm : I64 m) (he : I64 e) : Ev (fun k => num_Add.f k n d m e) (res (rat n d + rat m e)) := by
  unfold num_Add.f
  refine Ev.bind (taken_ev hn hd) (Ev.bind (taken_ev hm he) ?_)
  have hp := fits_rat n d
  have hq := fits_rat m e
  generalize rat n d = p at *
  generalize rat m e = q at *
  obtain ⟨h1, h2, h3, h4, h5⟩ := add_parts p q hp hq
  simp only [w64 h1, w64 h2, w64 h3, w64 h4]
  refine Ev.bind (make_ev h3 h4) (Ev.const ?_)
  rw [res_eta, add_formula]
  unfold mk
  rw [if_neg h5]

theorem able_now : whittlelaw1_able.f 60 = some true := by decide +kernel
theorem able_ev : Ev (fun k => whittlelaw1_able.f k) true := Ev.of (fun k => whittlelaw1_able.mono k) able_now
end Go.Proofs.YtlcjfabbnclalaaDoor.F
