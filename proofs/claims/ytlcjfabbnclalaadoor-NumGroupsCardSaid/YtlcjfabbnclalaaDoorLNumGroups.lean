/-
NumGroups, plainly: sums and products in any grouping.
-/
import Derived.Test.YtlcjfabbnclalaaDoorF40
import Derived.Test.YtlcjfabbnclalaaDoorKNumGroups
namespace Go.Proofs.YtlcjfabbnclalaaDoor.F
open Go.RowKit Go.Proofs.YtlcjfabbnclalaaDoorW.PrintWords NumM
set_option linter.unusedVariables false
set_option linter.unusedSimpArgs false

theorem groups_j3 {n d m e c g : Int} (hn : I64 n) (hd : I64 d) (hm : I64 m) (he : I64 e) (hc : I64 c) (hg : I64 g) :
    Ev (fun k => whittlelaw1_NumGroups.j3 k (res (rat n d * rat m e)).2.2 (res (rat m e + rat c g)).2.2 false n d c g (res (rat n d * rat m e)).1 (res (rat n d * rat m e)).2.1 (res (rat m e + rat c g)).1 (res (rat m e + rat c g)).2.1) true := by
  refine Ev.step (fun k => by simp only [whittlelaw1_NumGroups.j3]; exact if_neg (by simp)) ?_
  have z1 := res_i64 (rat m e + rat c g)
  have z2 := res_i64 (rat n d * rat m e)
  refine Ev.bind (mul_ev hn hd z1.1 z1.2) (Ev.bind (mul_ev hn hd hc hg) ?_)
  have z3 := res_i64 (rat n d * rat c g)
  refine Ev.bind (add_ev z2.1 z2.2 z3.1 z3.2) ?_
  rw [rat_res, rat_res, rat_res]
  generalize rat n d = p at *
  generalize rat m e = q at *
  generalize rat c g = r at *
  by_cases h1 : Fits (q + r)
  · refine Ev.ite_pos ((res_ok _).2 h1) ?_
    by_cases h2 : Fits (p * rr (q + r))
    · refine Ev.ite_pos ((res_ok _).2 h2) ?_
      by_cases h3 : Fits (p * q)
      · refine Ev.ite_pos ((res_ok _).2 h3) ?_
        by_cases h4 : Fits (p * r)
        · refine Ev.ite_pos ((res_ok _).2 h4) ?_
          by_cases h5 : Fits (rr (p * q) + rr (p * r))
          · refine Ev.ite_pos ((res_ok _).2 h5) (Ev.const ?_)
            have e : p * rr (q + r) = rr (p * q) + rr (p * r) := by
              rw [rr_pos h1, rr_pos h4, rr_pos h3, Rat.mul_add]
            rw [e]; simp
          · exact Ev.ite_neg (fun h => h5 ((res_ok _).1 h)) (Ev.now _)
        · exact Ev.ite_neg (fun h => h4 ((res_ok _).1 h)) (Ev.now _)
      · exact Ev.ite_neg (fun h => h3 ((res_ok _).1 h)) (Ev.now _)
    · exact Ev.ite_neg (fun h => h2 ((res_ok _).1 h)) (Ev.now _)
  · exact Ev.ite_neg (fun h => h1 ((res_ok _).1 h)) (Ev.now _)

theorem groups_j2 {n d m e c g : Int} (hn : I64 n) (hd : I64 d) (hm : I64 m) (he : I64 e) (hc : I64 c) (hg : I64 g) :
    Ev (fun k => whittlelaw1_NumGroups.j2 k (res (rat n d * rat m e)).2.2 (res (rat m e + rat c g)).2.2 false n d m e c g (res (rat n d * rat m e)).1 (res (rat n d * rat m e)).2.1 (res (rat m e + rat c g)).1 (res (rat m e + rat c g)).2.1) true := by
  refine Ev.step (fun k => by simp only [whittlelaw1_NumGroups.j2]; exact if_neg (by simp)) ?_
  have z2 := res_i64 (rat n d * rat m e)
  refine Ev.bind (mul_ev z2.1 z2.2 hc hg) (Ev.bind (mul_ev hm he hc hg) ?_)
  have z3 := res_i64 (rat m e * rat c g)
  refine Ev.bind (mul_ev hn hd z3.1 z3.2) ?_
  have last := groups_j3 hn hd hm he hc hg
  rw [rat_res, rat_res]
  by_cases h3 : Fits (rat n d * rat m e)
  · refine Ev.ite_pos ((res_ok _).2 h3) ?_
    by_cases h1 : Fits (rr (rat n d * rat m e) * rat c g)
    · refine Ev.ite_pos ((res_ok _).2 h1) ?_
      by_cases h2 : Fits (rat m e * rat c g)
      · refine Ev.ite_pos ((res_ok _).2 h2) ?_
        by_cases h4 : Fits (rat n d * rr (rat m e * rat c g))
        · refine Ev.ite_pos ((res_ok _).2 h4) ?_
          have e : rr (rat n d * rat m e) * rat c g = rat n d * rr (rat m e * rat c g) := by rw [rr_pos h3, rr_pos h2, Rat.mul_assoc]
          rw [e, beq_self_eq_true, beq_self_eq_true]
          exact last
        · exact Ev.ite_neg (fun h => h4 ((res_ok _).1 h)) last
      · exact Ev.ite_neg (fun h => h2 ((res_ok _).1 h)) last
    · exact Ev.ite_neg (fun h => h1 ((res_ok _).1 h)) last
  · exact Ev.ite_neg (fun h => h3 ((res_ok _).1 h)) last

theorem groups_j1 {n d m e c g : Int} (hn : I64 n) (hd : I64 d) (hm : I64 m) (he : I64 e) (hc : I64 c) (hg : I64 g) :
    Ev (fun k => whittlelaw1_NumGroups.j1 k (res (rat n d + rat m e)).2.2 (res (rat n d * rat m e)).2.2 false n d m e c g (res (rat n d + rat m e)).1 (res (rat n d + rat m e)).2.1 (res (rat n d * rat m e)).1 (res (rat n d * rat m e)).2.1) true := by
  refine Ev.step (fun k => by simp only [whittlelaw1_NumGroups.j1]; exact if_neg (by simp)) ?_
  have z2 := res_i64 (rat n d + rat m e)
  refine Ev.bind (add_ev z2.1 z2.2 hc hg) (Ev.bind (add_ev hm he hc hg) ?_)
  have z3 := res_i64 (rat m e + rat c g)
  refine Ev.bind (add_ev hn hd z3.1 z3.2) ?_
  have last := groups_j2 hn hd hm he hc hg
  rw [rat_res, rat_res]
  by_cases h3 : Fits (rat n d + rat m e)
  · refine Ev.ite_pos ((res_ok _).2 h3) ?_
    by_cases h1 : Fits (rr (rat n d + rat m e) + rat c g)
    · refine Ev.ite_pos ((res_ok _).2 h1) ?_
      by_cases h2 : Fits (rat m e + rat c g)
      · refine Ev.ite_pos ((res_ok _).2 h2) ?_
        by_cases h4 : Fits (rat n d + rr (rat m e + rat c g))
        · refine Ev.ite_pos ((res_ok _).2 h4) ?_
          have e : rr (rat n d + rat m e) + rat c g = rat n d + rr (rat m e + rat c g) := by rw [rr_pos h3, rr_pos h2, Rat.add_assoc]
          rw [e, beq_self_eq_true, beq_self_eq_true]
          exact last
        · exact Ev.ite_neg (fun h => h4 ((res_ok _).1 h)) last
      · exact Ev.ite_neg (fun h => h2 ((res_ok _).1 h)) last
    · exact Ev.ite_neg (fun h => h1 ((res_ok _).1 h)) last
  · exact Ev.ite_neg (fun h => h3 ((res_ok _).1 h)) last

theorem groups_j0 {n d m e c g : Int} (hn : I64 n) (hd : I64 d) (hm : I64 m) (he : I64 e) (hc : I64 c) (hg : I64 g) :
    Ev (fun k => whittlelaw1_NumGroups.j0 k (res (rat n d + rat m e)).2.2 (res (rat n d * rat m e)).2.2 false n d m e c g (res (rat n d + rat m e)).1 (res (rat n d + rat m e)).2.1 (res (rat n d * rat m e)).1 (res (rat n d * rat m e)).2.1) true := by
  refine Ev.step (fun k => by simp only [whittlelaw1_NumGroups.j0]; exact if_neg (by simp)) ?_
  have last := groups_j1 hn hd hm he hc hg
  by_cases h1 : Fits (rat n d + rat m e)
  · refine Ev.ite_pos ((res_ok _).2 h1) (Ev.bind (rightRes_ev h1) (Ev.ite_pos rfl ?_))
    by_cases h2 : Fits (rat n d * rat m e)
    · exact Ev.ite_pos ((res_ok _).2 h2) (Ev.bind (rightRes_ev h2) last)
    · exact Ev.ite_neg (fun h => h2 ((res_ok _).1 h)) last
  · refine Ev.ite_neg (fun h => h1 ((res_ok _).1 h)) ?_
    by_cases h2 : Fits (rat n d * rat m e)
    · exact Ev.ite_pos ((res_ok _).2 h2) (Ev.bind (rightRes_ev h2) last)
    · exact Ev.ite_neg (fun h => h2 ((res_ok _).1 h)) last

theorem NumGroups_pure (n d m e c g : Int) (hn : I64 n) (hd : I64 d) (hm : I64 m) (he : I64 e) (hc : I64 c) (hg : I64 g) : ∃ r, whittlelaw1_NumGroups.f r n d m e c g = some true := by
  refine Ev.rounds ?_
  unfold whittlelaw1_NumGroups.f
  refine Ev.bind (add_ev hn hd hm he) (Ev.bind (add_ev hm he hn hd) (Ev.bind (mul_ev hn hd hm he) (Ev.bind (mul_ev hm he hn hd) ?_)))
  rw [Rat.add_comm (rat m e) (rat n d), Rat.mul_comm (rat m e) (rat n d)]
  refine Ev.ite_neg (by simp) (Ev.ite_neg (by simp) (Ev.ite_neg (by simp) (Ev.ite_neg (by simp) (Ev.bind able_ev ?_))))
  exact groups_j0 hn hd hm he hc hg
end Go.Proofs.YtlcjfabbnclalaaDoor.F
