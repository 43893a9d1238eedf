/- RiceNearer: what is nearer has no more bits, and one k more halves the zeros. For every input (the law's own guards are in it). -/
import Derived.Test.YtkkjpaijkhhlcaaPAx24
import Derived.Test.YtkkjpaijkhhlcaaPRiceAwake
namespace Go.Proofs.Ytkkjpaijkhhlcaa.Pure
open Go.RowKit Go.Proofs.Ytkkjpaijkhhlcaa.PA Go.Proofs.YtkkjpaijkhhlcaaW.PrintWords Go.Proofs.YtkkjpaijkhhlcaaW.PrintLast Go.Proofs.YtkkjpaijkhhlcaaW.PrintMore Go.Proofs.Ytkkjpaijkhhlcaa.PL
set_option linter.unusedSimpArgs false
set_option linter.unusedVariables false
theorem reach_eq {n : Int} (h : IsNear n) : mx n (wrap64 (wrap64 (-n) - 1)) = fold n / 2 := by
  unfold IsNear at h
  rw [w64 (x := -n) (by omega) (by omega), w64 (x := -n - 1) (by omega) (by omega)]
  unfold mx fold
  split <;> split <;> omega
theorem sz_mono {x y : Int} (k : Nat) (h : fold x / 2 < fold y / 2) : ¬ sz x k > sz y k := by
  unfold sz
  have : fold x / 2 ^ k ≤ fold y / 2 ^ k := Int.ediv_le_ediv (Int.pow_pos (by decide)) (by omega)
  omega
theorem j1_ev {x : Int} (hx : IsNear x) (k : Nat) (hk : k ≤ 29) : Ev (fun q => serinettelaw02_RiceNearer.j1 q x true (k : Int) false) true := by
  have s1 := sz_bd (n := x) (k := k) hx (by omega)
  have s2 := sz_bd (n := x) (k := k + 1) hx (by omega)
  have e0 : wrap64 ((k : Int) + 1) = ((k + 1 : Nat) : Int) := by rw [w64 (by omega) (by omega)]; omega
  have e1 : wrap64 (wrap64 (sz x k - 1) - (k : Int)) = fold x / 2 ^ k := by
    rw [w64 (x := sz x k - 1) (by omega) (by omega), w64 (by omega) (by omega)]; unfold sz; omega
  have hf := fold_near hx
  have hd := div_pow_bd (x := fold x) (s := k) hf.1
  have e2 : (fold x / 2 ^ k).tdiv 2 = fold x / 2 ^ (k + 1) := by
    rw [Int.tdiv_eq_ediv_of_nonneg hd.1, Int.pow_succ, Int.ediv_ediv_of_nonneg (Int.pow_nonneg (by decide))]
  have hd2 := div_pow_bd (x := fold x) (s := k + 1) hf.1
  have e3 : wrap64 (wrap64 (wrap64 (fold x / 2 ^ (k + 1)) + 2) + (k : Int)) = sz x (k + 1) := by
    rw [w64 (x := fold x / 2 ^ (k + 1)) (by omega) (by omega), w64 (x := fold x / 2 ^ (k + 1) + 2) (by omega) (by omega), w64 (by omega) (by omega)]; unfold sz; omega
  refine succ ?_
  simp only [serinettelaw02_RiceNearer.j1]
  refine neg (by simp) ?_
  rw [e0, size_eq, size_eq, if_pos hx, if_pos hx, kk_nat (by omega), kk_nat (by omega)]
  simp only [Option.bind_some]
  rw [e1, e2, e3]
  refine pos trivial (pos hd.1 (cst ?_))
  simp
theorem RiceNearer : serinettelaw02_RiceNearer.Pure := by
  intro x y z hx hy hz
  have bz := wfu8 hz
  obtain ⟨k, hk⟩ := Int.eq_ofNat_of_zero_le (show 0 ≤ z % 30 by omega)
  have ez : wrap64 (Int.tmod z 30) = (k : Int) := by rw [Int.tmod_eq_emod_of_nonneg bz.1, w64 (by omega) (by omega), hk]
  have hk29 : k ≤ 29 := by omega
  refine Ev.rounds ?_
  unfold serinettelaw02_RiceNearer.f
  refine bnd awake_ev ?_
  rw [near_eq, near_eq]
  simp only [Option.bind_some]
  have skip : Ev (fun q => serinettelaw02_RiceNearer.j0 q x y z true true) true := by
    refine succ ?_
    simp only [serinettelaw02_RiceNearer.j0]
    exact pos trivial (now _)
  by_cases nx : IsNear x
  · refine pos (by simpa using nx) ?_
    by_cases ny : IsNear y
    · rw [decide_eq_true ny]
      refine succ ?_
      simp only [serinettelaw02_RiceNearer.j0]
      refine neg (by simp) ?_
      rw [reach_eq nx, reach_eq ny, ez, size_eq, size_eq, if_pos nx, if_pos ny, kk_nat (by omega)]
      simp only [Option.bind_some]
      by_cases hc : fold x / 2 < fold y / 2
      · refine pos hc ?_
        rw [decide_eq_false (sz_mono k hc)]
        exact j1_ev nx k hk29
      · exact neg hc (j1_ev nx k hk29)
    · rw [decide_eq_false ny]; exact skip
  · exact neg (by simpa using nx) skip
end Go.Proofs.Ytkkjpaijkhhlcaa.Pure
