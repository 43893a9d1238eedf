/- RiceFolds: Fold, Unfold, Near, Size answer as their plain twins. For every input (the law's own guards are in it). -/
import Derived.Test.YtkkjpaijkhhlcaaPAx28
import Derived.Test.YtkkjpaijkhhlcaaPAx26
import Derived.Test.YtkkjpaijkhhlcaaPRiceAwake
import Derived.Test.YtkkjpaijkhhlcaaPUnfold
namespace Go.Proofs.Ytkkjpaijkhhlcaa.Pure
open Go.RowKit Go.Proofs.Ytkkjpaijkhhlcaa.PA Go.Proofs.YtkkjpaijkhhlcaaW.PrintWords Go.Proofs.YtkkjpaijkhhlcaaW.PrintLast Go.Proofs.YtkkjpaijkhhlcaaW.PrintMore Go.Proofs.Ytkkjpaijkhhlcaa.PL
set_option linter.unusedSimpArgs false
set_option linter.unusedVariables false
theorem ref_unfold_eq (u : Int) (h : 0 ≤ u ∧ u < 18446744073709551616) : serinetteref02_Unfold.f u = some (unfold u) := by
  unfold serinetteref02_Unfold.f unfold
  have e1 : Int.tmod u 2 = u % 2 := Int.tmod_eq_emod_of_nonneg h.1
  have e2 : Int.tdiv u 2 = u / 2 := Int.tdiv_eq_ediv_of_nonneg h.1
  rw [e1, e2, u64_wrap, Int.emod_eq_of_lt (a := u / 2) (by omega) (by omega), w64 (x := u / 2) (by omega) (by omega)]
  by_cases hu : u % 2 = 0
  · rw [if_pos hu, if_pos hu]
  · rw [if_neg hu, if_neg hu, w64 (x := -(u / 2)) (by omega) (by omega), w64 (by omega) (by omega)]
theorem RiceFolds : serinettelaw02_RiceFolds.Pure := by
  intro n u k hn hu hk
  refine Ev.rounds ?_
  unfold serinettelaw02_RiceFolds.f
  refine bnd awake_ev (pos rfl ?_)
  rw [fold_eq n (wf64 hn), ref_fold_eq n (wf64 hn), unfold_eq u (wfu64 hu), ref_unfold_eq u (wfu64 hu), near_eq, ref_near_eq', size_eq]
  simp only [Option.bind_some]
  refine pos (by first | trivial | rfl) (pos (by first | trivial | rfl) (pos (by simp) ?_))
  refine bnd (ref_size_ev n k (wf64 hn)) (cst ?_)
  simp
end Go.Proofs.Ytkkjpaijkhhlcaa.Pure
