/- RiceOnce: each number is folded once, and comes back. For every input (the law's own guards are in it). -/
import Derived.Test.YtkkjpaijkhhlcaaPAx29
import Derived.Test.YtkkjpaijkhhlcaaPRiceAwake
import Derived.Test.YtkkjpaijkhhlcaaPUnfold
namespace Go.Proofs.Ytkkjpaijkhhlcaa.Pure
open Go.RowKit Go.Proofs.Ytkkjpaijkhhlcaa.PA Go.Proofs.YtkkjpaijkhhlcaaW.PrintWords Go.Proofs.YtkkjpaijkhhlcaaW.PrintLast Go.Proofs.YtkkjpaijkhhlcaaW.PrintMore Go.Proofs.Ytkkjpaijkhhlcaa.PL
set_option linter.unusedSimpArgs false
set_option linter.unusedVariables false
theorem RiceOnce : serinettelaw02_RiceOnce.Pure := by
  intro n m u hn hm hu
  have bn := wf64 hn
  have bu := wfu64 hu
  refine Ev.rounds ?_
  unfold serinettelaw02_RiceOnce.f
  refine bnd awake_ev (pos rfl ?_)
  rw [fold_eq n bn, fold_eq m (wf64 hm), unfold_eq u bu]
  simp only [Option.bind_some]
  rw [unfold_eq (fold n) (fold_bd n bn), unfold_fold, fold_eq (unfold u) (unfold_bd u bu), fold_unfold u bu.1]
  simp only [Option.bind_some]
  have e : ((fold n == fold m) == (n == m)) = true := by
    by_cases h : n = m
    · subst h; simp
    · rw [show (fold n == fold m) = false from beq_eq_false_iff_ne.2 fun g => h (fold_inj g), show (n == m) = false from beq_eq_false_iff_ne.2 h]; rfl
  have e2 : ((Int.tmod (fold n) 2 == 1) == decide (n < 0)) = true := by
    rw [Int.tmod_eq_emod_of_nonneg (fold_bd n bn).1, fold_odd]
    by_cases h : n < 0
    · simp [h]
    · simp [h]
  refine pos (by first | trivial | rfl) (pos (by first | trivial | rfl) (pos e (cst ?_)))
  rw [e2]
end Go.Proofs.Ytkkjpaijkhhlcaa.Pure
