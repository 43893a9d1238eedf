/- SolveTells: the factors are what the plain reference tells. For every input. -/
import Derived.Test.YthcognclnmcbhaaPAx16
import Derived.Test.YthcognclnmcbhaaPSolveRef
namespace Go.Proofs.Ythcognclnmcbhaa.Pure
open Go.RowKit Go.Proofs.Ythcognclnmcbhaa.PA Go.Proofs.YthcognclnmcbhaaW.PrintWords Go.Proofs.YthcognclnmcbhaaW.PrintLast Go.Proofs.YthcognclnmcbhaaW.PrintMore Go.Proofs.Ythcognclnmcbhaa.PL
set_option linter.unusedVariables false
theorem SolveTells : serinettelaw10_SolveTells.Pure := by
  intro l0 a1 hm hs h0 h1
  have hlen : l0.length < 1152921504606846976 := by omega
  have hw : ∀ x ∈ l0, -9223372036854775808 ≤ x ∧ x < 9223372036854775808 := fun x hx => wf64 (h0 x hx)
  refine Ev.rounds ?_
  unfold serinettelaw10_SolveTells.f
  refine bnd awake_ev (bnd (right_ev l0 hlen hw) ?_)
  have out : Ev (fun k => serinettelaw10_SolveTells.j0 k l0 a1 true true) true := by
    refine succ ?_
    simp only [serinettelaw10_SolveTells.j0]
    exact pos trivial (cst rfl)
  by_cases hc : (l0.length : Int) > 40
  · exact pos hc out
  · refine neg hc ?_
    by_cases hr : RightP l0
    · have e : (!decide (RightP l0)) = false := by simp [hr]
      rw [e]
      have hx : rd l0 0 < 9223372036854775808 := by
        by_cases hz : 0 < l0.length
        · have := (hr hz).2.1; omega
        · have : l0 = [] := List.length_eq_zero_iff.1 (by omega)
          rw [this]; decide
      refine succ ?_
      simp only [serinettelaw10_SolveTells.j0]
      exact neg (by decide) (pos (by trivial) (bnd (solve_ev l0 a1 (by omega) hx) (bnd (ref_solve_ev l0 a1 (by omega) hw hr) (bnd (same_solve l0 a1) (now true)))))
    · have e : (!decide (RightP l0)) = true := by simp [hr]
      rw [e]; exact out
end Go.Proofs.Ythcognclnmcbhaa.Pure
