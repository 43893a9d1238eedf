/- FixedTells: what any order leaves of any numbers, or what is wrong, and its factors, is as the reference says. For every input (the law's own guards are in it). -/
import Derived.Test.YtiojcihklmifgaaPAx11
import Derived.Test.YtiojcihklmifgaaPFixAwake
namespace Go.Proofs.Ytiojcihklmifgaa.Pure
open Go.RowKit Go.Proofs.Ytiojcihklmifgaa.PA Go.Proofs.YtiojcihklmifgaaW.PrintWords Go.Proofs.YtiojcihklmifgaaW.PrintLast Go.Proofs.Ytiojcihklmifgaa.PL
theorem FixedTells : serinettelaw07_FixedTells.Pure := by
  intro l0 a1 h1 h2 hw hw1
  refine Ev.rounds ?_
  unfold serinettelaw07_FixedTells.f
  refine bnd awake_ev (bnd (near_ev l0 (by omega)) ?_)
  by_cases hl : (l0.length : Int) > 100
  · refine pos hl (succ ?_)
    simp only [serinettelaw07_FixedTells.j0]
    exact pos trivial (cst rfl)
  · refine neg hl (succ ?_)
    simp only [serinettelaw07_FixedTells.j0]
    by_cases hn : NearL l0
    · refine neg (by simp [hn]) ?_
      refine bnd (residual_ev l0 a1 (by omega)) (bnd (ref_residual_ev l0 a1 (by omega) (wfc hw)) (pos trivial (pos rfl ?_)))
      refine bnd (ints_refl _ (by have := resI_len l0 a1; omega)) (pos rfl ?_)
      rw [factors_eq, ref_factors_eq]
      simp only [Option.bind_some]
      refine bnd (ints_refl _ ?_) (now true)
      unfold FI
      split
      · simp
      · unfold F; split <;> simp
    · exact pos (by simp [hn]) (cst rfl)
end Go.Proofs.Ytiojcihklmifgaa.Pure
