/- LagsTell: how alike any numbers are to those ahead, and by how many bits they go down, is as the reference says. For every input (the law's own guards are in it). -/
import Derived.Test.YtafbagphbonpiaaPAx15
import Derived.Test.YtafbagphbonpiaaPLagsMore
import Derived.Test.YtafbagphbonpiaaPLagsRef
namespace Go.Proofs.Ytafbagphbonpiaa.Pure
open Go.RowKit Go.Proofs.Ytafbagphbonpiaa.PA Go.Proofs.YtafbagphbonpiaaW.PrintWords Go.Proofs.YtafbagphbonpiaaW.PrintLast Go.Proofs.Ytafbagphbonpiaa.PL
theorem LagsTell : serinettelaw09_LagsTell.Pure := by
  intro l0 a1 h1 h2 hw hw1
  refine Ev.rounds ?_
  unfold serinettelaw09_LagsTell.f
  have out : Ev (fun k => serinettelaw09_LagsTell.j0 k l0 a1 true true) true := by
    refine succ ?_
    simp only [serinettelaw09_LagsTell.j0]
    exact pos trivial (cst rfl)
  refine bnd awake_ev (bnd (near_ev l0 (by omega)) ?_)
  by_cases hl : (l0.length : Int) > 80
  · exact pos hl out
  · refine neg hl ?_
    by_cases hn : NearL l0
    · have e : (!decide (NearL l0)) = false := by simp [hn]
      rw [e]
      refine succ ?_
      simp only [serinettelaw09_LagsTell.j0]
      have h39 : fits l0 39 = true := fits_near hn
      have hb : ∀ x ∈ l0, -9223372036854775808 ≤ x ∧ x < 9223372036854775808 := fun x hx => wf64 (hw x hx)
      have c := cnt_le a1
      refine neg (by decide) (pos trivial (bnd (fit_ev l0 (by omega) (wf42 hw)) (bnd (ref_fit_ev l0 (by omega) hb h39) (pos rfl ?_))))
      exact bnd (of_ev l0 a1 (by omega) (wf42 hw)) (bnd (ref_of_ev l0 a1 (by omega) hb h39) (bnd (ints_refl _ (by rw [ofL_len]; omega)) (now true)))
    · have e : (!decide (NearL l0)) = true := by simp [hn]
      rw [e]; exact out
end Go.Proofs.Ytafbagphbonpiaa.Pure
