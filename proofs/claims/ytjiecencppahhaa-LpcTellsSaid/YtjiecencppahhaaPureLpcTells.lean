/- LpcTells: what is wrong with any predictor, and what it leaves of any numbers, is as the reference says. For every input (the law's own guards are in it). -/
import Derived.Test.YtjiecencppahhaaPAx9
import Derived.Test.YtjiecencppahhaaPLpcAwake
namespace Go.Proofs.Ytjiecencppahhaa.Pure
open Go.RowKit Go.Proofs.Ytjiecencppahhaa.PA Go.Proofs.YtjiecencppahhaaW.PrintWords Go.Proofs.YtjiecencppahhaaW.PrintLast Go.Proofs.Ytjiecencppahhaa.PL
set_option linter.unusedSimpArgs false
set_option linter.unusedVariables false
theorem allI {l : List Int} (h : ∀ x ∈ l, (Lit.int .i64 x).wf = true) : AllI l := fun a ha => wf64 (h a ha)
theorem LpcTells : ∀ (l0 : List Int) (a1_0 : Int) (a1_1 : Int) (l1_2 : List Int), l0.length ≤ maxLen → l0.length * 8 ≤ 140737488351232 → (∀ x ∈ l0, (Lit.int .i64 x).wf = true) → (Lit.int .i64 a1_0).wf = true → (Lit.int .i64 a1_1).wf = true → l1_2.length ≤ maxLen → (∀ x ∈ l1_2, (Lit.int .i64 x).wf = true) → ∃ k, serinettelaw12_LpcTells.f k l0 a1_0 a1_1 l1_2 = some true := by
  intro x s p L h1 h2 hw ws wp hL hLw
  refine Ev.rounds ?_
  unfold serinettelaw12_LpcTells.f
  refine bnd awake_ev (bnd (near_ev x (by omega)) ?_)
  have skip : Ev (fun k => serinettelaw12_LpcTells.j0 k x true true s p L) true := by
    refine succ ?_
    simp only [serinettelaw12_LpcTells.j0]
    exact pos trivial (now _)
  by_cases hl : (x.length : Int) > 80
  · exact pos hl skip
  refine neg hl ?_
  by_cases hn : NearL x
  · refine pos (by simp [hn]) ?_
    by_cases hF : (L.length : Int) > 40
    · rw [decide_eq_true hF]; exact skip
    rw [decide_eq_false hF]
    refine succ ?_
    simp only [serinettelaw12_LpcTells.j0]
    have hi := allI hLw
    refine neg (by simp) (bnd (residualL_ev x (by omega) s p L (by omega) hi) (bnd (ref_residualL_ev x (by omega) s p L (by omega)) (pos trivial ?_)))
    refine bnd (check_ev s p L (by omega) hi) (bnd (ref_check_ev s p L (by omega)) (pos rfl (pos rfl ?_)))
    exact bnd (ints_refl _ (by have := RES_len s p L x; omega)) (now _)
  · exact neg (by simp [hn]) skip
end Go.Proofs.Ytjiecencppahhaa.Pure
