/- CostBest: the way of writing any part that has fewest bits, the first one of these, is found as if all were tried. For every input (the law's own guards are in it). -/
import Derived.Test.YtdologjfcmidlaaPAx19
import Derived.Test.YtdologjfcmidlaaPCostRefBest
namespace Go.Proofs.Ytdologjfcmidlaa.Pure
open Go.RowKit Go.Proofs.Ytdologjfcmidlaa.PA Go.Proofs.YtdologjfcmidlaaW.PrintWords Go.Proofs.YtdologjfcmidlaaW.PrintLast Go.Proofs.Ytdologjfcmidlaa.PL
theorem CostBest : serinettelaw13_CostBest.Pure := by
  intro l0 a1 h1 h2 hw hw1
  refine Ev.rounds ?_
  unfold serinettelaw13_CostBest.f
  refine bnd awake_ev ?_
  by_cases hl : (l0.length : Int) > 100
  · exact pos hl (now true)
  · have h : l0.length ≤ 1000 := by omega
    exact neg hl (bnd (best_ev l0 a1 h) (bnd (ref_best_ev l0 a1 h) (pos rfl (pos (by simp) (pos rfl (cst (by simp)))))))
end Go.Proofs.Ytdologjfcmidlaa.Pure
