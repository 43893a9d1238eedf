/- CostTells: of any part how many bits it has by any way, and its width, is as the reference says. For every input (the law's own guards are in it). -/
import Derived.Test.YtdologjfcmidlaaPAx23
import Derived.Test.YtdologjfcmidlaaPCostRef
namespace Go.Proofs.Ytdologjfcmidlaa.Pure
open Go.RowKit Go.Proofs.Ytdologjfcmidlaa.PA Go.Proofs.YtdologjfcmidlaaW.PrintWords Go.Proofs.YtdologjfcmidlaaW.PrintLast Go.Proofs.Ytdologjfcmidlaa.PL
theorem CostTells : serinettelaw13_CostTells.Pure := by
  intro l0 a1 a2 h1 h2 hw hw1
  refine Ev.rounds ?_
  unfold serinettelaw13_CostTells.f
  refine bnd awake_ev ?_
  by_cases hl : (l0.length : Int) > 100
  · exact pos hl (now true)
  · have h : l0.length ≤ 1000 := by omega
    exact neg hl (pos rfl (bnd (bits_ev l0 a1 h) (bnd (ref_bits_ev l0 a1 h) (pos rfl (bnd (width_ev l0 h) (bnd (ref_width_ev l0 h) (pos rfl (bnd (each_ev l0 a1 a2 h) (bnd (ref_each_ev l0 a1 a2 h) (cst (by simp)))))))))))
end Go.Proofs.Ytdologjfcmidlaa.Pure
