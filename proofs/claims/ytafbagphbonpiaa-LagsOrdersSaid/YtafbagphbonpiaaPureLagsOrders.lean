/- LagsOrders: a greater order has the same ones first. For every input (the law's own guards are in it). -/
import Derived.Test.YtafbagphbonpiaaPAx19
import Derived.Test.YtafbagphbonpiaaPLagsMore
namespace Go.Proofs.Ytafbagphbonpiaa.Pure
open Go.RowKit Go.Proofs.Ytafbagphbonpiaa.PA Go.Proofs.YtafbagphbonpiaaW.PrintWords Go.Proofs.YtafbagphbonpiaaW.PrintLast Go.Proofs.YtafbagphbonpiaaW.PrintMore Go.Proofs.Ytafbagphbonpiaa.PL
theorem LagsOrders : serinettelaw09_LagsOrders.Pure := by
  intro l0 a1 a2 h1 h2 hw hu hv
  have hu := wfu8 hu; have hv := wfu8 hv
  have hmn : 0 ≤ mn a1 a2 ∧ mn a1 a2 < 256 := by unfold mn; split <;> omega
  have hmx : 0 ≤ mx a1 a2 ∧ mx a1 a2 < 256 := by unfold mx; split <;> omega
  refine Ev.rounds ?_
  unfold serinettelaw09_LagsOrders.f
  have out : Ev (fun k => serinettelaw09_LagsOrders.j0 k l0 a1 a2 true true) true := by
    refine succ ?_
    simp only [serinettelaw09_LagsOrders.j0]
    exact pos trivial (cst rfl)
  refine bnd awake_ev (bnd (near_ev l0 (by omega)) ?_)
  by_cases hl : (l0.length : Int) > 80
  · exact pos hl out
  · refine neg hl ?_
    by_cases hn : NearL l0
    · have e : (!decide (NearL l0)) = false := by simp [hn]
      rw [e]
      refine succ ?_
      simp only [serinettelaw09_LagsOrders.j0]
      rw [tmod_u8 hmn 33 (by decide) (by decide), tmod_u8 hmx 9 (by decide) (by decide)]
      generalize hN : mn a1 a2 % 33 = n
      generalize hM : mx a1 a2 % 9 = d
      rw [w64 (x := n + d) (by omega) (by omega)]
      refine neg (by decide) (bnd (of_ev l0 n (by omega) (wf42 hw)) (bnd (of_ev l0 (n + d) (by omega) (wf42 hw)) (pos (by trivial) ?_)))
      have c1 : cnt n ≤ cnt (n + d) := by unfold cnt; omega
      have c2 : (cnt (n + d) : Int) = 1 + mn (n + d) 32 := by unfold cnt mn; split <;> omega
      have c3 := cnt_le n; have c4 := cnt_le (n + d)
      rw [ofL_len, ofL_len, Int.toNat_natCast, ofL_take _ c1, w64 (by omega) (by omega)]
      refine pos (by omega) (pos (by omega) (pos (by omega) (bnd (ints_refl _ (by rw [ofL_len]; omega)) (pos rfl (cst ?_)))))
      rw [c2]; simp
    · have e : (!decide (NearL l0)) = true := by simp [hn]
      rw [e]; exact out
end Go.Proofs.Ytafbagphbonpiaa.Pure
