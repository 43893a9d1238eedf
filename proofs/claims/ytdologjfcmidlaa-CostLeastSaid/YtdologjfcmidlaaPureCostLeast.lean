/- CostLeast: no other way has fewer bits, and none ahead of it as few. For every input (the law's own guards are in it). -/
import Derived.Test.YtdologjfcmidlaaPAx24
import Derived.Test.YtdologjfcmidlaaPCostAwake
namespace Go.Proofs.Ytdologjfcmidlaa.Pure
open Go.RowKit Go.Proofs.Ytdologjfcmidlaa.PA Go.Proofs.YtdologjfcmidlaaW.PrintWords Go.Proofs.YtdologjfcmidlaaW.PrintLast Go.Proofs.YtdologjfcmidlaaW.PrintMore Go.Proofs.Ytdologjfcmidlaa.PL
set_option linter.unusedVariables false
theorem tmod_u8' {x : Int} (h : 0 ≤ x ∧ x < 256) (m : Int) (hm : 0 < m) (hm2 : m < 256) : wrap64 (Int.tmod x m) = x % m := by
  have := Int.emod_nonneg x (show m ≠ 0 by omega); have := Int.emod_lt_of_pos x hm
  rw [Int.tmod_eq_emod_of_nonneg h.1, w64 (by omega) (by omega)]
theorem bits_nonneg' (l : List Int) (h : NearAll l) {k : Nat} (hk : k ≤ 30) : 0 ≤ bitsL k l := by
  have := (bitsL_bd k hk l h).1
  have : 0 ≤ (1 + (k : Int)) * (l.length : Int) := Int.mul_nonneg (by omega) (by omega)
  omega
theorem CostLeast : serinettelaw13_CostLeast.Pure := by
  intro l0 a1 a2 a3 h1 h2 hw hu1 hu2
  have hu1 := wfu8 hu1; have hu2 := wfu8 hu2
  refine Ev.rounds ?_
  unfold serinettelaw13_CostLeast.f
  have out : Ev (fun k => serinettelaw13_CostLeast.j0 k l0 a1 a2 a3 true true) true := by
    refine succ ?_
    simp only [serinettelaw13_CostLeast.j0]
    exact pos trivial (cst rfl)
  refine bnd awake_ev (bnd (ref_nearAll_ev l0 (by omega)) ?_)
  by_cases hl : (l0.length : Int) > 100
  · exact pos hl out
  · refine neg hl ?_
    by_cases hn : NearAll l0
    · have e : (!decide (NearAll l0)) = false := by simp [hn]
      rw [e]
      refine succ ?_
      simp only [serinettelaw13_CostLeast.j0]
      rw [tmod_u8' hu1 31 (by decide) (by decide)]
      obtain ⟨m, hM⟩ : ∃ m : Nat, a1 % 31 = m := ⟨(a1 % 31).toNat, by omega⟩
      have hm30 : m ≤ 30 := by omega
      rw [hM]
      have hb := best_ev l0 m (by omega)
      rw [if_pos hn, kk_nat hm30] at hb
      have h34 := (wid_spec hn).2.1
      have hrb := raw_bd l0 (by omega) h34
      have hwe := width_ev l0 (by omega); rw [if_pos hn] at hwe
      have hmin := amin_min (fun k => bitsL k l0) m
      have hfst := amin_first (fun k => bitsL k l0) m
      have hale := amin_le (fun k => bitsL k l0) m
      generalize hA : amin (fun k => bitsL k l0) m = A at hmin hfst hale
      have hnn : ∀ k, k ≤ 30 → 0 ≤ bitsL k l0 := fun k hk => bits_nonneg' l0 hn hk
      obtain ⟨b, hB⟩ : ∃ b : Nat, a2 % (m + 1) = b := ⟨(a2 % (m + 1)).toNat, by have := Int.emod_nonneg a2 (show (m : Int) + 1 ≠ 0 by omega); omega⟩
      have hbm : b ≤ m := by have := Int.emod_lt_of_pos a2 (show 0 < (m : Int) + 1 by omega); omega
      have eb : Int.tmod (wrap64 a2) (wrap64 ((m : Int) + 1)) = b := by
        rw [w64 (x := (m : Int) + 1) (by omega) (by omega), w64 (x := a2) (by omega) (by omega), Int.tmod_eq_emod_of_nonneg hu2.1, hB]
      have er : Ev (fun q => cost_Each.f q l0 (wid l0 : Int) true) (if (wid l0 : Int) ≤ 31 then rawL l0 else -1) := by
        have := each_ev l0 (wid l0 : Int) true (by omega)
        rw [if_pos rfl] at this
        by_cases h : (wid l0 : Int) ≤ 31
        · rw [if_pos ⟨hn, Int.le_refl _, h⟩] at this; rw [if_pos h]; exact this
        · rw [if_neg (fun g => h g.2.2)] at this; rw [if_neg h]; exact this
      have ek : ∀ k : Nat, k ≤ 30 → Ev (fun q => cost_Each.f q l0 (k : Int) false) (bitsL k l0) := fun k hk => by
        have := each_ev l0 (k : Int) false (by omega)
        rw [if_neg (by decide), if_pos hn, kk_nat hk] at this
        exact this
      -- the ways, one by one
      by_cases hc : wid l0 ≤ 31 ∧ rawL l0 < bitsL A l0
      · have eB : bestL l0 m = ((wid l0 : Int), true, rawL l0, 0) := by unfold bestL; rw [hA, if_pos hc]
        rw [eB] at hb
        rw [if_pos (show (wid l0 : Int) ≤ 31 by omega)] at er
        refine bnd hb (pos rfl (bnd er ?_))
        refine succ ?_
        simp only [serinettelaw13_CostLeast.j1]
        rw [eb]
        refine neg (by simp) (neg (by rw [w64 (by omega) (by omega)]; omega) ?_)
        by_cases h3 : a3 = true
        · refine pos h3 (bnd hwe (bnd er (neg (by unfold rawL; omega) (pos trivial (pos trivial (neg (by omega) (pos rfl (cst (by decide)))))))))
        · refine neg h3 (bnd (ek b (by omega)) (neg (by have := hnn b (by omega); omega) (pos trivial (pos trivial (pos (by have := hmin b hbm; omega) (cst rfl))))))
      · have eB : bestL l0 m = ((A : Int), false, bitsL A l0, 0) := by unfold bestL; rw [hA, if_neg hc]
        rw [eB] at hb
        refine bnd hb (pos rfl (bnd (ek A (by omega)) ?_))
        refine succ ?_
        simp only [serinettelaw13_CostLeast.j1]
        rw [eb]
        refine neg (by simp) (neg (by rw [w64 (by omega) (by omega)]; omega) ?_)
        by_cases h3 : a3 = true
        · refine pos h3 (bnd hwe (bnd er ?_))
          by_cases h4 : (wid l0 : Int) ≤ 31
          · rw [if_pos h4]
            have : ¬ rawL l0 < bitsL A l0 := fun h => hc ⟨by omega, h⟩
            refine neg (by unfold rawL; omega) (neg (by decide) (pos trivial ?_))
            by_cases h5 : rawL l0 > bitsL A l0
            · exact pos h5 (cst rfl)
            · exact neg h5 (pos (by omega) (cst (by decide)))
          · rw [if_neg h4]
            exact pos (by decide) (pos trivial (cst (by rw [decide_eq_true (by omega)])))
        · refine neg h3 (bnd (ek b (by omega)) (neg (by have := hnn b (by omega); omega) (neg (by decide) ?_)))
          have := hmin b hbm
          by_cases h6 : (b : Int) < A
          · have := hfst b (by omega)
            exact pos h6 (pos trivial (pos (by omega) (cst rfl)))
          · refine neg h6 (pos trivial ?_)
            by_cases h5 : bitsL b l0 > bitsL A l0
            · exact pos h5 (cst rfl)
            · exact neg h5 (pos (by omega) (cst (by decide)))
    · have e : (!decide (NearAll l0)) = true := by simp [hn]
      rw [e]; exact out
end Go.Proofs.Ytdologjfcmidlaa.Pure
