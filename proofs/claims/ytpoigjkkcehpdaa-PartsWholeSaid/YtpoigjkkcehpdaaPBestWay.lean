/- What cost.Best answers. Condition: at most a thousand numbers of 64 bits. -/
import Derived.Test.YtpoigjkkcehpdaaPEach
import Derived.Test.YtpoigjkkcehpdaaPAx25
namespace Go.Proofs.Ytpoigjkkcehpdaa.PL
open Go.RowKit Go.Proofs.Ytpoigjkkcehpdaa.PA Go.Proofs.YtpoigjkkcehpdaaW.PrintWords Go.Proofs.YtpoigjkkcehpdaaW.PrintMore
set_option linter.unusedVariables false
set_option linter.unusedSimpArgs false
theorem best_j1 (l : List Int) (hl : l.length ≤ 1000) (hn : NearAll l) (m : Nat) (hm : m ≤ 30) (a fw : Int) (ha : a = (amin (fun k => bitsL k l) m : Int)) (hf : fw = bitsL (amin (fun k => bitsL k l) m) l) : Ev (fun q => cost_Best.j1 q l fw a false) (bestL l m) := by
  refine succ ?_
  simp only [cost_Best.j1]
  have hw := width_ev l hl
  rw [if_pos hn] at hw
  refine bnd hw ?_
  have h34 := (wid_spec hn).2.1
  have hb := raw_bd l hl h34
  have hr : cost_raw.f l (wid l : Int) = some (rawL l) := by
    unfold cost_raw.f rawL
    rw [w64 (x := (wid l : Int) * l.length) (by omega) (by omega), w64 (by omega) (by omega)]
  unfold bestL
  by_cases h1 : wid l ≤ 31
  · refine pos (by omega) ?_
    rw [hr]
    simp only [Option.bind_some]
    by_cases h2 : rawL l < fw
    · exact pos h2 (cst (by rw [if_pos ⟨h1, by rw [← hf]; exact h2⟩]))
    · exact neg h2 (cst (by rw [if_neg (fun h => h2 (by rw [hf]; exact h.2)), ha, hf]))
  · exact neg (by omega) (cst (by rw [if_neg (fun h => h1 h.1), ha, hf]))
theorem best_ev (l : List Int) (most : Int) (hl : l.length ≤ 1000) : Ev (fun q => cost_Best.f q l most) (if NearAll l then bestL l (kk most) else (0, false, 0, 6)) := by
  unfold cost_Best.f
  have h0 := bits_ev l 0 hl
  rw [show kk 0 = 0 from rfl] at h0
  refine bnd h0 ?_
  by_cases hn : NearAll l
  · rw [if_pos hn, if_pos hn]
    have hb0 := bitsL_bd 0 (by omega) l hn
    refine neg (by omega) ?_
    have hm := kk_le most
    have key : ∀ (d j : Nat), j + d = kk most → Ev (fun q => cost_Best.l0 q l most (bitsL (amin (fun k => bitsL k l) j) l) ((j : Int) + 1) (amin (fun k => bitsL k l) j : Int) false) (bestL l (kk most)) := by
      intro d
      induction d with
      | zero =>
        intro j hj
        refine succ ?_
        simp only [cost_Best.l0]
        rw [kk_eq]
        exact neg (by omega) (best_j1 l hl hn (kk most) hm _ _ (by rw [show kk most = j by omega]) (by rw [show kk most = j by omega]))
      | succ d ih =>
        intro j hj
        refine succ ?_
        simp only [cost_Best.l0]
        have e1 : wrap64 ((j : Int) + 1 + 1) = (j : Int) + 1 + 1 := w64 (by omega) (by omega)
        have e2 : 0 ≤ (l.length : Int) * ((j : Int) + 1 + 1) := Int.mul_nonneg (by omega) (by omega)
        have e3 : (l.length : Int) * ((j : Int) + 1 + 1) ≤ 1000 * 32 := Int.mul_le_mul (by omega) (by omega) (by omega) (by omega)
        rw [kk_eq, e1, w64 (x := (l.length : Int) * ((j : Int) + 1 + 1)) (by omega) (by omega)]
        refine pos (by omega) ?_
        by_cases hc : (l.length : Int) * ((j : Int) + 1 + 1) ≥ bitsL (amin (fun k => bitsL k l) j) l
        · refine pos hc ?_
          have hs : amin (fun k => bitsL k l) (kk most) = amin (fun k => bitsL k l) j := by
            have := amin_stay (fun k => bitsL k l) j (d + 1) (fun i h1 h2 => by
              have hb := (bitsL_bd i (by omega) l hn).1
              have : (l.length : Int) * ((j : Int) + 1 + 1) ≤ (1 + (i : Int)) * l.length := by
                rw [Int.mul_comm]
                exact Int.mul_le_mul_of_nonneg_right (by omega) (by omega)
              show bitsL (amin (fun k => bitsL k l) j) l ≤ bitsL i l
              omega)
            rwa [show j + (d + 1) = kk most by omega] at this
          exact best_j1 l hl hn (kk most) hm _ _ (by rw [hs]) (by rw [hs])
        · refine neg hc ?_
          have hbj := bits_ev l ((j : Int) + 1) hl
          rw [if_pos hn, show kk ((j : Int) + 1) = j + 1 by unfold kk; omega] at hbj
          refine bnd hbj ?_
          have nx := ih (j + 1) (by omega)
          have es : ((j + 1 : Nat) : Int) = (j : Int) + 1 := by omega
          rw [es] at nx
          by_cases hlt : bitsL (j + 1) l < bitsL (amin (fun k => bitsL k l) j) l
          · refine pos hlt ?_
            have ea : amin (fun k => bitsL k l) (j + 1) = j + 1 := by simp only [amin]; rw [if_pos hlt]
            rw [ea] at nx
            rw [es] at nx
            exact nx
          · refine neg hlt ?_
            have ea : amin (fun k => bitsL k l) (j + 1) = amin (fun k => bitsL k l) j := by simp only [amin]; rw [if_neg hlt]
            rw [ea] at nx
            exact nx
    have := key (kk most) 0 (by omega)
    simpa [amin] using this
  · rw [if_neg hn, if_neg hn]
    exact pos (by decide) (cst rfl)
end Go.Proofs.Ytpoigjkkcehpdaa.PL
