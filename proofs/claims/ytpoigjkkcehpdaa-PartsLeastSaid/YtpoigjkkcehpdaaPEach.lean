/- What cost.Bits, Each answer. Condition: at most a thousand numbers of 64 bits. -/
import Derived.Test.YtpoigjkkcehpdaaPWidth
import Derived.Test.YtpoigjkkcehpdaaPAx7
namespace Go.Proofs.Ytpoigjkkcehpdaa.PL
open Go.RowKit Go.Proofs.Ytpoigjkkcehpdaa.PA Go.Proofs.YtpoigjkkcehpdaaW.PrintWords Go.Proofs.YtpoigjkkcehpdaaW.PrintMore
set_option linter.unusedVariables false
set_option linter.unusedSimpArgs false
theorem bits_ev (l : List Int) (k : Int) (hl : l.length ≤ 1000) : Ev (fun q => cost_Bits.f q l k) (if NearAll l then bitsL (kk k) l else -1) := by
  unfold cost_Bits.f
  refine bnd (anyFar_ev l hl) ?_
  by_cases hn : NearAll l
  · rw [if_pos hn]
    refine neg (by simp [hn]) ?_
    have key : ∀ (t p : List Int), l = p ++ t → Ev (fun q => cost_Bits.l0 q k (bitsL (kk k) p) l (l.length : Int) (p.length : Int)) (bitsL (kk k) l) := by
      intro t
      induction t with
      | nil =>
        intro p hp
        refine succ ?_
        simp only [cost_Bits.l0]
        exact neg (by rw [hp]; simp) (cst (by rw [hp, List.append_nil]))
      | cons x t ih =>
        intro p hp
        have l1 := congrArg List.length hp
        simp only [List.length_append, List.length_cons] at l1
        refine succ ?_
        simp only [cost_Bits.l0]
        have ra : rd l (p.length : Int) = x := by rw [hp]; exact rd_at _ _ _
        have hx : IsNear x := hn x (by rw [hp]; simp)
        have hp' : NearAll p := fun n h => hn n (by rw [hp]; simp [h])
        have b1 := bitsL_bd (kk k) (kk_le k) p hp'
        have b2 := sz_bd hx (kk_le k)
        have b0 : 0 ≤ (1 + ((kk k : Nat) : Int)) * (p.length : Int) := Int.mul_nonneg (by omega) (by omega)
        rw [ra, w64 (x := (p.length : Int) + 1) (by omega) (by omega), size_eq]
        simp only [Option.bind_some]
        rw [if_pos hx, w64 (by omega) (by omega)]
        refine pos (by omega) (pos (by omega) (pos (by omega) ?_))
        have := ih (p ++ [x]) (by simp [hp])
        rw [bitsL_append] at this
        simpa [bitsL] using this
    exact key l [] rfl
  · rw [if_neg hn]
    exact pos (by simp [hn]) (cst rfl)
theorem each_ev (l : List Int) (K : Int) (raw : Bool) (hl : l.length ≤ 1000) : Ev (fun q => cost_Each.f q l K raw) (if raw = true then (if NearAll l ∧ (wid l : Int) ≤ K ∧ K ≤ 31 then 5 + K * l.length else -1) else if NearAll l then bitsL (kk K) l else -1) := by
  unfold cost_Each.f
  refine bnd (width_ev l hl) ?_
  by_cases hr : raw = true
  · rw [if_pos hr]
    refine pos hr ?_
    by_cases hn : NearAll l
    · rw [if_pos hn]
      refine neg (by omega) ?_
      by_cases h1 : K < wid l
      · exact pos h1 (cst (by rw [if_neg (fun h => by omega)]))
      · refine neg h1 ?_
        by_cases h2 : K > 31
        · exact pos h2 (cst (by rw [if_neg (fun h => by omega)]))
        · refine neg h2 (cst ?_)
          have b0 : 0 ≤ K * l.length := Int.mul_nonneg (by omega) (by omega)
          have b1 : K * l.length ≤ 31 * 1000 := Int.mul_le_mul (by omega) (by omega) (by omega) (by omega)
          unfold cost_raw.f
          simp only [Option.bind_some]
          rw [w64 (x := K * l.length) (by omega) (by omega), w64 (by omega) (by omega), if_pos ⟨hn, by omega, by omega⟩]
    · rw [if_neg hn]
      exact pos (by decide) (cst (by rw [if_neg (fun h => hn h.1)]))
  · rw [if_neg hr]
    exact neg hr (bnd (bits_ev l K hl) (now _))
end Go.Proofs.Ytpoigjkkcehpdaa.PL
