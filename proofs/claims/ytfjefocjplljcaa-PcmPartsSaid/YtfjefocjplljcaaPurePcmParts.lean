/- PcmParts: any part of any sound, and two that are joined, or what is wrong with that, is as the document says. For every input (the law's own guards are in it). -/
import Derived.Test.YtfjefocjplljcaaPAx21
import Derived.Test.YtfjefocjplljcaaPPcmPart
namespace Go.Proofs.Ytfjefocjplljcaa.Pure
open Go Go.RowKit Go.Proofs.Ytfjefocjplljcaa.PA Go.Proofs.YtfjefocjplljcaaW.PrintWords Go.Proofs.YtfjefocjplljcaaW.PrintLast Go.Proofs.YtfjefocjplljcaaW.PrintMore Go.Proofs.Ytfjefocjplljcaa.PL
set_option linter.unusedSimpArgs false
set_option linter.unusedVariables false
theorem joinV_len (a b : Int) (l : List (List Int)) (a2 b2 : Int) (l2 : List (List Int)) (hl10 : l.length ≤ 10) (h1 : ∀ c ∈ l, c.length ≤ 1000) (h2 : ∀ c ∈ l2, c.length ≤ 1000) : (joinV a b l a2 b2 l2).2.2.1.length ≤ 10 ∧ ∀ c ∈ (joinV a b l a2 b2 l2).2.2.1, c.length ≤ 2000 := by
  have e0 : ([] : List (List Int)).length ≤ 10 ∧ ∀ c ∈ ([] : List (List Int)), c.length ≤ 2000 := ⟨Nat.zero_le _, fun c hc => by simp at hc⟩
  unfold joinV
  by_cases hl : l.length = l2.length
  · rw [if_neg (fun q => q hl)]
    by_cases hb : b = b2
    · rw [if_neg (fun q => q hb)]
      by_cases ha : a = a2
      · rw [if_neg (fun q => q ha)]
        refine ⟨by show (List.zipWith (· ++ ·) l l2).length ≤ 10; rw [List.length_zipWith]; omega, fun c hc => ?_⟩
        have hc : c ∈ List.zipWith (· ++ ·) l l2 := hc
        obtain ⟨j, hj, rfl⟩ := List.getElem_of_mem hc
        rw [List.length_zipWith] at hj
        rw [List.getElem_zipWith, List.length_append]
        have q1 := h1 _ (List.getElem_mem (show j < l.length by omega))
        have q2 := h2 _ (List.getElem_mem (show j < l2.length by omega))
        omega
      · rw [if_pos ha]; exact e0
    · rw [if_pos hb]; exact e0
  · rw [if_pos hl]; exact e0
theorem j0_ev (a b : Int) (l : List (List Int)) (a2 b2 : Int) (l2 : List (List Int)) (fr m : Int) (hf : (∀ c ∈ l, c.length ≤ 50) ∧ l.length ≤ 10) (hf2 : (∀ c ∈ l2, c.length ≤ 50) ∧ l2.length ≤ 10) : Ev (fun k => serinettelaw06_PcmParts.j0 k fr m true false a b l a2 b2 l2) true := by
  have h1 : ∀ c ∈ l, c.length ≤ 1000 := fun c hc => Nat.le_trans (hf.1 c hc) (by decide)
  have h2 : ∀ c ∈ l2, c.length ≤ 1000 := fun c hc => Nat.le_trans (hf2.1 c hc) (by decide)
  have hj := joinV_len a b l a2 b2 l2 hf.2 h1 h2
  have hp : ∀ c ∈ l.map (fun c => rowP c fr m), c.length ≤ 1000 := fun c hc => by
    obtain ⟨d, hd, rfl⟩ := List.mem_map.1 hc
    exact Nat.le_trans (rowP_len d fr m) (h1 d hd)
  refine succ ?_
  simp only [serinettelaw06_PcmParts.j0]
  refine neg Bool.false_ne_true (bnd (join_ev a b l a2 b2 l2 hf.2 h1 h2) (bnd (refJoin_ev a b l a2 b2 l2 hf.2 h1 h2) (pos (by first | trivial | rfl) (pos rfl (bnd (same6_ev _ _ _ (Nat.lt_of_le_of_lt hj.1 (by decide)) (fun c hc => Nat.lt_of_le_of_lt (hj.2 c hc) (by decide))) (pos rfl ?_))))))
  refine bnd (part_ev a b l fr m hf.2 h1) (bnd (refPart_ev a b l fr m hf.2 h1) (bnd (same6_ev _ _ _ (by rw [List.length_map]; exact Nat.lt_of_le_of_lt hf.2 (by decide)) (fun c hc => Nat.lt_of_le_of_lt (hp c hc) (by decide))) (now true)))
theorem PcmParts : ∀ (a0_0 : Int) (a0_1 : Int) (l0_2 : List (List Int)) (a1_0 : Int) (a1_1 : Int) (l1_2 : List (List Int)) (a2 : Int) (a3 : Int), (Lit.int .i64 a0_0).wf = true → (Lit.int .i64 a0_1).wf = true → l0_2.length ≤ maxLen → (∀ x ∈ l0_2, (x.length ≤ maxLen ∧ ∀ x_1 ∈ x, (Lit.int .i64 x_1).wf = true)) → (Lit.int .i64 a1_0).wf = true → (Lit.int .i64 a1_1).wf = true → l1_2.length ≤ maxLen → (∀ x ∈ l1_2, (x.length ≤ maxLen ∧ ∀ x_1 ∈ x, (Lit.int .i64 x_1).wf = true)) → (Lit.int .i64 a2).wf = true → (Lit.int .i64 a3).wf = true → ∃ k, serinettelaw06_PcmParts.f k a0_0 a0_1 l0_2 a1_0 a1_1 l1_2 a2 a3 = some true := by
  intro a b l a2 b2 l2 fr m ha hb hl hw ha2 hb2 hl2 hw2 hfr hm
  refine Ev.rounds ?_
  unfold serinettelaw06_PcmParts.f
  refine bnd awake_ev (bnd (few_ev a b l hl) (bnd (few_ev a2 b2 l2 hl2) ?_))
  have skip : Ev (fun k => serinettelaw06_PcmParts.j0 k fr m true true a b l a2 b2 l2) true := by
    refine succ ?_
    simp only [serinettelaw06_PcmParts.j0]
    exact pos trivial (now true)
  by_cases hf : (∀ c ∈ l, c.length ≤ 50) ∧ l.length ≤ 10
  · have e : fewB l = true := decide_eq_true hf
    rw [e]
    refine pos rfl ?_
    by_cases hf2 : (∀ c ∈ l2, c.length ≤ 50) ∧ l2.length ≤ 10
    · have e2 : fewB l2 = true := decide_eq_true hf2
      rw [e2]
      exact j0_ev a b l a2 b2 l2 fr m hf hf2
    · have e2 : fewB l2 = false := decide_eq_false hf2
      rw [e2]
      exact skip
  · have e : fewB l = false := decide_eq_false hf
    rw [e]
    exact neg Bool.false_ne_true skip
end Go.Proofs.Ytfjefocjplljcaa.Pure
