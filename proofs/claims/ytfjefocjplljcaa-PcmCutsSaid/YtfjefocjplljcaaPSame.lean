/- What serinetteref01.Same answers: are two lists of bytes the same. Condition: lists shorter than 2^60. -/
import Derived.Test.YtfjefocjplljcaaPL
import Derived.Test.YtfjefocjplljcaaPAx3
namespace Go.Proofs.Ytfjefocjplljcaa.PL
open Go Go.RowKit Go.Proofs.Ytfjefocjplljcaa.PA Go.Proofs.YtfjefocjplljcaaW.PrintWords Go.Proofs.YtfjefocjplljcaaW.PrintMore
set_option linter.unusedSimpArgs false
set_option linter.unusedVariables false
theorem same_l0 (a b : List Int) (h : a.length = b.length) (ha : a.length < 1152921504606846976) : ∀ (t p q u : List Int), a = p ++ t → b = q ++ u → p.length = q.length → Ev (fun k => serinetteref01_Same.l0 k a b (p.length : Int)) (decide (t = u)) := by
  intro t
  induction t with
  | nil =>
    intro p q u hp hq hl
    have l1 := congrArg List.length hp
    have l2 := congrArg List.length hq
    simp only [List.length_append, List.length_nil] at l1 l2
    obtain rfl := List.eq_nil_of_length_eq_zero (by omega : u.length = 0)
    refine succ ?_
    simp only [serinetteref01_Same.l0]
    exact neg (by omega) (cst (by simp))
  | cons x t ih =>
    intro p q u hp hq hl
    have l1 := congrArg List.length hp
    have l2 := congrArg List.length hq
    simp only [List.length_append, List.length_cons] at l1 l2
    cases u with
    | nil => simp at l2; omega
    | cons y u =>
      refine succ ?_
      simp only [serinetteref01_Same.l0]
      have ra : rd a (p.length : Int) = x := by rw [hp]; exact rd_at _ _ _
      have rb : rd b (p.length : Int) = y := by rw [hq]; exact rd_at' _ _ _ (by omega)
      simp only [List.length_cons] at l2
      rw [ra, rb, w64 (by omega) (by omega)]
      refine pos (by omega) (pos (by omega) (pos (by omega) ?_))
      by_cases hxy : x = y
      · refine pos hxy ?_
        have := ih (p ++ [x]) (q ++ [y]) u (by simp [hp]) (by simp [hq]) (by simp [hl])
        subst hxy
        simpa using this
      · exact neg hxy (cst (by simp [hxy]))
theorem same_ev (a b : List Int) (ha : a.length < 1152921504606846976) : Ev (fun k => serinetteref01_Same.f k a b) (decide (a = b)) := by
  unfold serinetteref01_Same.f
  by_cases h : a.length = b.length
  · exact pos (by omega) (same_l0 a b h ha a [] [] b rfl rfl rfl)
  · exact neg (by omega) (cst (by simp; intro e; exact h (by rw [e])))
theorem same_refl (a : List Int) (ha : a.length < 1152921504606846976) : Ev (fun k => serinetteref01_Same.f k a a) true := by simpa using same_ev a a ha
end Go.Proofs.Ytfjefocjplljcaa.PL
