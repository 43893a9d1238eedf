/- What serinetteref01.Ints answers: are two lists the same. Condition: lists shorter than 2^60. -/
import Derived.Test.YtfjefocjplljcaaPL
import Derived.Test.YtfjefocjplljcaaPAx11
namespace Go.Proofs.Ytfjefocjplljcaa.PL
open Go.RowKit Go.Proofs.Ytfjefocjplljcaa.PA Go.Proofs.YtfjefocjplljcaaW.PrintWords

theorem ints_l0 (a b : List Int) (h : a.length = b.length) (ha : a.length < 1152921504606846976) : ∀ (t p q : List Int) (u : List Int), a = p ++ t → b = q ++ u → p.length = q.length → Ev (fun k => serinetteref01_Ints.l0 k a b (p.length : Int)) (decide (t = u)) := by
  intro t
  induction t with
  | nil =>
    intro p q u hp hq hl
    have hu : u = [] := by
      have := congrArg List.length hp; have := congrArg List.length hq; simp at *; apply List.eq_nil_of_length_eq_zero; omega
    subst hu
    refine succ ?_
    simp only [serinetteref01_Ints.l0]
    exact neg (by rw [hp]; simp) (cst (by simp))
  | cons x t ih =>
    intro p q u hp hq hl
    have l1 := congrArg List.length hp; have l2 := congrArg List.length hq
    cases u with
    | nil => simp at *; omega
    | cons y u =>
      simp only [List.length_append, List.length_cons] at l1 l2
      refine succ ?_
      simp only [serinetteref01_Ints.l0]
      refine pos (by omega) (pos (by omega) (pos (by omega) ?_))
      rw [w64 (by omega) (by omega)]
      have ra : rd a (p.length : Int) = x := by rw [hp]; exact rd_at _ _ _
      have rb : rd b (p.length : Int) = y := by rw [hq, hl]; exact rd_at _ _ _
      rw [ra, rb]
      by_cases hxy : x = y
      · refine pos hxy ?_
        have := ih (p ++ [x]) (q ++ [y]) u (by simp [hp]) (by simp [hq]) (by simp [hl])
        subst hxy
        simpa using this
      · exact neg hxy (cst (by simp [hxy]))

theorem ints_ev (a b : List Int) (ha : a.length < 1152921504606846976) : Ev (fun k => serinetteref01_Ints.f k a b) (decide (a = b)) := by
  unfold serinetteref01_Ints.f
  by_cases h : a.length = b.length
  · exact pos (by omega) (ints_l0 a b h ha a [] [] b rfl rfl rfl)
  · exact neg (by omega) (cst (by simp; intro e; exact h (by rw [e])))
theorem ints_refl (a : List Int) (ha : a.length < 1152921504606846976) : Ev (fun k => serinetteref01_Ints.f k a a) true := by simpa using ints_ev a a ha
end Go.Proofs.Ytfjefocjplljcaa.PL
