/- What serinetteref07.Near answers: are all numbers from -2^40 to 2^40. Condition: lists shorter than 2^60. -/
import Derived.Test.YtjiecencppahhaaPL
import Derived.Test.YtjiecencppahhaaPAx5
namespace Go.Proofs.Ytjiecencppahhaa.PL
open Go.RowKit Go.Proofs.Ytjiecencppahhaa.PA Go.Proofs.YtjiecencppahhaaW.PrintWords

def NearL (l : List Int) : Prop := ∀ x ∈ l, -1099511627776 ≤ x ∧ x ≤ 1099511627776
instance (l : List Int) : Decidable (NearL l) := by unfold NearL; infer_instance
theorem near_l0 (l : List Int) (hl : l.length < 1152921504606846976) : ∀ (t p : List Int), l = p ++ t → Ev (fun k => serinetteref07_Near.l0 k l (p.length : Int)) (decide (NearL t)) := by
  intro t
  induction t with
  | nil =>
    intro p hp
    refine succ ?_
    simp only [serinetteref07_Near.l0]
    exact neg (by rw [hp]; simp) (cst (by simp [NearL]))
  | cons x t ih =>
    intro p hp
    have l1 := congrArg List.length hp
    simp only [List.length_append, List.length_cons] at l1
    refine succ ?_
    simp only [serinetteref07_Near.l0]
    refine pos (by omega) (pos (by omega) ?_)
    rw [w64 (by omega) (by omega)]
    have ra : rd l (p.length : Int) = x := by rw [hp]; exact rd_at _ _ _
    rw [ra]
    by_cases h1 : x < -1099511627776
    · exact pos h1 (cst (by simp [NearL]; omega))
    · refine neg h1 ?_
      by_cases h2 : x > 1099511627776
      · exact pos h2 (cst (by simp [NearL]; omega))
      · refine neg h2 ?_
        have := ih (p ++ [x]) (by simp [hp])
        have e : decide (NearL (x :: t)) = decide (NearL t) := by
          apply decide_eq_decide.2
          simp only [NearL, List.mem_cons, forall_eq_or_imp]
          exact ⟨fun h => h.2, fun h => ⟨by omega, h⟩⟩
        rw [e]
        simpa using this
theorem near_ev (l : List Int) (hl : l.length < 1152921504606846976) : Ev (fun k => serinetteref07_Near.f k l) (decide (NearL l)) := by
  unfold serinetteref07_Near.f
  exact near_l0 l hl l [] rfl
end Go.Proofs.Ytjiecencppahhaa.PL
