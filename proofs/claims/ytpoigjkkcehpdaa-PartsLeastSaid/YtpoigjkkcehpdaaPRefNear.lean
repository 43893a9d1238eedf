/- What serinetteref13.Near answers. Condition: no row too long. -/
import Derived.Test.YtpoigjkkcehpdaaPWidth
import Derived.Test.YtpoigjkkcehpdaaPAx9
namespace Go.Proofs.Ytpoigjkkcehpdaa.PL
open Go.RowKit Go.Proofs.Ytpoigjkkcehpdaa.PA Go.Proofs.YtpoigjkkcehpdaaW.PrintWords Go.Proofs.YtpoigjkkcehpdaaW.PrintMore
set_option linter.unusedVariables false
set_option linter.unusedSimpArgs false
theorem ref_near_eq (n : Int) : serinetteref02_Near.f n = some (decide (IsNear n)) := by
  unfold serinetteref02_Near.f IsNear
  by_cases h : n ≥ -8589934592
  · rw [if_pos h]; congr 1; exact decide_eq_decide.2 ⟨fun g => ⟨h, by omega⟩, fun g => by omega⟩
  · rw [if_neg h]; congr 1; exact (decide_eq_false (by omega)).symm
theorem ref_nearAll_ev (l : List Int) (hl : l.length < 1152921504606846976) : Ev (fun k => serinetteref13_Near.f k l) (decide (NearAll l)) := by
  have key : ∀ (t p : List Int), l = p ++ t → Ev (fun k => serinetteref13_Near.l0 k l (p.length : Int)) (decide (NearAll t)) := by
    intro t
    induction t with
    | nil =>
      intro p hp
      refine succ ?_
      simp only [serinetteref13_Near.l0]
      exact neg (by rw [hp]; simp) (cst (by simp [NearAll]))
    | cons x t ih =>
      intro p hp
      have l1 := congrArg List.length hp
      simp only [List.length_append, List.length_cons] at l1
      refine succ ?_
      simp only [serinetteref13_Near.l0]
      have ra : rd l (p.length : Int) = x := by rw [hp]; exact rd_at _ _ _
      rw [ra, w64 (by omega) (by omega), ref_near_eq]
      simp only [Option.bind_some]
      refine pos (by omega) (pos (by omega) ?_)
      by_cases h : IsNear x
      · refine pos (by simpa using h) ?_
        have e : decide (NearAll (x :: t)) = decide (NearAll t) := decide_eq_decide.2 (nearAll_cons.trans ⟨fun g => g.2, fun g => ⟨h, g⟩⟩)
        rw [e]
        have := ih (p ++ [x]) (by simp [hp])
        simpa using this
      · exact neg (by simpa using h) (cst (by rw [decide_eq_false (fun g => h (nearAll_cons.1 g).1)]))
  exact key l [] rfl
end Go.Proofs.Ytpoigjkkcehpdaa.PL
