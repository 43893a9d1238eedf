/- A sound is the same as itself. Condition: lists shorter than 2^60. -/
import Derived.Test.YtfjefocjplljcaaPPcmCheck0
import Derived.Test.YtfjefocjplljcaaPInts
import Derived.Test.YtfjefocjplljcaaPSame
import Derived.Test.YtfjefocjplljcaaPAx11
namespace Go.Proofs.Ytfjefocjplljcaa.PL
open Go Go.RowKit Go.Proofs.Ytfjefocjplljcaa.PA Go.Proofs.YtfjefocjplljcaaW.PrintWords Go.Proofs.YtfjefocjplljcaaW.PrintLast Go.Proofs.YtfjefocjplljcaaW.PrintMore
set_option linter.unusedSimpArgs false
set_option linter.unusedVariables false
theorem same6_ev (a b : Int) (l : List (List Int)) (hl : l.length < 1152921504606846976) (hc : ∀ c ∈ l, c.length < 1152921504606846976) : Ev (fun k => serinetteref06_Same.f k a b l a b l) true := by
  have key : ∀ (d i : Nat), i + d = l.length → Ev (fun k => serinetteref06_Same.l0 k (i : Int) a b l a b l) true := by
    intro d
    induction d with
    | zero =>
      intro i hi
      refine succ ?_
      simp only [serinetteref06_Same.l0]
      exact neg (by omega) (now true)
    | succ d ih =>
      intro i hi
      have hil : i < l.length := by omega
      have h := ints_ev (rd_L1 l (i : Int)) (rd_L1 l (i : Int)) (hc _ (rdL1_mem l hil))
      rw [decide_eq_true rfl] at h
      have e1 : wrap64 ((i : Int) + 1) = ((i + 1 : Nat) : Int) := w64n (a := i + 1) (by omega)
      refine succ ?_
      simp only [serinetteref06_Same.l0]
      rw [e1]
      exact pos (Int.ofNat_lt.2 hil) (pos (Int.natCast_nonneg _) (pos (Int.ofNat_lt.2 hil) (bnd h (pos rfl (ih (i + 1) (by omega))))))
  unfold serinetteref06_Same.f
  refine pos rfl (pos rfl (succ ?_))
  simp only [serinetteref06_Same.j0]
  refine neg (by simp) ?_
  exact key l.length 0 (by omega)
end Go.Proofs.Ytfjefocjplljcaa.PL
