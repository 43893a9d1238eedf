/- Each Go function named below comes to what the plain Lean function of its name answers, wherever that answers (rounds enough, no panic, no row too long); texts by a program of this session by way of the kit's print.py, what that does not take by hand. Condition: what is read lies in memory as each theorem says. -/
import Derived.Test.YthcognclnmcbhaaPAx0
import Derived.Test.YthcognclnmcbhaaPAx3
import Derived.Test.YthcognclnmcbhaaPAx7
namespace Go.Proofs.Ythcognclnmcbhaa.PA
open Go.RowKit Go.Proofs.YthcognclnmcbhaaW.PrintWords Go.Proofs.YthcognclnmcbhaaW.PrintLast Go.Proofs.YthcognclnmcbhaaW.PrintMore
attribute [local go_sem] max2_int min2_int max_two min_two max_three min_three max_four min_four   -- for this text's walks alone
set_option linter.unusedVariables false
set_option linter.unusedSimpArgs false

/-! ### serinetteshadow_SolveCore: function 45 -/
mutual
def serinetteshadow_SolveCore.l0 : Nat → List Int → Int → Int → List Int → List (List Int) → Int → Option ((List (List Int)))
  | 0, _, _, _, _, _, _ => none
  | k + 1, x0, x1, x5, x6, x7, x8 => if x8 < (x0.length : Int) then (serinetteshadow_SolveCore.j1 k x0 x1 x5 x6 x7 x8 (decide (x8 ≤ (mn x1 32)))) else (serinetteshadow_SolveCore.j1 k x0 x1 x5 x6 x7 x8 false)
def serinetteshadow_SolveCore.j1 : Nat → List Int → Int → Int → List Int → List (List Int) → Int → Bool → Option ((List (List Int)))
  | 0, _, _, _, _, _, _, _ => none
  | k + 1, x0, x1, x5, x6, x7, x8, x36 => if x36 = true then (if 0 ≤ x8 then (if x8 < (x0.length : Int) then (serinetteshadow_SolveCore.l1 k x0 x1 x5 x6 x7 x8 (wrap64 ((rd x0 x8) * 1048576)) x6 (x6.length : Int) 0) else (none)) else (none)) else (some x7)
def serinetteshadow_SolveCore.l1 : Nat → List Int → Int → Int → List Int → List (List Int) → Int → Int → List Int → Int → Int → Option ((List (List Int)))
  | 0, _, _, _, _, _, _, _, _, _, _ => none
  | k + 1, x0, x1, x5, x6, x7, x8, x9, x44, x45, x46 => if x46 < x45 then (if 0 ≤ x46 then (if x46 < (x44.length : Int) then (if 0 ≤ (wrap64 ((wrap64 (x8 - 1)) - x46)) then (if (wrap64 ((wrap64 (x8 - 1)) - x46)) < (x0.length : Int) then (serinetteshadow_SolveCore.l1 k x0 x1 x5 x6 x7 x8 (wrap64 (x9 - (wrap64 ((rd x44 x46) * (rd x0 (wrap64 ((wrap64 (x8 - 1)) - x46))))))) x44 x45 (wrap64 (x46 + 1))) else (none)) else (none)) else (none)) else (none)) else (if x5 = 0 then (none) else (if (wrap64 (Int.tdiv x9 x5)) ≤ (-1048576) then (serinetteshadow_SolveCore.j3 k x0 x1 x5 x6 x7 x8 (wrap64 (Int.tdiv x9 x5)) true) else (serinetteshadow_SolveCore.j3 k x0 x1 x5 x6 x7 x8 (wrap64 (Int.tdiv x9 x5)) (decide ((wrap64 (Int.tdiv x9 x5)) ≥ 1048576)))))
def serinetteshadow_SolveCore.j3 : Nat → List Int → Int → Int → List Int → List (List Int) → Int → Int → Bool → Option ((List (List Int)))
  | 0, _, _, _, _, _, _, _, _ => none
  | k + 1, x0, x1, x5, x6, x7, x8, x12, x71 => if x71 = true then (some x7) else ((solve_next.f k x6 x12).bind fun t126 => ((serinetteshadow_AnyFarSolve.f k t126).bind fun t129 => (if t129 = true then (some x7) else (if x7.length < 5864062014805 then ((some (x7 ++ [t126] : List (List Int))).bind fun y130 => (if (wrap64 (x5 - ((wrap64 (((wrap64 (x5 * x12)) / 1048576) * x12)) / 1048576))) < 1 then (some y130) else (serinetteshadow_SolveCore.l0 k x0 x1 (wrap64 (x5 - ((wrap64 (((wrap64 (x5 * x12)) / 1048576) * x12)) / 1048576))) t126 y130 (wrap64 (x8 + 1))))) else (none)))))
end
def serinetteshadow_SolveCore.f (k : Nat) (l0 : List Int) (a1 : Int) : Option ((List (List Int))) := if 0 < (l0.length : Int) then (serinetteshadow_SolveCore.l0 k l0 a1 (rd l0 0) ([] : List Int) ([] : List (List Int)) 1) else (none)
theorem serinetteshadow_SolveCore.mono_l : ∀ k, (∀ y0 y1 y2 y3 y4 y5, LeO (serinetteshadow_SolveCore.l0 k y0 y1 y2 y3 y4 y5) (serinetteshadow_SolveCore.l0 (k + 1) y0 y1 y2 y3 y4 y5)) ∧ (∀ y0 y1 y2 y3 y4 y5 y6, LeO (serinetteshadow_SolveCore.j1 k y0 y1 y2 y3 y4 y5 y6) (serinetteshadow_SolveCore.j1 (k + 1) y0 y1 y2 y3 y4 y5 y6)) ∧ (∀ y0 y1 y2 y3 y4 y5 y6 y7 y8 y9, LeO (serinetteshadow_SolveCore.l1 k y0 y1 y2 y3 y4 y5 y6 y7 y8 y9) (serinetteshadow_SolveCore.l1 (k + 1) y0 y1 y2 y3 y4 y5 y6 y7 y8 y9)) ∧ (∀ y0 y1 y2 y3 y4 y5 y6 y7, LeO (serinetteshadow_SolveCore.j3 k y0 y1 y2 y3 y4 y5 y6 y7) (serinetteshadow_SolveCore.j3 (k + 1) y0 y1 y2 y3 y4 y5 y6 y7))
  | 0 => ⟨fun _ _ _ _ _ _ r h => by simp [serinetteshadow_SolveCore.l0] at h, fun _ _ _ _ _ _ _ r h => by simp [serinetteshadow_SolveCore.j1] at h, fun _ _ _ _ _ _ _ _ _ _ r h => by simp [serinetteshadow_SolveCore.l1] at h, fun _ _ _ _ _ _ _ _ r h => by simp [serinetteshadow_SolveCore.j3] at h⟩
  | k + 1 => by
    obtain ⟨ih0, ih1, ih2, ih3⟩ := serinetteshadow_SolveCore.mono_l k
    refine ⟨?_, ?_, ?_, ?_⟩
    · intro y0 y1 y2 y3 y4 y5
      unfold serinetteshadow_SolveCore.l0
      repeat' first
      | (with_reducible exact ih0 _ _ _ _ _ _)
      | (with_reducible exact ih1 _ _ _ _ _ _ _)
      | (with_reducible exact ih2 _ _ _ _ _ _ _ _ _ _)
      | (with_reducible exact ih3 _ _ _ _ _ _ _ _)
      | (with_reducible exact serinetteshadow_AnyFarSolve.mono _ _)
      | (with_reducible exact solve_next.mono _ _ _)
      | (with_reducible exact LeO.refl _)
      | (with_reducible exact LeO.none _)
      | (with_reducible refine LeO.ite ?_ ?_)
      | (with_reducible refine LeO.bind ?_ (fun _ => ?_))
      | exact ih0 _ _ _ _ _ _
      | exact ih1 _ _ _ _ _ _ _
      | exact ih2 _ _ _ _ _ _ _ _ _ _
      | exact ih3 _ _ _ _ _ _ _ _
      | exact serinetteshadow_AnyFarSolve.mono _ _
      | exact solve_next.mono _ _ _
      | exact LeO.none _
      | refine LeO.ite ?_ ?_
      | refine LeO.bind ?_ (fun _ => ?_)
    · intro y0 y1 y2 y3 y4 y5 y6
      unfold serinetteshadow_SolveCore.j1
      repeat' first
      | (with_reducible exact ih0 _ _ _ _ _ _)
      | (with_reducible exact ih1 _ _ _ _ _ _ _)
      | (with_reducible exact ih2 _ _ _ _ _ _ _ _ _ _)
      | (with_reducible exact ih3 _ _ _ _ _ _ _ _)
      | (with_reducible exact serinetteshadow_AnyFarSolve.mono _ _)
      | (with_reducible exact solve_next.mono _ _ _)
      | (with_reducible exact LeO.refl _)
      | (with_reducible exact LeO.none _)
      | (with_reducible refine LeO.ite ?_ ?_)
      | (with_reducible refine LeO.bind ?_ (fun _ => ?_))
      | exact ih0 _ _ _ _ _ _
      | exact ih1 _ _ _ _ _ _ _
      | exact ih2 _ _ _ _ _ _ _ _ _ _
      | exact ih3 _ _ _ _ _ _ _ _
      | exact serinetteshadow_AnyFarSolve.mono _ _
      | exact solve_next.mono _ _ _
      | exact LeO.none _
      | refine LeO.ite ?_ ?_
      | refine LeO.bind ?_ (fun _ => ?_)
    · intro y0 y1 y2 y3 y4 y5 y6 y7 y8 y9
      unfold serinetteshadow_SolveCore.l1
      repeat' first
      | (with_reducible exact ih0 _ _ _ _ _ _)
      | (with_reducible exact ih1 _ _ _ _ _ _ _)
      | (with_reducible exact ih2 _ _ _ _ _ _ _ _ _ _)
      | (with_reducible exact ih3 _ _ _ _ _ _ _ _)
      | (with_reducible exact serinetteshadow_AnyFarSolve.mono _ _)
      | (with_reducible exact solve_next.mono _ _ _)
      | (with_reducible exact LeO.refl _)
      | (with_reducible exact LeO.none _)
      | (with_reducible refine LeO.ite ?_ ?_)
      | (with_reducible refine LeO.bind ?_ (fun _ => ?_))
      | exact ih0 _ _ _ _ _ _
      | exact ih1 _ _ _ _ _ _ _
      | exact ih2 _ _ _ _ _ _ _ _ _ _
      | exact ih3 _ _ _ _ _ _ _ _
      | exact serinetteshadow_AnyFarSolve.mono _ _
      | exact solve_next.mono _ _ _
      | exact LeO.none _
      | refine LeO.ite ?_ ?_
      | refine LeO.bind ?_ (fun _ => ?_)
    · intro y0 y1 y2 y3 y4 y5 y6 y7
      unfold serinetteshadow_SolveCore.j3
      repeat' first
      | (with_reducible exact ih0 _ _ _ _ _ _)
      | (with_reducible exact ih1 _ _ _ _ _ _ _)
      | (with_reducible exact ih2 _ _ _ _ _ _ _ _ _ _)
      | (with_reducible exact ih3 _ _ _ _ _ _ _ _)
      | (with_reducible exact serinetteshadow_AnyFarSolve.mono _ _)
      | (with_reducible exact solve_next.mono _ _ _)
      | (with_reducible exact LeO.refl _)
      | (with_reducible exact LeO.none _)
      | (with_reducible refine LeO.ite ?_ ?_)
      | (with_reducible refine LeO.bind ?_ (fun _ => ?_))
      | exact ih0 _ _ _ _ _ _
      | exact ih1 _ _ _ _ _ _ _
      | exact ih2 _ _ _ _ _ _ _ _ _ _
      | exact ih3 _ _ _ _ _ _ _ _
      | exact serinetteshadow_AnyFarSolve.mono _ _
      | exact solve_next.mono _ _ _
      | exact LeO.none _
      | refine LeO.ite ?_ ?_
      | refine LeO.bind ?_ (fun _ => ?_)
theorem serinetteshadow_SolveCore.mono : ∀ a0 a1 k, LeO (serinetteshadow_SolveCore.f k a0 a1) (serinetteshadow_SolveCore.f (k + 1) a0 a1) := by
  intro a0 a1 k
  obtain ⟨ih0, ih1, ih2, ih3⟩ := serinetteshadow_SolveCore.mono_l k
  unfold serinetteshadow_SolveCore.f
  repeat' first
      | (with_reducible exact ih0 _ _ _ _ _ _)
      | (with_reducible exact ih1 _ _ _ _ _ _ _)
      | (with_reducible exact ih2 _ _ _ _ _ _ _ _ _ _)
      | (with_reducible exact ih3 _ _ _ _ _ _ _ _)
      | (with_reducible exact serinetteshadow_AnyFarSolve.mono _ _)
      | (with_reducible exact solve_next.mono _ _ _)
      | (with_reducible exact LeO.refl _)
      | (with_reducible exact LeO.none _)
      | (with_reducible refine LeO.ite ?_ ?_)
      | (with_reducible refine LeO.bind ?_ (fun _ => ?_))
      | exact ih0 _ _ _ _ _ _
      | exact ih1 _ _ _ _ _ _ _
      | exact ih2 _ _ _ _ _ _ _ _ _ _
      | exact ih3 _ _ _ _ _ _ _ _
      | exact serinetteshadow_AnyFarSolve.mono _ _
      | exact solve_next.mono _ _ _
      | exact LeO.none _
      | refine LeO.ite ?_ ?_
      | refine LeO.bind ?_ (fun _ => ?_)

end Go.Proofs.Ythcognclnmcbhaa.PA
