/- Each Go function named below comes to what the plain Lean function of its name answers, wherever that answers (rounds enough, no panic, no row too long); texts by a program of this session by way of the kit's print.py, what that does not take by hand. Condition: what is read lies in memory as each theorem says. -/
import Derived.Test.YthcognclnmcbhaaPAx0
namespace Go.Proofs.Ythcognclnmcbhaa.PA
open Go.RowKit Go.Proofs.YthcognclnmcbhaaW.PrintWords Go.Proofs.YthcognclnmcbhaaW.PrintLast Go.Proofs.YthcognclnmcbhaaW.PrintMore
attribute [local go_sem] max2_int min2_int max_two min_two max_three min_three max_four min_four   -- for this text's walks alone
set_option linter.unusedVariables false
set_option linter.unusedSimpArgs false

/-! ### serinetteshadow_AnyWide: function 46 -/
def serinetteshadow_AnyWide.l0 : Nat → List Int → Int → Int → Int → Option (Bool)
  | 0, _, _, _, _ => none
  | k + 1, x0, x1, x8, x9 => if x9 < x8 then (if 0 ≤ x9 then (if x9 < (x0.length : Int) then (if 0 ≤ x1 then (if ((shr .i64 (rd x0 x9) x1) / 4194304) = 0 then (serinetteshadow_AnyWide.l0 k x0 x1 x8 (wrap64 (x9 + 1))) else (if ((shr .i64 (rd x0 x9) x1) / 4194304) = (-1) then (serinetteshadow_AnyWide.l0 k x0 x1 x8 (wrap64 (x9 + 1))) else (some true))) else (none)) else (none)) else (none)) else (some false)
def serinetteshadow_AnyWide.f (k : Nat) (l0 : List Int) (a1 : Int) : Option (Bool) := serinetteshadow_AnyWide.l0 k l0 a1 (l0.length : Int) 0
theorem serinetteshadow_AnyWide.mono_l : ∀ k, (∀ y0 y1 y2 y3, LeO (serinetteshadow_AnyWide.l0 k y0 y1 y2 y3) (serinetteshadow_AnyWide.l0 (k + 1) y0 y1 y2 y3))
  | 0 => fun _ _ _ _ r h => by simp [serinetteshadow_AnyWide.l0] at h
  | k + 1 => by
    have ih0 := serinetteshadow_AnyWide.mono_l k
    · intro y0 y1 y2 y3
      unfold serinetteshadow_AnyWide.l0
      repeat' first
      | (with_reducible exact ih0 _ _ _ _)
      | (with_reducible exact LeO.refl _)
      | (with_reducible exact LeO.none _)
      | (with_reducible refine LeO.ite ?_ ?_)
      | (with_reducible refine LeO.bind ?_ (fun _ => ?_))
      | exact ih0 _ _ _ _
      | exact LeO.none _
      | refine LeO.ite ?_ ?_
      | refine LeO.bind ?_ (fun _ => ?_)
theorem serinetteshadow_AnyWide.mono : ∀ a0 a1 k, LeO (serinetteshadow_AnyWide.f k a0 a1) (serinetteshadow_AnyWide.f (k + 1) a0 a1) := by
  intro a0 a1 k
  have ih0 := serinetteshadow_AnyWide.mono_l k
  unfold serinetteshadow_AnyWide.f
  repeat' first
      | (with_reducible exact ih0 _ _ _ _)
      | (with_reducible exact LeO.refl _)
      | (with_reducible exact LeO.none _)
      | (with_reducible refine LeO.ite ?_ ?_)
      | (with_reducible refine LeO.bind ?_ (fun _ => ?_))
      | exact ih0 _ _ _ _
      | exact LeO.none _
      | refine LeO.ite ?_ ?_
      | refine LeO.bind ?_ (fun _ => ?_)

end Go.Proofs.Ythcognclnmcbhaa.PA
