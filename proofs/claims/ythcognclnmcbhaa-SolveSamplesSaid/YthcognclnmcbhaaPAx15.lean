/- Each Go function named below comes to what the plain Lean function of its name answers, wherever that answers (rounds enough, no panic, no row too long); texts by a program of this session by way of the kit's print.py, what that does not take by hand. Condition: what is read lies in memory as each theorem says. -/
import Derived.Test.YthcognclnmcbhaaPAx0
import Derived.Test.YthcognclnmcbhaaPAx14
namespace Go.Proofs.Ythcognclnmcbhaa.PA
open Go.RowKit Go.Proofs.YthcognclnmcbhaaW.PrintWords Go.Proofs.YthcognclnmcbhaaW.PrintLast Go.Proofs.YthcognclnmcbhaaW.PrintMore
attribute [local go_sem] max2_int min2_int max_two min_two max_three min_three max_four min_four   -- for this text's walks alone
set_option linter.unusedVariables false
set_option linter.unusedSimpArgs false

/-! ### serinetteref10_Solve: function 13 -/
mutual
def serinetteref10_Solve.j0 : Nat → List Int → Int → Bool → Option ((List (List Int)))
  | 0, _, _, _ => none
  | k + 1, x0, x1, x26 => if x26 = true then (some ([] : List (List Int))) else (serinetteref10_Solve.l0 k x0 x1 1)
def serinetteref10_Solve.l0 : Nat → List Int → Int → Int → Option ((List (List Int)))
  | 0, _, _, _ => none
  | k + 1, x0, x1, x5 => if 0 < (x0.length : Int) then (if x5 = 0 then (none) else (if (wrap64 (Int.tdiv (rd x0 0) x5)) ≥ 1073741824 then (serinetteref10_Solve.l0 k x0 x1 (wrap64 (2 * x5))) else (serinetteref10_Solve.l1 k x0 x1 x5 ([] : List Int) 0))) else (none)
def serinetteref10_Solve.l1 : Nat → List Int → Int → Int → List Int → Int → Option ((List (List Int)))
  | 0, _, _, _, _, _ => none
  | k + 1, x0, x1, x5, x6, x7 => if x7 < (x0.length : Int) then (if 0 ≤ x7 then ((serinetteref08_Down.f (rd x0 x7) x5).bind fun t174 => (if x6.length < 17592186044416 then (serinetteref10_Solve.l1 k x0 x1 x5 (x6 ++ [t174]) (wrap64 (x7 + 1))) else (none))) else (none)) else (if 0 < (x6.length : Int) then (serinetteref10_Solve.l2 k x1 x6 (rd x6 0) (([0] : List Int)) ([] : List (List Int)) 1) else (none))
def serinetteref10_Solve.l2 : Nat → Int → List Int → Int → List Int → List (List Int) → Int → Option ((List (List Int)))
  | 0, _, _, _, _, _, _ => none
  | k + 1, x1, x6, x8, x9, x10, x11 => if x11 ≤ x1 then (if x11 ≤ 32 then (serinetteref10_Solve.j4 k x1 x6 x8 x9 x10 x11 (decide (x11 < (x6.length : Int)))) else (serinetteref10_Solve.j4 k x1 x6 x8 x9 x10 x11 false)) else (serinetteref10_Solve.j4 k x1 x6 x8 x9 x10 x11 false)
def serinetteref10_Solve.j4 : Nat → Int → List Int → Int → List Int → List (List Int) → Int → Bool → Option ((List (List Int)))
  | 0, _, _, _, _, _, _, _ => none
  | k + 1, x1, x6, x8, x9, x10, x11, x66 => if x66 = true then (if 0 ≤ x11 then (if x11 < (x6.length : Int) then (serinetteref10_Solve.l3 k x1 x6 x8 x9 x10 x11 (wrap64 ((rd x6 x11) * 1048576)) 1) else (none)) else (none)) else (some x10)
def serinetteref10_Solve.l3 : Nat → Int → List Int → Int → List Int → List (List Int) → Int → Int → Int → Option ((List (List Int)))
  | 0, _, _, _, _, _, _, _, _ => none
  | k + 1, x1, x6, x8, x9, x10, x11, x12, x13 => if x13 < x11 then (if 0 ≤ x13 then (if x13 < (x9.length : Int) then (if 0 ≤ (wrap64 (x11 - x13)) then (if (wrap64 (x11 - x13)) < (x6.length : Int) then (serinetteref10_Solve.l3 k x1 x6 x8 x9 x10 x11 (wrap64 (x12 - (wrap64 ((rd x9 x13) * (rd x6 (wrap64 (x11 - x13))))))) (wrap64 (x13 + 1))) else (none)) else (none)) else (none)) else (none)) else (if x8 = 0 then (none) else (if (wrap64 (Int.tdiv x12 x8)) ≥ 1048576 then (serinetteref10_Solve.j6 k x1 x6 x8 x9 x10 x11 (wrap64 (Int.tdiv x12 x8)) true) else (serinetteref10_Solve.j6 k x1 x6 x8 x9 x10 x11 (wrap64 (Int.tdiv x12 x8)) (decide ((wrap64 (Int.tdiv x12 x8)) ≤ (-1048576))))))
def serinetteref10_Solve.j6 : Nat → Int → List Int → Int → List Int → List (List Int) → Int → Int → Bool → Option ((List (List Int)))
  | 0, _, _, _, _, _, _, _, _ => none
  | k + 1, x1, x6, x8, x9, x10, x11, x14, x100 => if x100 = true then (some x10) else (serinetteref10_Solve.l4 k x1 x6 x8 x9 x10 x11 x14 (([0] : List Int)) 1)
def serinetteref10_Solve.l4 : Nat → Int → List Int → Int → List Int → List (List Int) → Int → Int → List Int → Int → Option ((List (List Int)))
  | 0, _, _, _, _, _, _, _, _, _ => none
  | k + 1, x1, x6, x8, x9, x10, x11, x14, x15, x16 => if x16 < x11 then (if 0 ≤ x16 then (if x16 < (x9.length : Int) then (if 0 ≤ (wrap64 (x11 - x16)) then (if (wrap64 (x11 - x16)) < (x9.length : Int) then ((serinetteref08_Down.f (wrap64 (x14 * (rd x9 (wrap64 (x11 - x16))))) 1048576).bind fun t190 => (if x15.length < 17592186044416 then (serinetteref10_Solve.l4 k x1 x6 x8 x9 x10 x11 x14 (x15 ++ [wrap64 ((rd x9 x16) - t190)]) (wrap64 (x16 + 1))) else (none))) else (none)) else (none)) else (none)) else (none)) else (if x15.length < 17592186044416 then (serinetteref10_Solve.l5 k x1 x6 x8 (x15 ++ [x14]) x10 x11 x14 1) else (none))
def serinetteref10_Solve.l5 : Nat → Int → List Int → Int → List Int → List (List Int) → Int → Int → Int → Option ((List (List Int)))
  | 0, _, _, _, _, _, _, _, _ => none
  | k + 1, x1, x6, x8, x9, x10, x11, x14, x17 => if x17 ≤ x11 then (if 0 ≤ x17 then (if x17 < (x9.length : Int) then (if (rd x9 x17) > 67108864 then (some x10) else (if (rd x9 x17) < (-67108864) then (some x10) else (serinetteref10_Solve.l5 k x1 x6 x8 x9 x10 x11 x14 (wrap64 (x17 + 1))))) else (none)) else (none)) else ((some (([] : List Int) : List Int)).bind fun y199 => (if 1 ≤ (x9.length : Int) then ((some (x9.drop 1 : List Int)).bind fun y202 => (if y199.length + y202.length < 17592186044416 then (if x10.length < 5864062014805 then ((some (x10 ++ [(y199 ++ y202)] : List (List Int))).bind fun y209 => ((serinetteref08_Down.f (wrap64 (x8 * x14)) 1048576).bind fun t212 => ((serinetteref08_Down.f (wrap64 (t212 * x14)) 1048576).bind fun t213 => (if (wrap64 (x8 - t213)) < 1 then (some y209) else (serinetteref10_Solve.l2 k x1 x6 (wrap64 (x8 - t213)) x9 y209 (wrap64 (x11 + 1))))))) else (none)) else (none))) else (none)))
end
def serinetteref10_Solve.f (k : Nat) (l0 : List Int) (a1 : Int) : Option ((List (List Int))) := if (l0.length : Int) = 0 then (serinetteref10_Solve.j0 k l0 a1 true) else (if 0 < (l0.length : Int) then (serinetteref10_Solve.j0 k l0 a1 ((rd l0 0) == 0)) else (none))
theorem serinetteref10_Solve.mono_l : ∀ k, (∀ y0 y1 y2, LeO (serinetteref10_Solve.j0 k y0 y1 y2) (serinetteref10_Solve.j0 (k + 1) y0 y1 y2)) ∧ (∀ y0 y1 y2, LeO (serinetteref10_Solve.l0 k y0 y1 y2) (serinetteref10_Solve.l0 (k + 1) y0 y1 y2)) ∧ (∀ y0 y1 y2 y3 y4, LeO (serinetteref10_Solve.l1 k y0 y1 y2 y3 y4) (serinetteref10_Solve.l1 (k + 1) y0 y1 y2 y3 y4)) ∧ (∀ y0 y1 y2 y3 y4 y5, LeO (serinetteref10_Solve.l2 k y0 y1 y2 y3 y4 y5) (serinetteref10_Solve.l2 (k + 1) y0 y1 y2 y3 y4 y5)) ∧ (∀ y0 y1 y2 y3 y4 y5 y6, LeO (serinetteref10_Solve.j4 k y0 y1 y2 y3 y4 y5 y6) (serinetteref10_Solve.j4 (k + 1) y0 y1 y2 y3 y4 y5 y6)) ∧ (∀ y0 y1 y2 y3 y4 y5 y6 y7, LeO (serinetteref10_Solve.l3 k y0 y1 y2 y3 y4 y5 y6 y7) (serinetteref10_Solve.l3 (k + 1) y0 y1 y2 y3 y4 y5 y6 y7)) ∧ (∀ y0 y1 y2 y3 y4 y5 y6 y7, LeO (serinetteref10_Solve.j6 k y0 y1 y2 y3 y4 y5 y6 y7) (serinetteref10_Solve.j6 (k + 1) y0 y1 y2 y3 y4 y5 y6 y7)) ∧ (∀ y0 y1 y2 y3 y4 y5 y6 y7 y8, LeO (serinetteref10_Solve.l4 k y0 y1 y2 y3 y4 y5 y6 y7 y8) (serinetteref10_Solve.l4 (k + 1) y0 y1 y2 y3 y4 y5 y6 y7 y8)) ∧ (∀ y0 y1 y2 y3 y4 y5 y6 y7, LeO (serinetteref10_Solve.l5 k y0 y1 y2 y3 y4 y5 y6 y7) (serinetteref10_Solve.l5 (k + 1) y0 y1 y2 y3 y4 y5 y6 y7))
  | 0 => ⟨fun _ _ _ r h => by simp [serinetteref10_Solve.j0] at h, fun _ _ _ r h => by simp [serinetteref10_Solve.l0] at h, fun _ _ _ _ _ r h => by simp [serinetteref10_Solve.l1] at h, fun _ _ _ _ _ _ r h => by simp [serinetteref10_Solve.l2] at h, fun _ _ _ _ _ _ _ r h => by simp [serinetteref10_Solve.j4] at h, fun _ _ _ _ _ _ _ _ r h => by simp [serinetteref10_Solve.l3] at h, fun _ _ _ _ _ _ _ _ r h => by simp [serinetteref10_Solve.j6] at h, fun _ _ _ _ _ _ _ _ _ r h => by simp [serinetteref10_Solve.l4] at h, fun _ _ _ _ _ _ _ _ r h => by simp [serinetteref10_Solve.l5] at h⟩
  | k + 1 => by
    obtain ⟨ih0, ih1, ih2, ih3, ih4, ih5, ih6, ih7, ih8⟩ := serinetteref10_Solve.mono_l k
    refine ⟨?_, ?_, ?_, ?_, ?_, ?_, ?_, ?_, ?_⟩
    · intro y0 y1 y2
      unfold serinetteref10_Solve.j0
      repeat' first
      | (with_reducible exact ih0 _ _ _)
      | (with_reducible exact ih1 _ _ _)
      | (with_reducible exact ih2 _ _ _ _ _)
      | (with_reducible exact ih3 _ _ _ _ _ _)
      | (with_reducible exact ih4 _ _ _ _ _ _ _)
      | (with_reducible exact ih5 _ _ _ _ _ _ _ _)
      | (with_reducible exact ih6 _ _ _ _ _ _ _ _)
      | (with_reducible exact ih7 _ _ _ _ _ _ _ _ _)
      | (with_reducible exact ih8 _ _ _ _ _ _ _ _)
      | (with_reducible exact LeO.refl _)
      | (with_reducible exact LeO.none _)
      | (with_reducible refine LeO.ite ?_ ?_)
      | (with_reducible refine LeO.bind ?_ (fun _ => ?_))
      | exact ih0 _ _ _
      | exact ih1 _ _ _
      | exact ih2 _ _ _ _ _
      | exact ih3 _ _ _ _ _ _
      | exact ih4 _ _ _ _ _ _ _
      | exact ih5 _ _ _ _ _ _ _ _
      | exact ih6 _ _ _ _ _ _ _ _
      | exact ih7 _ _ _ _ _ _ _ _ _
      | exact ih8 _ _ _ _ _ _ _ _
      | exact LeO.none _
      | refine LeO.ite ?_ ?_
      | refine LeO.bind ?_ (fun _ => ?_)
    · intro y0 y1 y2
      unfold serinetteref10_Solve.l0
      repeat' first
      | (with_reducible exact ih0 _ _ _)
      | (with_reducible exact ih1 _ _ _)
      | (with_reducible exact ih2 _ _ _ _ _)
      | (with_reducible exact ih3 _ _ _ _ _ _)
      | (with_reducible exact ih4 _ _ _ _ _ _ _)
      | (with_reducible exact ih5 _ _ _ _ _ _ _ _)
      | (with_reducible exact ih6 _ _ _ _ _ _ _ _)
      | (with_reducible exact ih7 _ _ _ _ _ _ _ _ _)
      | (with_reducible exact ih8 _ _ _ _ _ _ _ _)
      | (with_reducible exact LeO.refl _)
      | (with_reducible exact LeO.none _)
      | (with_reducible refine LeO.ite ?_ ?_)
      | (with_reducible refine LeO.bind ?_ (fun _ => ?_))
      | exact ih0 _ _ _
      | exact ih1 _ _ _
      | exact ih2 _ _ _ _ _
      | exact ih3 _ _ _ _ _ _
      | exact ih4 _ _ _ _ _ _ _
      | exact ih5 _ _ _ _ _ _ _ _
      | exact ih6 _ _ _ _ _ _ _ _
      | exact ih7 _ _ _ _ _ _ _ _ _
      | exact ih8 _ _ _ _ _ _ _ _
      | exact LeO.none _
      | refine LeO.ite ?_ ?_
      | refine LeO.bind ?_ (fun _ => ?_)
    · intro y0 y1 y2 y3 y4
      unfold serinetteref10_Solve.l1
      repeat' first
      | (with_reducible exact ih0 _ _ _)
      | (with_reducible exact ih1 _ _ _)
      | (with_reducible exact ih2 _ _ _ _ _)
      | (with_reducible exact ih3 _ _ _ _ _ _)
      | (with_reducible exact ih4 _ _ _ _ _ _ _)
      | (with_reducible exact ih5 _ _ _ _ _ _ _ _)
      | (with_reducible exact ih6 _ _ _ _ _ _ _ _)
      | (with_reducible exact ih7 _ _ _ _ _ _ _ _ _)
      | (with_reducible exact ih8 _ _ _ _ _ _ _ _)
      | (with_reducible exact LeO.refl _)
      | (with_reducible exact LeO.none _)
      | (with_reducible refine LeO.ite ?_ ?_)
      | (with_reducible refine LeO.bind ?_ (fun _ => ?_))
      | exact ih0 _ _ _
      | exact ih1 _ _ _
      | exact ih2 _ _ _ _ _
      | exact ih3 _ _ _ _ _ _
      | exact ih4 _ _ _ _ _ _ _
      | exact ih5 _ _ _ _ _ _ _ _
      | exact ih6 _ _ _ _ _ _ _ _
      | exact ih7 _ _ _ _ _ _ _ _ _
      | exact ih8 _ _ _ _ _ _ _ _
      | exact LeO.none _
      | refine LeO.ite ?_ ?_
      | refine LeO.bind ?_ (fun _ => ?_)
    · intro y0 y1 y2 y3 y4 y5
      unfold serinetteref10_Solve.l2
      repeat' first
      | (with_reducible exact ih0 _ _ _)
      | (with_reducible exact ih1 _ _ _)
      | (with_reducible exact ih2 _ _ _ _ _)
      | (with_reducible exact ih3 _ _ _ _ _ _)
      | (with_reducible exact ih4 _ _ _ _ _ _ _)
      | (with_reducible exact ih5 _ _ _ _ _ _ _ _)
      | (with_reducible exact ih6 _ _ _ _ _ _ _ _)
      | (with_reducible exact ih7 _ _ _ _ _ _ _ _ _)
      | (with_reducible exact ih8 _ _ _ _ _ _ _ _)
      | (with_reducible exact LeO.refl _)
      | (with_reducible exact LeO.none _)
      | (with_reducible refine LeO.ite ?_ ?_)
      | (with_reducible refine LeO.bind ?_ (fun _ => ?_))
      | exact ih0 _ _ _
      | exact ih1 _ _ _
      | exact ih2 _ _ _ _ _
      | exact ih3 _ _ _ _ _ _
      | exact ih4 _ _ _ _ _ _ _
      | exact ih5 _ _ _ _ _ _ _ _
      | exact ih6 _ _ _ _ _ _ _ _
      | exact ih7 _ _ _ _ _ _ _ _ _
      | exact ih8 _ _ _ _ _ _ _ _
      | exact LeO.none _
      | refine LeO.ite ?_ ?_
      | refine LeO.bind ?_ (fun _ => ?_)
    · intro y0 y1 y2 y3 y4 y5 y6
      unfold serinetteref10_Solve.j4
      repeat' first
      | (with_reducible exact ih0 _ _ _)
      | (with_reducible exact ih1 _ _ _)
      | (with_reducible exact ih2 _ _ _ _ _)
      | (with_reducible exact ih3 _ _ _ _ _ _)
      | (with_reducible exact ih4 _ _ _ _ _ _ _)
      | (with_reducible exact ih5 _ _ _ _ _ _ _ _)
      | (with_reducible exact ih6 _ _ _ _ _ _ _ _)
      | (with_reducible exact ih7 _ _ _ _ _ _ _ _ _)
      | (with_reducible exact ih8 _ _ _ _ _ _ _ _)
      | (with_reducible exact LeO.refl _)
      | (with_reducible exact LeO.none _)
      | (with_reducible refine LeO.ite ?_ ?_)
      | (with_reducible refine LeO.bind ?_ (fun _ => ?_))
      | exact ih0 _ _ _
      | exact ih1 _ _ _
      | exact ih2 _ _ _ _ _
      | exact ih3 _ _ _ _ _ _
      | exact ih4 _ _ _ _ _ _ _
      | exact ih5 _ _ _ _ _ _ _ _
      | exact ih6 _ _ _ _ _ _ _ _
      | exact ih7 _ _ _ _ _ _ _ _ _
      | exact ih8 _ _ _ _ _ _ _ _
      | exact LeO.none _
      | refine LeO.ite ?_ ?_
      | refine LeO.bind ?_ (fun _ => ?_)
    · intro y0 y1 y2 y3 y4 y5 y6 y7
      unfold serinetteref10_Solve.l3
      repeat' first
      | (with_reducible exact ih0 _ _ _)
      | (with_reducible exact ih1 _ _ _)
      | (with_reducible exact ih2 _ _ _ _ _)
      | (with_reducible exact ih3 _ _ _ _ _ _)
      | (with_reducible exact ih4 _ _ _ _ _ _ _)
      | (with_reducible exact ih5 _ _ _ _ _ _ _ _)
      | (with_reducible exact ih6 _ _ _ _ _ _ _ _)
      | (with_reducible exact ih7 _ _ _ _ _ _ _ _ _)
      | (with_reducible exact ih8 _ _ _ _ _ _ _ _)
      | (with_reducible exact LeO.refl _)
      | (with_reducible exact LeO.none _)
      | (with_reducible refine LeO.ite ?_ ?_)
      | (with_reducible refine LeO.bind ?_ (fun _ => ?_))
      | exact ih0 _ _ _
      | exact ih1 _ _ _
      | exact ih2 _ _ _ _ _
      | exact ih3 _ _ _ _ _ _
      | exact ih4 _ _ _ _ _ _ _
      | exact ih5 _ _ _ _ _ _ _ _
      | exact ih6 _ _ _ _ _ _ _ _
      | exact ih7 _ _ _ _ _ _ _ _ _
      | exact ih8 _ _ _ _ _ _ _ _
      | exact LeO.none _
      | refine LeO.ite ?_ ?_
      | refine LeO.bind ?_ (fun _ => ?_)
    · intro y0 y1 y2 y3 y4 y5 y6 y7
      unfold serinetteref10_Solve.j6
      repeat' first
      | (with_reducible exact ih0 _ _ _)
      | (with_reducible exact ih1 _ _ _)
      | (with_reducible exact ih2 _ _ _ _ _)
      | (with_reducible exact ih3 _ _ _ _ _ _)
      | (with_reducible exact ih4 _ _ _ _ _ _ _)
      | (with_reducible exact ih5 _ _ _ _ _ _ _ _)
      | (with_reducible exact ih6 _ _ _ _ _ _ _ _)
      | (with_reducible exact ih7 _ _ _ _ _ _ _ _ _)
      | (with_reducible exact ih8 _ _ _ _ _ _ _ _)
      | (with_reducible exact LeO.refl _)
      | (with_reducible exact LeO.none _)
      | (with_reducible refine LeO.ite ?_ ?_)
      | (with_reducible refine LeO.bind ?_ (fun _ => ?_))
      | exact ih0 _ _ _
      | exact ih1 _ _ _
      | exact ih2 _ _ _ _ _
      | exact ih3 _ _ _ _ _ _
      | exact ih4 _ _ _ _ _ _ _
      | exact ih5 _ _ _ _ _ _ _ _
      | exact ih6 _ _ _ _ _ _ _ _
      | exact ih7 _ _ _ _ _ _ _ _ _
      | exact ih8 _ _ _ _ _ _ _ _
      | exact LeO.none _
      | refine LeO.ite ?_ ?_
      | refine LeO.bind ?_ (fun _ => ?_)
    · intro y0 y1 y2 y3 y4 y5 y6 y7 y8
      unfold serinetteref10_Solve.l4
      repeat' first
      | (with_reducible exact ih0 _ _ _)
      | (with_reducible exact ih1 _ _ _)
      | (with_reducible exact ih2 _ _ _ _ _)
      | (with_reducible exact ih3 _ _ _ _ _ _)
      | (with_reducible exact ih4 _ _ _ _ _ _ _)
      | (with_reducible exact ih5 _ _ _ _ _ _ _ _)
      | (with_reducible exact ih6 _ _ _ _ _ _ _ _)
      | (with_reducible exact ih7 _ _ _ _ _ _ _ _ _)
      | (with_reducible exact ih8 _ _ _ _ _ _ _ _)
      | (with_reducible exact LeO.refl _)
      | (with_reducible exact LeO.none _)
      | (with_reducible refine LeO.ite ?_ ?_)
      | (with_reducible refine LeO.bind ?_ (fun _ => ?_))
      | exact ih0 _ _ _
      | exact ih1 _ _ _
      | exact ih2 _ _ _ _ _
      | exact ih3 _ _ _ _ _ _
      | exact ih4 _ _ _ _ _ _ _
      | exact ih5 _ _ _ _ _ _ _ _
      | exact ih6 _ _ _ _ _ _ _ _
      | exact ih7 _ _ _ _ _ _ _ _ _
      | exact ih8 _ _ _ _ _ _ _ _
      | exact LeO.none _
      | refine LeO.ite ?_ ?_
      | refine LeO.bind ?_ (fun _ => ?_)
    · intro y0 y1 y2 y3 y4 y5 y6 y7
      unfold serinetteref10_Solve.l5
      repeat' first
      | (with_reducible exact ih0 _ _ _)
      | (with_reducible exact ih1 _ _ _)
      | (with_reducible exact ih2 _ _ _ _ _)
      | (with_reducible exact ih3 _ _ _ _ _ _)
      | (with_reducible exact ih4 _ _ _ _ _ _ _)
      | (with_reducible exact ih5 _ _ _ _ _ _ _ _)
      | (with_reducible exact ih6 _ _ _ _ _ _ _ _)
      | (with_reducible exact ih7 _ _ _ _ _ _ _ _ _)
      | (with_reducible exact ih8 _ _ _ _ _ _ _ _)
      | (with_reducible exact LeO.refl _)
      | (with_reducible exact LeO.none _)
      | (with_reducible refine LeO.ite ?_ ?_)
      | (with_reducible refine LeO.bind ?_ (fun _ => ?_))
      | exact ih0 _ _ _
      | exact ih1 _ _ _
      | exact ih2 _ _ _ _ _
      | exact ih3 _ _ _ _ _ _
      | exact ih4 _ _ _ _ _ _ _
      | exact ih5 _ _ _ _ _ _ _ _
      | exact ih6 _ _ _ _ _ _ _ _
      | exact ih7 _ _ _ _ _ _ _ _ _
      | exact ih8 _ _ _ _ _ _ _ _
      | exact LeO.none _
      | refine LeO.ite ?_ ?_
      | refine LeO.bind ?_ (fun _ => ?_)
theorem serinetteref10_Solve.mono : ∀ a0 a1 k, LeO (serinetteref10_Solve.f k a0 a1) (serinetteref10_Solve.f (k + 1) a0 a1) := by
  intro a0 a1 k
  obtain ⟨ih0, ih1, ih2, ih3, ih4, ih5, ih6, ih7, ih8⟩ := serinetteref10_Solve.mono_l k
  unfold serinetteref10_Solve.f
  repeat' first
      | (with_reducible exact ih0 _ _ _)
      | (with_reducible exact ih1 _ _ _)
      | (with_reducible exact ih2 _ _ _ _ _)
      | (with_reducible exact ih3 _ _ _ _ _ _)
      | (with_reducible exact ih4 _ _ _ _ _ _ _)
      | (with_reducible exact ih5 _ _ _ _ _ _ _ _)
      | (with_reducible exact ih6 _ _ _ _ _ _ _ _)
      | (with_reducible exact ih7 _ _ _ _ _ _ _ _ _)
      | (with_reducible exact ih8 _ _ _ _ _ _ _ _)
      | (with_reducible exact LeO.refl _)
      | (with_reducible exact LeO.none _)
      | (with_reducible refine LeO.ite ?_ ?_)
      | (with_reducible refine LeO.bind ?_ (fun _ => ?_))
      | exact ih0 _ _ _
      | exact ih1 _ _ _
      | exact ih2 _ _ _ _ _
      | exact ih3 _ _ _ _ _ _
      | exact ih4 _ _ _ _ _ _ _
      | exact ih5 _ _ _ _ _ _ _ _
      | exact ih6 _ _ _ _ _ _ _ _
      | exact ih7 _ _ _ _ _ _ _ _ _
      | exact ih8 _ _ _ _ _ _ _ _
      | exact LeO.none _
      | refine LeO.ite ?_ ?_
      | refine LeO.bind ?_ (fun _ => ?_)
def serinetteref10_Solve.T21 : Bool × List (List Nat × List Nat) := (true, [([], []), ([], []), ([], []), ([1, 2], [1, 2]), ([3], [3]), ([], []), ([], []), ([], []), ([6, 7], [6, 7]), ([5, 8], [5, 8]), ([9], [9]), ([4, 10], [4, 10]), ([0, 11], [0, 11]), ([12, 0, 1, 2, 3, 4, 5, 6, 7, 8, 9, 10, 11, 12], [0, 12])])
def serinetteref10_Solve.B21 : List Nat := [0, 0, 0, 6, 14, 0, 0, 0, 192, 480, 992, 2046, 4095, 8191]
theorem serinetteref10_Solve.tab21 : rtab .any (opsOf Try.f13 21) = serinetteref10_Solve.T21 := by kernel_rfl
theorem serinetteref10_Solve.bits21 : waitsOk serinetteref10_Solve.T21.2 serinetteref10_Solve.B21 = true := by kernel_rfl
def serinetteref10_Solve.T29 : Bool × List (List Nat × List Nat) := (true, [([], []), ([], []), ([], []), ([1, 2], [1, 2]), ([3], [3]), ([], []), ([], []), ([], []), ([], []), ([7, 8], [7, 8]), ([6, 9], [6, 9]), ([10], [10]), ([5, 11], [5, 11]), ([12], [12]), ([4, 13], [4, 13]), ([14], [14]), ([0, 15, 13], [0, 15]), ([16, 16, 0, 1, 2, 3, 4, 5, 6, 7, 8, 9, 10, 11, 12, 13, 14, 15, 16], [0, 16])])
def serinetteref10_Solve.B29 : List Nat := [0, 0, 0, 6, 14, 0, 0, 0, 0, 384, 960, 1984, 4064, 8160, 16382, 32766, 65535, 131071]
theorem serinetteref10_Solve.tab29 : rtab .any (opsOf Try.f13 29) = serinetteref10_Solve.T29 := by kernel_rfl
theorem serinetteref10_Solve.bits29 : waitsOk serinetteref10_Solve.T29.2 serinetteref10_Solve.B29 = true := by kernel_rfl
set_option maxHeartbeats 8000000 in
set_option maxRecDepth 100000 in
theorem serinetteref10_Solve.calls (k : Nat) (A0 : Option Addr) (c0 : Nat) (l0 : List Int) (a1 : Int) (r : List (List Int)) (w : World) (hr0 : Kd.C (Kd.int .i64) w A0 l0.length l0) (hc0 : l0.length ≤ c0) (h : serinetteref10_Solve.f k l0 a1 = some r) :
    Calls Try.prog 13 #[.slice A0 l0.length c0, .int .i64 a1] w fun e w' => ∃ v0_ : Value, e = .returned (v0_) ∧ Kd.S (Kd.slice 3 (Kd.int .i64)) 22 w' w.heap.size (fun _ => True) v0_ r ∧ Below w.heap.size w w' := by
  have HR0 := Aside0.mk hr0
  have HC0 := Aside0.mk hc0
  clear hr0 hc0
  have HB := Aside0.mk (Below.refl w.heap.size w)
  have H : (if (l0.length : Int) = 0 then (serinetteref10_Solve.j0 k l0 a1 true) else (if 0 < (l0.length : Int) then (serinetteref10_Solve.j0 k l0 a1 ((rd l0 0) == 0)) else (none))) = some r := h
  clear h
  have HC3 := Aside0.mk H
  clear H
  go_enter Try.func13, Try.ntmps13
  go_upto_region 1 with (fail)
  go_cut [26] (fun v26 wc => ∃ (kq : Nat) (x26_2 : Bool), v26 = .bool x26_2 ∧ Aside0 (serinetteref10_Solve.j0 kq l0 a1 x26_2 = some r) ∧ Aside0 (kq ≤ k) ∧ Aside0 (Below w.heap.size w wc))
  case first =>
    have H := HC3.out
    clear HC3
    by_cases c4 : (l0.length : Int) = 0
    · rw [if_pos c4] at H
      have c4b0 : ((l0.length : Int) == 0) = true := beq_iff_eq.mpr c4
      have c4b1 : ((l0.length : Int) != 0) = false := bne_eq_false_iff_eq.mpr c4
      clear c4
      (first | rw [c4b0] | (simp only [i64_w, i32_w]; rw [c4b0]) | skip)
      have H' := Aside0.mk H
      clear H
      go_wp2
      go_meet
      case rel => exact ⟨_, (true), (by first | rfl | (simp; done) | (simp only [i64_w, i32_w]; done) | (simp [*]; done) | (simp only [i64_w, i32_w]; first | rfl | (simp; done) | (simp [*]; done))), H', ⟨by first | omega | exact Nat.le_refl _⟩, ⟨by repeat (first | (with_reducible first | exact HB.out | apply below_alloc | apply pw_below_drewN | apply below_drew1) | exact HB.out)⟩⟩
    · rw [if_neg c4] at H
      have c4b0 : ((l0.length : Int) == 0) = false := beq_eq_false_iff_ne.mpr c4
      have c4b1 : ((l0.length : Int) != 0) = true := bne_iff_ne.mpr c4
      have c4b2 : ¬ (l0 = []) := fun h_ => c4 (by rw [h_]; rfl)
      (first | rw [c4b0] | (simp only [i64_w, i32_w]; rw [c4b0]) | skip)
      by_cases c5 : 0 < (l0.length : Int)
      · rw [if_pos c5] at H
        have c5b0 : decide (0 < (l0.length : Int)) = true := decide_eq_true c5
        have c5b1 : decide (0 < l0.length) = true := decide_eq_true (by omega)
        clear c5
        have H' := Aside0.mk H
        clear H
        have p171 : 0 ≤ (0 : Int) := (by omega)
        have q171 : 0 < (l0.length : Int) := of_decide_eq_true (by first | (with_reducible assumption) | assumption)
        obtain ⟨ad171, e171, hx171_0⟩ := Kd.at_int HR0.out 0 p171 q171
        cases e171
        have qi171 : (0 < l0.length) = True := eq_true (by omega)
        (try rw [show ((0 : Int)).toNat = 0 from rfl] at hx171_0)
        (try rw [Addr.add_zero'] at hx171_0)
        replace hx171_0 := (HB.out.cell (World.block_lt_of_cell? w _ hx171_0)).trans hx171_0
        replace p171 := eq_true p171
        replace q171 := eq_true q171
        go_wp2
        go_meet
        case rel => exact ⟨_, (((rd l0 0) == 0)), (by first | rfl | (simp; done) | (simp only [i64_w, i32_w]; done) | (simp [*]; done) | (simp only [i64_w, i32_w]; first | rfl | (simp; done) | (simp [*]; done))), H', ⟨by first | omega | exact Nat.le_refl _⟩, ⟨by repeat (first | (with_reducible first | exact HB.out | apply below_alloc | apply pw_below_drewN | apply below_drew1) | exact HB.out)⟩⟩
      · rw [if_neg c5] at H
        exact absurd H (by simp)
  case rest =>
    clear HC3
    try clear c1
    try clear p1
    try clear q1
    try clear hx1
    try clear qi1
    try clear p2
    try clear c4
    try clear c4b0
    try clear c4b1
    try clear c4b2
    try clear c5
    try clear c5b0
    try clear c5b1
    try clear hx171_0
    try clear p171
    try clear q171
    obtain ⟨kq, x26_2, rfl, HA, HJ2, HB⟩ := hcut
    cases kq with
    | zero => exact absurd HA.out (by simp [serinetteref10_Solve.j0])
    | succ kj2 =>
      have H := HA.out
      clear HA
      simp only [serinetteref10_Solve.j0] at H
      by_cases c6 : x26_2 = true
      · subst c6
        have H1 : (some ([] : List (List Int))) = some r := by rw [if_pos rfl] at H; exact H
        clear H
        have H := H1
        clear H1
        obtain rfl := Option.some.inj H
        go_wp2
        go_ret
        exact ⟨_, by first | rfl | (simp [errW_none, errW_some] <;> rfl) | (simp [*, errW_none, errW_some] <;> rfl), by first | exact Kd.S_nil _ _ _ _ _ | exact Kd.N_nil _ _ _ _ _ | exact Kd.V_nil _ _ _ _ _ | exact Kd.Q_nil _ _ _ _ _ | exact Kd.R_nil _ _ _ _ _, by repeat (first | (with_reducible first | exact HB.out | apply below_alloc | apply pw_below_drewN | apply below_drew1) | exact HB.out)⟩
      · replace c6 := Bool.eq_false_iff.mpr c6
        subst c6
        have H1 : (serinetteref10_Solve.l0 kj2 l0 a1 1) = some r := by rw [if_neg (show ¬ (false = true) by decide)] at H; exact H
        clear H
        have H := H1
        clear H1
        have H' := Aside0.mk H
        clear H
        go_wp2
        go_loopg [5] kj2 (fun kq v5 w' => ∃ (x5_2 : Int), v5 = .int .i64 x5_2 ∧ Aside0 (serinetteref10_Solve.l0 kq l0 a1 x5_2 = some r) ∧ Aside0 (kq ≤ kj2) ∧ Aside0 (Below w.heap.size w w'))
        case atStart => exact ⟨(1), (by first | rfl | (simp; done) | (simp only [i64_w, i32_w]; done) | (simp [*]; done) | (simp only [i64_w, i32_w]; first | rfl | (simp; done) | (simp [*]; done))), H', ⟨Nat.le_refl _⟩, ⟨by repeat (first | (with_reducible first | exact HB.out | apply below_alloc | apply pw_below_drewN | apply below_drew1) | exact HB.out)⟩⟩
        case round =>
          clear H'
          try clear c1
          try clear p1
          try clear q1
          try clear hx1
          try clear qi1
          try clear p2
          try clear c4
          try clear c4b0
          try clear c4b1
          try clear c4b2
          try clear c5
          try clear c5b0
          try clear c5b1
          try clear c6
          try clear hx171_0
          try clear p1
          try clear p171
          try clear p2
          try clear q1
          try clear q171
          obtain ⟨x5_2, rfl, HA, HK2, HB⟩ := hrel
          cases gk with
          | zero => exact absurd HA.out (by simp [serinetteref10_Solve.l0])
          | succ k2 =>
            have H := HA.out
            clear HA
            simp only [serinetteref10_Solve.l0] at H
            by_cases c7 : 0 < (l0.length : Int)
            · rw [if_pos c7] at H
              have c7b0 : decide (0 < (l0.length : Int)) = true := decide_eq_true c7
              have c7b1 : decide (0 < l0.length) = true := decide_eq_true (by omega)
              clear c7
              by_cases c8 : x5_2 = 0
              · rw [if_pos c8] at H
                exact absurd H (by simp)
              · rw [if_neg c8] at H
                have c8b0 : (x5_2 == 0) = false := beq_eq_false_iff_ne.mpr c8
                have c8b1 : (x5_2 != 0) = true := bne_iff_ne.mpr c8
                by_cases c9 : (wrap64 (Int.tdiv (rd l0 0) x5_2)) ≥ 1073741824
                · rw [if_pos c9] at H
                  have c9b0 : decide (1073741824 ≤ (wrap64 (Int.tdiv (rd l0 0) x5_2))) = true := decide_eq_true c9
                  clear c9
                  have H' := Aside0.mk H
                  clear H
                  have p172 : 0 ≤ (0 : Int) := (by omega)
                  have q172 : 0 < (l0.length : Int) := of_decide_eq_true (by first | (with_reducible assumption) | assumption)
                  obtain ⟨ad172, e172, hx172_0⟩ := Kd.at_int HR0.out 0 p172 q172
                  cases e172
                  have qi172 : (0 < l0.length) = True := eq_true (by omega)
                  (try rw [show ((0 : Int)).toNat = 0 from rfl] at hx172_0)
                  (try rw [Addr.add_zero'] at hx172_0)
                  replace hx172_0 := (HB.out.cell (World.block_lt_of_cell? w _ hx172_0)).trans hx172_0
                  replace p172 := eq_true p172
                  replace q172 := eq_true q172
                  go_wp2
                  go_roundg k2
                  case measure => have := HJ2.out; have := HK2.out; omega
                  case rel => exact ⟨(wrap64 (2 * x5_2)), (by first | rfl | (simp; done) | (simp only [i64_w, i32_w]; done) | (simp [*]; done) | (simp only [i64_w, i32_w]; first | rfl | (simp; done) | (simp [*]; done))), H', ⟨by have := HJ2.out; have := HK2.out; omega⟩, ⟨by repeat (first | (with_reducible first | exact HB.out | apply below_alloc | apply pw_below_drewN | apply below_drew1) | exact HB.out)⟩⟩
                · rw [if_neg c9] at H
                  have c9b0 : decide (1073741824 ≤ (wrap64 (Int.tdiv (rd l0 0) x5_2))) = false := decide_eq_false c9
                  clear c9
                  have H' := Aside0.mk H
                  clear H
                  have p172 : 0 ≤ (0 : Int) := (by omega)
                  have q172 : 0 < (l0.length : Int) := of_decide_eq_true (by first | (with_reducible assumption) | assumption)
                  obtain ⟨ad172, e172, hx172_0⟩ := Kd.at_int HR0.out 0 p172 q172
                  cases e172
                  have qi172 : (0 < l0.length) = True := eq_true (by omega)
                  (try rw [show ((0 : Int)).toNat = 0 from rfl] at hx172_0)
                  (try rw [Addr.add_zero'] at hx172_0)
                  replace hx172_0 := (HB.out.cell (World.block_lt_of_cell? w _ hx172_0)).trans hx172_0
                  replace p172 := eq_true p172
                  replace q172 := eq_true q172
                  go_wp2
                  go_loopg [6, 7] k2 (fun kq v6 v7 w' => ∃ (x6_3 : List Int) (x7_3 : Int), v7 = .int .i64 x7_3 ∧ Aside0 (serinetteref10_Solve.l1 kq l0 a1 x5_2 x6_3 x7_3 = some r) ∧ Aside0 (kq ≤ k2) ∧ Aside0 (Kd.R (Kd.int .i64) 3 w' w.heap.size (fun _ => True) v6 x6_3) ∧ Aside0 (Below w.heap.size w w'))
                  case atStart => exact ⟨(([] : List Int)), (0), (by first | rfl | (simp; done) | (simp only [i64_w, i32_w]; done) | (simp [*]; done) | (simp only [i64_w, i32_w]; first | rfl | (simp; done) | (simp [*]; done))), H', ⟨Nat.le_refl _⟩, ⟨by first | exact Kd.R_nil _ _ _ _ _ | exact Kd.N_nil _ _ _ _ _ | exact Kd.V_nil _ _ _ _ _ | exact Kd.Q_nil _ _ _ _ _ | exact Kd.S_nil _ _ _ _ _⟩, ⟨by repeat (first | (with_reducible first | exact HB.out | apply below_alloc | apply pw_below_drewN | apply below_drew1) | exact HB.out)⟩⟩
                  case round =>
                    clear H'
                    try clear c1
                    try clear p1
                    try clear q1
                    try clear hx1
                    try clear qi1
                    try clear p2
                    try clear c4
                    try clear c4b0
                    try clear c4b1
                    try clear c4b2
                    try clear c5
                    try clear c5b0
                    try clear c5b1
                    try clear c6
                    try clear p6
                    try clear c7
                    try clear c7b0
                    try clear c7b1
                    try clear c8
                    try clear c8b0
                    try clear c8b1
                    try clear c9
                    try clear c9b0
                    try clear hx171_0
                    try clear hx172_0
                    try clear p1
                    try clear p171
                    try clear p172
                    try clear p2
                    try clear q1
                    try clear q171
                    try clear q172
                    obtain ⟨x6_3, x7_3, rfl, HA, HK3, HO_6, HB⟩ := hrel
                    cases gk with
                    | zero => exact absurd HA.out (by simp [serinetteref10_Solve.l1])
                    | succ k3 =>
                      have H := HA.out
                      clear HA
                      simp only [serinetteref10_Solve.l1] at H
                      by_cases c10 : x7_3 < (l0.length : Int)
                      · rw [if_pos c10] at H
                        have c10b0 : decide (x7_3 < (l0.length : Int)) = true := decide_eq_true c10
                        clear c10
                        by_cases c11 : 0 ≤ x7_3
                        · rw [if_pos c11] at H
                          have c11b0 : decide (0 ≤ x7_3) = true := decide_eq_true c11
                          clear c11
                          replace H := Option.bind_eq_some_iff.mp H
                          obtain ⟨t174, A120, H⟩ := H
                          replace H : (if x6_3.length < 17592186044416 then (serinetteref10_Solve.l1 k3 l0 a1 x5_2 (x6_3 ++ [t174]) (wrap64 (x7_3 + 1))) else (none)) = some r := H
                          have A12 := Aside0.mk A120
                          clear A120
                          by_cases c13 : x6_3.length < 17592186044416
                          · rw [if_pos c13] at H
                            have LMc13 := Aside0.mk c13
                            clear c13
                            obtain ⟨y175, hy175⟩ : ∃ y_ : List Int, y_ = (x6_3 ++ [t174]) := ⟨_, rfl⟩
                            replace H : (serinetteref10_Solve.l1 k3 l0 a1 x5_2 y175 (wrap64 (x7_3 + 1))) = some r := by first | (rw [hy175]; with_reducible exact H) | (have H2_ := (Option.bind_some _ _).symm.trans H; rw [hy175]; with_reducible exact H2_) | (have H2_ := (Option.bind_some _ _).symm.trans H; with_reducible exact H2_) | with_reducible exact H | (rw [hy175]; exact H) | exact H
                            have Ny175 := Aside0.mk hy175
                            clear hy175
                            have H' := Aside0.mk H
                            clear H
                            have p173 : 0 ≤ (x7_3 : Int) := of_decide_eq_true (by first | (with_reducible assumption) | assumption)
                            have q173 : x7_3 < (l0.length : Int) := of_decide_eq_true (by first | (with_reducible assumption) | assumption)
                            obtain ⟨ad173, e173, hx173_0⟩ := Kd.at_int HR0.out x7_3 p173 q173
                            obtain rfl : ad172 = ad173 := (by injection e173)
                            replace hx173_0 := (HB.out.cell (World.block_lt_of_cell? w _ hx173_0)).trans hx173_0
                            replace p173 := eq_true p173
                            replace q173 := eq_true q173
                            go_wp2_with (first | ((with_reducible refine gate_callee (f := 21) rfl ?_); refine goesL_ (some 47) rfl rfl Try.func21 (by kernel_rfl) rfl #[.int .i64 (rd l0 x7_3), .int .i64 x5_2] rfl (by (try simp only [List.map_toArray, List.map_cons, List.map_nil]); first | done | rfl | (simp only [List.length_drop, List.length_take]; rfl)) ?_; (with_reducible refine (serinetteref08_Down.calls (rd l0 x7_3) x5_2 t174 _ A12.out).mono ?_); rintro e w' ⟨rfl, ⟨nd, rfl⟩⟩; refine ⟨_, rfl, ?_⟩) | ((with_reducible refine gate_builtin (b := .append) (xs := #[.tmp 41, .tmp 48]) rfl ?_); (try (refine gate_guard (by rfl) ?_; dsimp only)); at_builtin; refine Kd.R_append (Kd.int .i64) (w0 := w) w.heap.size rfl (.tmp 41) (.tmp 48) 22 3 (.int .i64 0) 8 rfl Try.underlying22 info3 rfl (by decide) (by omega) u6 x6_3 t174 [.int .i64 t174] (fun _ => True) (fun _ => False) rfl rfl ?aP (fun _ hk => hk.elim) ?aF ?aO ?aB ?aS ?aL ?_; (case aP => exact rfl); (case aB => exact (by repeat (first | (with_reducible first | exact HB.out | apply below_alloc | apply pw_below_drewN | apply below_drew1) | exact HB.out))); (case aF => exact (fun _ _ => trivial)); (case aO => exact (by (with_reducible repeat (first | apply Kd.R_alloc | apply Kd.R_drewN | apply Kd.R_drew)); exact HO_6.out)); (case aS => exact (below_size (by repeat (first | (with_reducible first | exact HB.out | apply below_alloc | apply pw_below_drewN | apply below_drew1) | exact HB.out)))); (case aL => have := LMc13.out; omega); intro v176 w14 ho hb hg hat; rw [← Ny175.out] at ho; have n0_ := Aside0.mk (hb); have n1_ := Aside0.mk (ho); clear HB; clear HO_6; have HB := n0_; have HO177 := n1_; clear n0_ n1_; clear ho hb hg hat))
                            go_roundg k3
                            case measure => have := HJ2.out; have := HK2.out; have := HK3.out; omega
                            case rel => exact ⟨(y175), (wrap64 (x7_3 + 1)), (by first | rfl | (simp; done) | (simp only [i64_w, i32_w]; done) | (simp [*]; done) | (simp only [i64_w, i32_w]; first | rfl | (simp; done) | (simp [*]; done))), H', ⟨by have := HJ2.out; have := HK2.out; have := HK3.out; omega⟩, ⟨by (with_reducible repeat (first | apply Kd.R_alloc | apply Kd.R_drewN | apply Kd.R_drew)); exact HO177.out⟩, ⟨by repeat (first | (with_reducible first | exact HB.out | apply below_alloc | apply pw_below_drewN | apply below_drew1) | exact HB.out)⟩⟩
                          · rw [if_neg c13] at H
                            exact absurd H (by simp)
                        · rw [if_neg c11] at H
                          exact absurd H (by simp)
                      · rw [if_neg c10] at H
                        have c10b0 : decide (x7_3 < (l0.length : Int)) = false := decide_eq_false c10
                        clear c10
                        by_cases c15 : 0 < (x6_3.length : Int)
                        · rw [if_pos c15] at H
                          have c15b0 : decide (0 < (x6_3.length : Int)) = true := decide_eq_true c15
                          have c15b1 : decide (0 < x6_3.length) = true := decide_eq_true (by omega)
                          clear c15
                          obtain ⟨y179, hy179⟩ : ∃ y_ : List Int, y_ = (([0] : List Int)) := ⟨_, rfl⟩
                          replace H : (serinetteref10_Solve.l2 k3 a1 x6_3 (rd x6_3 0) y179 ([] : List (List Int)) 1) = some r := by first | (rw [hy179]; with_reducible exact H) | (have H2_ := (Option.bind_some _ _).symm.trans H; rw [hy179]; with_reducible exact H2_) | (have H2_ := (Option.bind_some _ _).symm.trans H; with_reducible exact H2_) | with_reducible exact H | (rw [hy179]; exact H) | exact H
                          have Ny179 := Aside0.mk hy179
                          clear hy179
                          have H' := Aside0.mk H
                          clear H
                          obtain ⟨Ao16, co16, eo16⟩ := Kd.R_slice HO_6.out
                          subst eo16
                          have p178 : 0 ≤ (0 : Int) := (by omega)
                          have q178 : 0 < (x6_3.length : Int) := of_decide_eq_true (by first | (with_reducible assumption) | assumption)
                          obtain ⟨ad178, e178, hx178_0⟩ := Kd.at_int (Kd.R_reads' HO_6.out).2.2 0 p178 q178
                          cases e178
                          have qi178 : (0 < x6_3.length) = True := eq_true (by omega)
                          (try rw [show ((0 : Int)).toNat = 0 from rfl] at hx178_0)
                          (try rw [Addr.add_zero'] at hx178_0)
                          replace p178 := eq_true p178
                          replace q178 := eq_true q178
                          go_wp2_with (first | ((with_reducible refine gate_dst (N := 53) rfl ?_); (try (refine gate_guard (by rfl) ?_; dsimp only)); refine Kd.R_lit (Kd.int .i64) _ 3 ?hg (N := 53) ?hd (xs := ([0] : List Int)) (inner := [.int .i64 0]) (ok := fun _ => True) (okp := fun _ => True) ?hr ?hp (fun _ hk => hk) trivial (Below.refl _ _) (Nat.le_refl _) (by simp) ?_; (case hd => rfl); (case hg => rfl); (case hr => first | (go_simp; done) | (go_simp; rfl)); (case hp => exact (Reps.one (show Kd.M (Kd.int .i64) _ _ _ 0 [.int .i64 0] from rfl) (Reps.none _ _))); intro v180 w17 ho18 hb hg_ hnew_; clear hg_ hnew_; (first | rw [← Ny179.out] at ho18 | (simp only [Int.reduceToNat] at ho18; rw [← Ny179.out] at ho18)); have n0_ := Aside0.mk (Kd.R_elder' (by (with_reducible repeat (first | apply Kd.R_alloc | apply Kd.R_drewN | apply Kd.R_drew)); exact HO_6.out) (Kd.R_base ho18) hb); have n1_ := Aside0.mk (Kd.R_lower (Kd.R_new' ho18 (Kd.R_lt (by (with_reducible repeat (first | apply Kd.R_alloc | apply Kd.R_drewN | apply Kd.R_drew)); exact HO_6.out))) (below_size (by repeat (first | (with_reducible first | exact HB.out | apply below_alloc | apply pw_below_drewN | apply below_drew1) | exact HB.out)))); have n2_ := Aside0.mk (below_step (by repeat (first | (with_reducible first | exact HB.out | apply below_alloc | apply pw_below_drewN | apply below_drew1) | exact HB.out)) hb); clear HO_6; clear HB; have HO_6 := n0_; have HO181 := n1_; have HB := n2_; clear n0_ n1_ n2_; clear hb ho18))
                          go_loopg [8, 9, 10, 11] k3 (fun kq v8 v9 v10 v11 w' => ∃ (x8_4 : Int) (x9_4 : List Int) (x10_4 : List (List Int)) (x11_4 : Int), v8 = .int .i64 x8_4 ∧ v11 = .int .i64 x11_4 ∧ Aside0 (serinetteref10_Solve.l2 kq a1 x6_3 x8_4 x9_4 x10_4 x11_4 = some r) ∧ Aside0 (kq ≤ k3) ∧ Aside0 (Kd.R (Kd.int .i64) 3 w' w.heap.size (fun k_ => some k_ ≠ (v9 : Value).ownBlock) (.slice (some ad178) x6_3.length co16) x6_3) ∧ Aside0 (Kd.R (Kd.int .i64) 3 w' w.heap.size (fun k_ => some k_ ≠ ((.slice (some ad178) x6_3.length co16) : Value).ownBlock) v9 x9_4) ∧ Aside0 (Kd.S (Kd.slice 3 (Kd.int .i64)) 22 w' w.heap.size (fun k_ => some k_ ≠ ((.slice (some ad178) x6_3.length co16) : Value).ownBlock ∧ some k_ ≠ (v9 : Value).ownBlock) v10 x10_4) ∧ Aside0 (Below w.heap.size w w'))
                          case atStart => exact ⟨(rd x6_3 0), (y179), (([] : List (List Int))), (1), (by first | rfl | (simp; done) | (simp only [i64_w, i32_w]; done) | (simp [*]; done) | (simp only [i64_w, i32_w]; first | rfl | (simp; done) | (simp [*]; done))), (by first | rfl | (simp; done) | (simp only [i64_w, i32_w]; done) | (simp [*]; done) | (simp only [i64_w, i32_w]; first | rfl | (simp; done) | (simp [*]; done))), H', ⟨Nat.le_refl _⟩, ⟨by (with_reducible repeat (first | apply Kd.R_alloc | apply Kd.R_drewN | apply Kd.R_drew)); exact Kd.R_mono HO_6.out (fun _ hk => hk.2)⟩, ⟨by (with_reducible repeat (first | apply Kd.R_alloc | apply Kd.R_drewN | apply Kd.R_drew)); exact Kd.R_mono HO181.out (fun _ hk => hk.2)⟩, ⟨by first | exact Kd.S_nil _ _ _ _ _ | exact Kd.N_nil _ _ _ _ _ | exact Kd.V_nil _ _ _ _ _ | exact Kd.Q_nil _ _ _ _ _ | exact Kd.R_nil _ _ _ _ _⟩, ⟨by repeat (first | (with_reducible first | exact HB.out | apply below_alloc | apply pw_below_drewN | apply below_drew1) | exact HB.out)⟩⟩
                          case round =>
                            clear H'
                            try clear c1
                            try clear p1
                            try clear q1
                            try clear hx1
                            try clear qi1
                            try clear c2
                            try clear p2
                            try clear c4
                            try clear c4b0
                            try clear c4b1
                            try clear c4b2
                            try clear c5
                            try clear c5b0
                            try clear c5b1
                            try clear c6
                            try clear p6
                            try clear c7
                            try clear c7b0
                            try clear c7b1
                            try clear c8
                            try clear c8b0
                            try clear c8b1
                            try clear c9
                            try clear c9b0
                            try clear c10
                            try clear c10b0
                            try clear c11
                            try clear c11b0
                            try clear c13
                            try clear c15
                            try clear c15b0
                            try clear c15b1
                            try clear p17
                            try clear q17
                            try clear hx17
                            try clear qi17
                            try clear hx171_0
                            try clear hx172_0
                            try clear hx173_0
                            try clear hx178_0
                            try clear p1
                            try clear p171
                            try clear p172
                            try clear p173
                            try clear p178
                            try clear p2
                            try clear p6
                            try clear q1
                            try clear q171
                            try clear q172
                            try clear q173
                            try clear q178
                            obtain ⟨x8_4, x9_4, x10_4, x11_4, rfl, rfl, HA, HK4, HO_6, HO_9, HO_10, HB⟩ := hrel
                            cases gk with
                            | zero => exact absurd HA.out (by simp [serinetteref10_Solve.l2])
                            | succ k4 =>
                              have H := HA.out
                              clear HA
                              simp only [serinetteref10_Solve.l2] at H
                              have HC19 := Aside0.mk H
                              clear H
                              go_upto_region 15 with (fail)
                              go_cut [66] (fun v66 wc => ∃ (kq : Nat) (x66_18 : Bool), v66 = .bool x66_18 ∧ Aside0 (serinetteref10_Solve.j4 kq a1 x6_3 x8_4 x9_4 x10_4 x11_4 x66_18 = some r) ∧ Aside0 (kq ≤ k4) ∧ Aside0 (Kd.R (Kd.int .i64) 3 wc w.heap.size (fun k_ => some k_ ≠ (u9 : Value).ownBlock) (.slice (some ad178) x6_3.length co16) x6_3) ∧ Aside0 (Kd.R (Kd.int .i64) 3 wc w.heap.size (fun k_ => some k_ ≠ ((.slice (some ad178) x6_3.length co16) : Value).ownBlock) u9 x9_4) ∧ Aside0 (Kd.S (Kd.slice 3 (Kd.int .i64)) 22 wc w.heap.size (fun k_ => some k_ ≠ ((.slice (some ad178) x6_3.length co16) : Value).ownBlock ∧ some k_ ≠ (u9 : Value).ownBlock) u10 x10_4) ∧ Aside0 (Below w.heap.size w wc))
                              case first =>
                                have H := HC19.out
                                clear HC19
                                by_cases c20 : x11_4 ≤ a1
                                · rw [if_pos c20] at H
                                  have c20b0 : decide (x11_4 ≤ a1) = true := decide_eq_true c20
                                  clear c20
                                  (first | rw [c20b0] | (simp only [i64_w, i32_w]; rw [c20b0]) | skip)
                                  by_cases c21 : x11_4 ≤ 32
                                  · rw [if_pos c21] at H
                                    have c21b0 : decide (x11_4 ≤ 32) = true := decide_eq_true c21
                                    clear c21
                                    have H' := Aside0.mk H
                                    clear H
                                    go_wp2
                                    go_meet
                                    case rel => exact ⟨_, (decide (x11_4 < (x6_3.length : Int))), (by first | rfl | (simp; done) | (simp only [i64_w, i32_w]; done) | (simp [*]; done) | (simp only [i64_w, i32_w]; first | rfl | (simp; done) | (simp [*]; done))), H', ⟨by have := HJ2.out; have := HK2.out; have := HK3.out; have := HK4.out; first | omega | exact Nat.le_refl _⟩, ⟨by (with_reducible repeat (first | apply Kd.R_alloc | apply Kd.R_drewN | apply Kd.R_drew)); exact HO_6.out⟩, ⟨by (with_reducible repeat (first | apply Kd.R_alloc | apply Kd.R_drewN | apply Kd.R_drew)); exact HO_9.out⟩, ⟨by (with_reducible repeat (first | apply Kd.S_alloc | apply Kd.S_drewN | apply Kd.S_drew)); exact HO_10.out⟩, ⟨by repeat (first | (with_reducible first | exact HB.out | apply below_alloc | apply pw_below_drewN | apply below_drew1) | exact HB.out)⟩⟩
                                  · rw [if_neg c21] at H
                                    have c21b0 : decide (x11_4 ≤ 32) = false := decide_eq_false c21
                                    clear c21
                                    have H' := Aside0.mk H
                                    clear H
                                    go_wp2
                                    go_meet
                                    case rel => exact ⟨_, (false), (by first | rfl | (simp; done) | (simp only [i64_w, i32_w]; done) | (simp [*]; done) | (simp only [i64_w, i32_w]; first | rfl | (simp; done) | (simp [*]; done))), H', ⟨by have := HJ2.out; have := HK2.out; have := HK3.out; have := HK4.out; first | omega | exact Nat.le_refl _⟩, ⟨by (with_reducible repeat (first | apply Kd.R_alloc | apply Kd.R_drewN | apply Kd.R_drew)); exact HO_6.out⟩, ⟨by (with_reducible repeat (first | apply Kd.R_alloc | apply Kd.R_drewN | apply Kd.R_drew)); exact HO_9.out⟩, ⟨by (with_reducible repeat (first | apply Kd.S_alloc | apply Kd.S_drewN | apply Kd.S_drew)); exact HO_10.out⟩, ⟨by repeat (first | (with_reducible first | exact HB.out | apply below_alloc | apply pw_below_drewN | apply below_drew1) | exact HB.out)⟩⟩
                                · rw [if_neg c20] at H
                                  have c20b0 : decide (x11_4 ≤ a1) = false := decide_eq_false c20
                                  clear c20
                                  (first | rw [c20b0] | (simp only [i64_w, i32_w]; rw [c20b0]) | skip)
                                  have H' := Aside0.mk H
                                  clear H
                                  go_wp2
                                  go_meet
                                  case rel => exact ⟨_, (false), (by first | rfl | (simp; done) | (simp only [i64_w, i32_w]; done) | (simp [*]; done) | (simp only [i64_w, i32_w]; first | rfl | (simp; done) | (simp [*]; done))), H', ⟨by have := HJ2.out; have := HK2.out; have := HK3.out; have := HK4.out; first | omega | exact Nat.le_refl _⟩, ⟨by (with_reducible repeat (first | apply Kd.R_alloc | apply Kd.R_drewN | apply Kd.R_drew)); exact HO_6.out⟩, ⟨by (with_reducible repeat (first | apply Kd.R_alloc | apply Kd.R_drewN | apply Kd.R_drew)); exact HO_9.out⟩, ⟨by (with_reducible repeat (first | apply Kd.S_alloc | apply Kd.S_drewN | apply Kd.S_drew)); exact HO_10.out⟩, ⟨by repeat (first | (with_reducible first | exact HB.out | apply below_alloc | apply pw_below_drewN | apply below_drew1) | exact HB.out)⟩⟩
                              case rest =>
                                clear HC19
                                try clear c1
                                try clear p1
                                try clear q1
                                try clear hx1
                                try clear qi1
                                try clear c2
                                try clear p2
                                try clear c4
                                try clear c4b0
                                try clear c4b1
                                try clear c4b2
                                try clear c5
                                try clear c5b0
                                try clear c5b1
                                try clear c6
                                try clear p6
                                try clear c7
                                try clear c7b0
                                try clear c7b1
                                try clear c8
                                try clear c8b0
                                try clear c8b1
                                try clear c9
                                try clear c9b0
                                try clear c10
                                try clear c10b0
                                try clear c11
                                try clear c11b0
                                try clear c13
                                try clear c15
                                try clear c15b0
                                try clear c15b1
                                try clear p17
                                try clear q17
                                try clear hx17
                                try clear qi17
                                try clear c20
                                try clear c20b0
                                try clear c21
                                try clear c21b0
                                try clear hx171_0
                                try clear hx172_0
                                try clear hx173_0
                                try clear hx178_0
                                try clear p1
                                try clear p17
                                try clear p171
                                try clear p172
                                try clear p173
                                try clear p178
                                try clear p2
                                try clear p6
                                try clear q1
                                try clear q17
                                try clear q171
                                try clear q172
                                try clear q173
                                try clear q178
                                obtain ⟨kq, x66_18, rfl, HA, HJ18, HO_6, HO_9, HO_10, HB⟩ := hcut
                                cases kq with
                                | zero => exact absurd HA.out (by simp [serinetteref10_Solve.j4])
                                | succ kj18 =>
                                  have H := HA.out
                                  clear HA
                                  simp only [serinetteref10_Solve.j4] at H
                                  by_cases c22 : x66_18 = true
                                  · subst c22
                                    have H1 : (if 0 ≤ x11_4 then (if x11_4 < (x6_3.length : Int) then (serinetteref10_Solve.l3 kj18 a1 x6_3 x8_4 x9_4 x10_4 x11_4 (wrap64 ((rd x6_3 x11_4) * 1048576)) 1) else (none)) else (none)) = some r := by rw [if_pos rfl] at H; exact H
                                    clear H
                                    have H := H1
                                    clear H1
                                    by_cases c23 : 0 ≤ x11_4
                                    · rw [if_pos c23] at H
                                      have c23b0 : decide (0 ≤ x11_4) = true := decide_eq_true c23
                                      clear c23
                                      by_cases c24 : x11_4 < (x6_3.length : Int)
                                      · rw [if_pos c24] at H
                                        have c24b0 : decide (x11_4 < (x6_3.length : Int)) = true := decide_eq_true c24
                                        clear c24
                                        have H' := Aside0.mk H
                                        clear H
                                        have p182 : 0 ≤ (x11_4 : Int) := of_decide_eq_true (by first | (with_reducible assumption) | assumption)
                                        have q182 : x11_4 < (x6_3.length : Int) := of_decide_eq_true (by first | (with_reducible assumption) | assumption)
                                        obtain ⟨ad182, e182, hx182_0⟩ := Kd.at_int (Kd.R_reads' HO_6.out).2.2 x11_4 p182 q182
                                        obtain rfl : ad178 = ad182 := (by injection e182)
                                        replace p182 := eq_true p182
                                        replace q182 := eq_true q182
                                        go_wp2
                                        go_loopg [12, 13] kj18 (fun kq v12 v13 w' => ∃ (x12_6 : Int) (x13_6 : Int), v12 = .int .i64 x12_6 ∧ v13 = .int .i64 x13_6 ∧ Aside0 (serinetteref10_Solve.l3 kq a1 x6_3 x8_4 x9_4 x10_4 x11_4 x12_6 x13_6 = some r) ∧ Aside0 (kq ≤ kj18) ∧ Aside0 (Kd.R (Kd.int .i64) 3 w' w.heap.size (fun k_ => some k_ ≠ (u9 : Value).ownBlock) (.slice (some ad178) x6_3.length co16) x6_3) ∧ Aside0 (Kd.R (Kd.int .i64) 3 w' w.heap.size (fun k_ => some k_ ≠ ((.slice (some ad178) x6_3.length co16) : Value).ownBlock) u9 x9_4) ∧ Aside0 (Kd.S (Kd.slice 3 (Kd.int .i64)) 22 w' w.heap.size (fun k_ => some k_ ≠ ((.slice (some ad178) x6_3.length co16) : Value).ownBlock ∧ some k_ ≠ (u9 : Value).ownBlock) u10 x10_4) ∧ Aside0 (Below w.heap.size w w'))
                                        case atStart => exact ⟨(wrap64 ((rd x6_3 x11_4) * 1048576)), (1), (by first | rfl | (simp; done) | (simp only [i64_w, i32_w]; done) | (simp [*]; done) | (simp only [i64_w, i32_w]; first | rfl | (simp; done) | (simp [*]; done))), (by first | rfl | (simp; done) | (simp only [i64_w, i32_w]; done) | (simp [*]; done) | (simp only [i64_w, i32_w]; first | rfl | (simp; done) | (simp [*]; done))), H', ⟨Nat.le_refl _⟩, ⟨by (with_reducible repeat (first | apply Kd.R_alloc | apply Kd.R_drewN | apply Kd.R_drew)); exact HO_6.out⟩, ⟨by (with_reducible repeat (first | apply Kd.R_alloc | apply Kd.R_drewN | apply Kd.R_drew)); exact HO_9.out⟩, ⟨by (with_reducible repeat (first | apply Kd.S_alloc | apply Kd.S_drewN | apply Kd.S_drew)); exact HO_10.out⟩, ⟨by repeat (first | (with_reducible first | exact HB.out | apply below_alloc | apply pw_below_drewN | apply below_drew1) | exact HB.out)⟩⟩
                                        case round =>
                                          clear H'
                                          try clear c1
                                          try clear p1
                                          try clear q1
                                          try clear hx1
                                          try clear qi1
                                          try clear c2
                                          try clear p2
                                          try clear c4
                                          try clear c4b0
                                          try clear c4b1
                                          try clear c4b2
                                          try clear c5
                                          try clear c5b0
                                          try clear c5b1
                                          try clear c6
                                          try clear p6
                                          try clear c7
                                          try clear c7b0
                                          try clear c7b1
                                          try clear c8
                                          try clear c8b0
                                          try clear c8b1
                                          try clear c9
                                          try clear c9b0
                                          try clear c10
                                          try clear c10b0
                                          try clear c11
                                          try clear c11b0
                                          try clear c13
                                          try clear c15
                                          try clear c15b0
                                          try clear c15b1
                                          try clear p17
                                          try clear q17
                                          try clear hx17
                                          try clear qi17
                                          try clear p18
                                          try clear q18
                                          try clear hx18
                                          try clear c20
                                          try clear c20b0
                                          try clear c21
                                          try clear c21b0
                                          try clear c22
                                          try clear c23
                                          try clear c23b0
                                          try clear c24
                                          try clear c24b0
                                          try clear hx171_0
                                          try clear hx172_0
                                          try clear hx173_0
                                          try clear hx178_0
                                          try clear hx182_0
                                          try clear p1
                                          try clear p17
                                          try clear p171
                                          try clear p172
                                          try clear p173
                                          try clear p178
                                          try clear p182
                                          try clear p2
                                          try clear p6
                                          try clear q1
                                          try clear q17
                                          try clear q171
                                          try clear q172
                                          try clear q173
                                          try clear q178
                                          try clear q182
                                          obtain ⟨x12_6, x13_6, rfl, rfl, HA, HK6, HO_6, HO_9, HO_10, HB⟩ := hrel
                                          cases gk with
                                          | zero => exact absurd HA.out (by simp [serinetteref10_Solve.l3])
                                          | succ k6 =>
                                            have H := HA.out
                                            clear HA
                                            simp only [serinetteref10_Solve.l3] at H
                                            by_cases c25 : x13_6 < x11_4
                                            · rw [if_pos c25] at H
                                              have c25b0 : decide (x13_6 < x11_4) = true := decide_eq_true c25
                                              clear c25
                                              by_cases c26 : 0 ≤ x13_6
                                              · rw [if_pos c26] at H
                                                have c26b0 : decide (0 ≤ x13_6) = true := decide_eq_true c26
                                                clear c26
                                                by_cases c27 : x13_6 < (x9_4.length : Int)
                                                · rw [if_pos c27] at H
                                                  have c27b0 : decide (x13_6 < (x9_4.length : Int)) = true := decide_eq_true c27
                                                  clear c27
                                                  obtain ⟨ji28, hji28⟩ : ∃ j_ : Int, (wrap64 (x11_4 - x13_6)) = j_ := ⟨_, rfl⟩
                                                  replace H : (if 0 ≤ (ji28) then (if (ji28) < (x6_3.length : Int) then (serinetteref10_Solve.l3 k6 a1 x6_3 x8_4 x9_4 x10_4 x11_4 (wrap64 (x12_6 - (wrap64 ((rd x9_4 x13_6) * (rd x6_3 (ji28)))))) (wrap64 (x13_6 + 1))) else (none)) else (none)) = some r := by first | (rw [hji28] at H; exact H) | (simp only [hji28] at H ⊢; exact H)
                                                  have hji28w : (IntKind.i64.wrap (x11_4 - x13_6)) = ji28 := (i64_w _).trans hji28
                                                  by_cases c29 : 0 ≤ (ji28)
                                                  · rw [if_pos c29] at H
                                                    have c29b0 : decide (0 ≤ (ji28)) = true := decide_eq_true c29
                                                    clear c29
                                                    by_cases c30 : (ji28) < (x6_3.length : Int)
                                                    · rw [if_pos c30] at H
                                                      have c30b0 : decide ((ji28) < (x6_3.length : Int)) = true := decide_eq_true c30
                                                      clear c30
                                                      have H' := Aside0.mk H
                                                      clear H
                                                      try go_wp2
                                                      have n0_ := Aside0.mk (Kd.R_drew HO_6.out)
                                                      have n1_ := Aside0.mk (Kd.R_drew HO_9.out)
                                                      have n2_ := Aside0.mk (Kd.S_drew HO_10.out)
                                                      have n3_ := Aside0.mk (below_drew1 HB.out)
                                                      clear HO_6
                                                      clear HO_9
                                                      clear HO_10
                                                      clear HB
                                                      have HO_6 := n0_
                                                      have HO_9 := n1_
                                                      have HO_10 := n2_
                                                      have HB := n3_
                                                      clear n0_ n1_ n2_ n3_
                                                      obtain ⟨Ao32, co32, eo32⟩ := Kd.R_slice HO_9.out
                                                      (first | subst eo32 | (injection eo32 with f1_ f2_ f3_; have f4_ := f1_.symm; have f5_ := f3_.symm; clear f1_ f2_ f3_; subst f4_; subst f5_))
                                                      have p183 : 0 ≤ (x13_6 : Int) := of_decide_eq_true (by first | (with_reducible assumption) | assumption)
                                                      have q183 : x13_6 < (x9_4.length : Int) := of_decide_eq_true (by first | (with_reducible assumption) | assumption)
                                                      obtain ⟨ad183, e183, hx183_0⟩ := Kd.at_int (Kd.R_reads' HO_9.out).2.2 x13_6 p183 q183
                                                      cases e183
                                                      replace p183 := eq_true p183
                                                      replace q183 := eq_true q183
                                                      have p184 : 0 ≤ ((ji28) : Int) := of_decide_eq_true (by first | (with_reducible assumption) | assumption)
                                                      have q184 : (ji28) < (x6_3.length : Int) := of_decide_eq_true (by first | (with_reducible assumption) | assumption)
                                                      obtain ⟨ad184, e184, hx184_0⟩ := Kd.at_int (Kd.R_reads' HO_6.out).2.2 (ji28) p184 q184
                                                      obtain rfl : ad178 = ad184 := (by injection e184)
                                                      replace p184 := eq_true p184
                                                      replace q184 := eq_true q184
                                                      refine start_ (n := 14) (S := fun w' => w'.cell? (ad183.add (x13_6).toNat) = some (.int .i64 (rd x9_4 x13_6)) ∧ w'.cell? (ad178.add ((ji28)).toNat) = some (.int .i64 (rd x6_3 (ji28)))) (ds := []) #[false, false, false, false, false, false, false, false, false, false, false, false, false, false] (by kernel_rfl) rfl rfl ⟨hx183_0, hx184_0⟩ (fun hHeld => ?_); refine with_tabW serinetteref10_Solve.tab21 serinetteref10_Solve.bits21 (fun HT_ HW_ => ?_)
                                                      generalize wr.drew = w31 at HO_6 HO_9 HO_10 HB hx183_0 hx184_0 hHeld ⊢
                                                      refine pure_ (i := 0) (N := some 79) (v := ?_) (a' := ?_) #[true, false, false, false, false, false, false, false, false, false, false, false, false, false] rfl rfl (any_of HT_.out (by kernel_rfl)) (fun _ _ _ h => h) (Or.inl ⟨by rfl, ?_⟩) ?_ ?_
                                                      rotate_left
                                                      · intro w'
                                                        go_simp
                                                        with_reducible rfl
                                                      rotate_left
                                                      · simp only [Act.put, List.setIfInBounds_toArray, List.set_cons_zero, List.set_cons_succ, i64_w, i32_w]
                                                        rfl
                                                      refine pure_ (i := 1) (N := some 80) (v := ?_) (a' := ?_) #[true, true, false, false, false, false, false, false, false, false, false, false, false, false] rfl rfl (any_of HT_.out (by kernel_rfl)) (fun _ _ _ h => h) (Or.inl ⟨by rfl, ?_⟩) ?_ ?_
                                                      rotate_left
                                                      · intro w'
                                                        go_simp
                                                        with_reducible rfl
                                                      rotate_left
                                                      · simp only [Act.put, List.setIfInBounds_toArray, List.set_cons_zero, List.set_cons_succ, i64_w, i32_w]
                                                        rfl
                                                      refine pure_ (i := 2) (N := some 81) (v := ?_) (a' := ?_) #[true, true, true, false, false, false, false, false, false, false, false, false, false, false] rfl rfl (any_of HT_.out (by kernel_rfl)) (fun _ _ _ h => h) (Or.inl ⟨by rfl, ?_⟩) ?_ ?_
                                                      rotate_left
                                                      · intro w'
                                                        go_simp
                                                        with_reducible rfl
                                                      rotate_left
                                                      · simp only [Act.put, List.setIfInBounds_toArray, List.set_cons_zero, List.set_cons_succ, i64_w, i32_w]
                                                        rfl
                                                      refine pure_ (i := 3) (N := some 82) (v := ?_) (a' := ?_) #[true, true, true, true, false, false, false, false, false, false, false, false, false, false] rfl rfl (any_of HT_.out (by kernel_rfl)) (fun _ _ _ h => h) (Or.inl ⟨by rfl, ?_⟩) ?_ ?_
                                                      rotate_left
                                                      · intro w'
                                                        go_simp
                                                        with_reducible rfl
                                                      rotate_left
                                                      · simp only [Act.put, List.setIfInBounds_toArray, List.set_cons_zero, List.set_cons_succ, i64_w, i32_w]
                                                        rfl
                                                      refine pure_ (i := 5) (N := some 84) (v := ?_) (a' := ?_) #[true, true, true, true, false, true, false, false, false, false, false, false, false, false] rfl rfl (any_of HT_.out (by kernel_rfl)) (fun _ _ _ h => h) (Or.inl ⟨by rfl, ?_⟩) ?_ ?_
                                                      rotate_left
                                                      · intro w'
                                                        go_simp
                                                        with_reducible rfl
                                                      rotate_left
                                                      · simp only [Act.put, List.setIfInBounds_toArray, List.set_cons_zero, List.set_cons_succ, i64_w, i32_w]
                                                        rfl
                                                      refine pure_ (i := 6) (N := some 85) (v := ?_) (a' := ?_) #[true, true, true, true, false, true, true, false, false, false, false, false, false, false] rfl rfl (any_of HT_.out (by kernel_rfl)) (fun _ _ _ h => h) (Or.inl ⟨by rfl, ?_⟩) ?_ ?_
                                                      rotate_left
                                                      · intro w'
                                                        go_simp
                                                        with_reducible rfl
                                                      rotate_left
                                                      · simp only [Act.put, List.setIfInBounds_toArray, List.set_cons_zero, List.set_cons_succ, i64_w, i32_w]
                                                        rfl
                                                      refine pure_ (i := 7) (N := some 86) (v := ?_) (a' := ?_) #[true, true, true, true, false, true, true, true, false, false, false, false, false, false] rfl rfl (any_of HT_.out (by kernel_rfl)) (fun _ _ _ h => h) (Or.inl ⟨by rfl, ?_⟩) ?_ ?_
                                                      rotate_left
                                                      · intro w'
                                                        go_simp
                                                        with_reducible rfl
                                                      rotate_left
                                                      · simp only [Act.put, List.setIfInBounds_toArray, List.set_cons_zero, List.set_cons_succ, i64_w, i32_w]
                                                        rfl
                                                      refine pure_ (i := 8) (N := some 87) (v := ?_) (a' := ?_) #[true, true, true, true, false, true, true, true, true, false, false, false, false, false] rfl rfl (any_of HT_.out (by kernel_rfl)) (fun _ _ _ h => h) (Or.inl ⟨by rfl, ?_⟩) ?_ ?_
                                                      rotate_left
                                                      · intro w'
                                                        go_simp
                                                        with_reducible rfl
                                                      rotate_left
                                                      · simp only [Act.put, List.setIfInBounds_toArray, List.set_cons_zero, List.set_cons_succ, i64_w, i32_w]
                                                        rfl
                                                      refine pure_ (i := 9) (N := some 88) (v := ?_) (a' := ?_) #[true, true, true, true, false, true, true, true, true, true, false, false, false, false] rfl rfl (any_of HT_.out (by kernel_rfl)) (fun _ _ _ h => h) (Or.inl ⟨by rfl, ?_⟩) ?_ ?_
                                                      rotate_left
                                                      · intro w'
                                                        go_simp
                                                        with_reducible rfl
                                                      rotate_left
                                                      · simp only [Act.put, List.setIfInBounds_toArray, List.set_cons_zero, List.set_cons_succ, i64_w, i32_w]
                                                        rfl
                                                      refine take_ (i := 4) (N := some 83) (v := ?_) (a' := ?_) #[true, true, true, true, true, true, true, true, true, true, false, false, false, false] rfl rfl (take_ofW HT_.out HW_.out (by kernel_rfl)) (fun _ _ _ h => h) (Or.inl ⟨by rfl, ?_⟩) hHeld ?_ ?_
                                                      rotate_left
                                                      · rintro w' ⟨s0, s1⟩
                                                        go_simp
                                                        with_reducible rfl
                                                      rotate_left
                                                      · simp only [Act.put, List.setIfInBounds_toArray, List.set_cons_zero, List.set_cons_succ, i64_w, i32_w]
                                                        rfl
                                                      refine take_ (i := 10) (N := some 89) (v := ?_) (a' := ?_) #[true, true, true, true, true, true, true, true, true, true, true, false, false, false] rfl rfl (take_ofW HT_.out HW_.out (by kernel_rfl)) (fun _ _ _ h => h) (Or.inl ⟨by rfl, ?_⟩) hHeld ?_ ?_
                                                      rotate_left
                                                      · rintro w' ⟨s0, s1⟩
                                                        go_simp
                                                        with_reducible rfl
                                                      rotate_left
                                                      · simp only [Act.put, List.setIfInBounds_toArray, List.set_cons_zero, List.set_cons_succ, i64_w, i32_w]
                                                        rfl
                                                      refine pure_ (i := 11) (N := some 90) (v := ?_) (a' := ?_) #[true, true, true, true, true, true, true, true, true, true, true, true, false, false] rfl rfl (any_of HT_.out (by kernel_rfl)) (fun _ _ _ h => h) (Or.inl ⟨by rfl, ?_⟩) ?_ ?_
                                                      rotate_left
                                                      · intro w'
                                                        go_simp
                                                        with_reducible rfl
                                                      rotate_left
                                                      · simp only [Act.put, List.setIfInBounds_toArray, List.set_cons_zero, List.set_cons_succ, i64_w, i32_w]
                                                        rfl
                                                      refine pure_ (i := 12) (N := some 91) (v := ?_) (a' := ?_) #[true, true, true, true, true, true, true, true, true, true, true, true, true, false] rfl rfl (any_of HT_.out (by kernel_rfl)) (fun _ _ _ h => h) (Or.inl ⟨by rfl, ?_⟩) ?_ ?_
                                                      rotate_left
                                                      · intro w'
                                                        go_simp
                                                        with_reducible rfl
                                                      rotate_left
                                                      · simp only [Act.put, List.setIfInBounds_toArray, List.set_cons_zero, List.set_cons_succ, i64_w, i32_w]
                                                        rfl
                                                      refine pure_ (i := 13) (N := some 12) (v := ?_) (a' := ?_) #[true, true, true, true, true, true, true, true, true, true, true, true, true, true] rfl rfl (any_of HT_.out (by kernel_rfl)) (fun _ _ _ h => h) (Or.inl ⟨by rfl, ?_⟩) ?_ ?_
                                                      rotate_left
                                                      · intro w'
                                                        go_simp
                                                        with_reducible rfl
                                                      rotate_left
                                                      · simp only [Act.put, List.setIfInBounds_toArray, List.set_cons_zero, List.set_cons_succ, i64_w, i32_w]
                                                        rfl
                                                      refine done_ (done_of HT_.out (by kernel_rfl)) ?_
                                                      try go_wp2
                                                      go_roundg k6
                                                      case measure => have := HJ2.out; have := HK2.out; have := HK3.out; have := HK4.out; have := HJ18.out; have := HK6.out; omega
                                                      case rel => exact ⟨(wrap64 (x12_6 - (wrap64 ((rd x9_4 x13_6) * (rd x6_3 (ji28)))))), (wrap64 (x13_6 + 1)), (by first | rfl | (simp; done) | (simp only [← hji28] <;> (first | rfl | simp)) | (simp [*]; done)), (by first | rfl | (simp; done) | (simp only [i64_w, i32_w]; done) | (simp [*]; done) | (simp only [i64_w, i32_w]; first | rfl | (simp; done) | (simp [*]; done))), H', ⟨by have := HJ2.out; have := HK2.out; have := HK3.out; have := HK4.out; have := HJ18.out; have := HK6.out; omega⟩, ⟨by (with_reducible repeat (first | apply Kd.R_alloc | apply Kd.R_drewN | apply Kd.R_drew)); exact HO_6.out⟩, ⟨by (with_reducible repeat (first | apply Kd.R_alloc | apply Kd.R_drewN | apply Kd.R_drew)); exact HO_9.out⟩, ⟨by (with_reducible repeat (first | apply Kd.S_alloc | apply Kd.S_drewN | apply Kd.S_drew)); exact HO_10.out⟩, ⟨by repeat (first | (with_reducible first | exact HB.out | apply below_alloc | apply pw_below_drewN | apply below_drew1) | exact HB.out)⟩⟩
                                                    · rw [if_neg c30] at H
                                                      exact absurd H (by simp)
                                                  · rw [if_neg c29] at H
                                                    exact absurd H (by simp)
                                                · rw [if_neg c27] at H
                                                  exact absurd H (by simp)
                                              · rw [if_neg c26] at H
                                                exact absurd H (by simp)
                                            · rw [if_neg c25] at H
                                              have c25b0 : decide (x13_6 < x11_4) = false := decide_eq_false c25
                                              clear c25
                                              by_cases c33 : x8_4 = 0
                                              · rw [if_pos c33] at H
                                                exact absurd H (by simp)
                                              · rw [if_neg c33] at H
                                                have c33b0 : (x8_4 == 0) = false := beq_eq_false_iff_ne.mpr c33
                                                have c33b1 : (x8_4 != 0) = true := bne_iff_ne.mpr c33
                                                have HC34 := Aside0.mk H
                                                clear H
                                                go_upto_region 23 with (fail)
                                                go_cut [100] (fun v100 wc => ∃ (kq : Nat) (x100_33 : Bool), v100 = .bool x100_33 ∧ Aside0 (serinetteref10_Solve.j6 kq a1 x6_3 x8_4 x9_4 x10_4 x11_4 (wrap64 (Int.tdiv x12_6 x8_4)) x100_33 = some r) ∧ Aside0 (kq ≤ k6) ∧ Aside0 (Kd.R (Kd.int .i64) 3 wc w.heap.size (fun k_ => some k_ ≠ (u9 : Value).ownBlock) (.slice (some ad178) x6_3.length co16) x6_3) ∧ Aside0 (Kd.R (Kd.int .i64) 3 wc w.heap.size (fun k_ => some k_ ≠ ((.slice (some ad178) x6_3.length co16) : Value).ownBlock) u9 x9_4) ∧ Aside0 (Kd.S (Kd.slice 3 (Kd.int .i64)) 22 wc w.heap.size (fun k_ => some k_ ≠ ((.slice (some ad178) x6_3.length co16) : Value).ownBlock ∧ some k_ ≠ (u9 : Value).ownBlock) u10 x10_4) ∧ Aside0 (Below w.heap.size w wc))
                                                case first =>
                                                  have H := HC34.out
                                                  clear HC34
                                                  by_cases c35 : (wrap64 (Int.tdiv x12_6 x8_4)) ≥ 1048576
                                                  · rw [if_pos c35] at H
                                                    have c35b0 : decide (1048576 ≤ (wrap64 (Int.tdiv x12_6 x8_4))) = true := decide_eq_true c35
                                                    clear c35
                                                    (first | rw [c35b0] | (simp only [i64_w, i32_w]; rw [c35b0]) | skip)
                                                    have H' := Aside0.mk H
                                                    clear H
                                                    go_wp2
                                                    go_meet
                                                    case rel => exact ⟨_, (true), (by first | rfl | (simp; done) | (simp only [i64_w, i32_w]; done) | (simp [*]; done) | (simp only [i64_w, i32_w]; first | rfl | (simp; done) | (simp [*]; done))), H', ⟨by have := HJ2.out; have := HK2.out; have := HK3.out; have := HK4.out; have := HJ18.out; have := HK6.out; first | omega | exact Nat.le_refl _⟩, ⟨by (with_reducible repeat (first | apply Kd.R_alloc | apply Kd.R_drewN | apply Kd.R_drew)); exact HO_6.out⟩, ⟨by (with_reducible repeat (first | apply Kd.R_alloc | apply Kd.R_drewN | apply Kd.R_drew)); exact HO_9.out⟩, ⟨by (with_reducible repeat (first | apply Kd.S_alloc | apply Kd.S_drewN | apply Kd.S_drew)); exact HO_10.out⟩, ⟨by repeat (first | (with_reducible first | exact HB.out | apply below_alloc | apply pw_below_drewN | apply below_drew1) | exact HB.out)⟩⟩
                                                  · rw [if_neg c35] at H
                                                    have c35b0 : decide (1048576 ≤ (wrap64 (Int.tdiv x12_6 x8_4))) = false := decide_eq_false c35
                                                    clear c35
                                                    (first | rw [c35b0] | (simp only [i64_w, i32_w]; rw [c35b0]) | skip)
                                                    have H' := Aside0.mk H
                                                    clear H
                                                    go_wp2
                                                    go_meet
                                                    case rel => exact ⟨_, (decide ((wrap64 (Int.tdiv x12_6 x8_4)) ≤ (-1048576))), (by first | rfl | (simp; done) | (simp only [i64_w, i32_w]; done) | (simp [*]; done) | (simp only [i64_w, i32_w]; first | rfl | (simp; done) | (simp [*]; done))), H', ⟨by have := HJ2.out; have := HK2.out; have := HK3.out; have := HK4.out; have := HJ18.out; have := HK6.out; first | omega | exact Nat.le_refl _⟩, ⟨by (with_reducible repeat (first | apply Kd.R_alloc | apply Kd.R_drewN | apply Kd.R_drew)); exact HO_6.out⟩, ⟨by (with_reducible repeat (first | apply Kd.R_alloc | apply Kd.R_drewN | apply Kd.R_drew)); exact HO_9.out⟩, ⟨by (with_reducible repeat (first | apply Kd.S_alloc | apply Kd.S_drewN | apply Kd.S_drew)); exact HO_10.out⟩, ⟨by repeat (first | (with_reducible first | exact HB.out | apply below_alloc | apply pw_below_drewN | apply below_drew1) | exact HB.out)⟩⟩
                                                case rest =>
                                                  clear HC34
                                                  try clear c1
                                                  try clear p1
                                                  try clear q1
                                                  try clear hx1
                                                  try clear qi1
                                                  try clear c2
                                                  try clear p2
                                                  try clear c3
                                                  try clear c4
                                                  try clear c4b0
                                                  try clear c4b1
                                                  try clear c4b2
                                                  try clear c5
                                                  try clear c5b0
                                                  try clear c5b1
                                                  try clear c6
                                                  try clear p6
                                                  try clear c7
                                                  try clear c7b0
                                                  try clear c7b1
                                                  try clear c8
                                                  try clear c8b0
                                                  try clear c8b1
                                                  try clear c9
                                                  try clear c9b0
                                                  try clear c10
                                                  try clear c10b0
                                                  try clear c11
                                                  try clear c11b0
                                                  try clear c13
                                                  try clear c15
                                                  try clear c15b0
                                                  try clear c15b1
                                                  try clear p17
                                                  try clear q17
                                                  try clear hx17
                                                  try clear qi17
                                                  try clear p18
                                                  try clear q18
                                                  try clear hx18
                                                  try clear c20
                                                  try clear c20b0
                                                  try clear c21
                                                  try clear c21b0
                                                  try clear c22
                                                  try clear c23
                                                  try clear c23b0
                                                  try clear c24
                                                  try clear c24b0
                                                  try clear c25
                                                  try clear c25b0
                                                  try clear c26
                                                  try clear c26b0
                                                  try clear c27
                                                  try clear c27b0
                                                  try clear c29
                                                  try clear c29b0
                                                  try clear c30
                                                  try clear c30b0
                                                  try clear c33
                                                  try clear c33b0
                                                  try clear c33b1
                                                  try clear c35
                                                  try clear c35b0
                                                  try clear hx171_0
                                                  try clear hx172_0
                                                  try clear hx173_0
                                                  try clear hx178_0
                                                  try clear hx182_0
                                                  try clear hx183_0
                                                  try clear hx184_0
                                                  try clear p1
                                                  try clear p17
                                                  try clear p171
                                                  try clear p172
                                                  try clear p173
                                                  try clear p178
                                                  try clear p18
                                                  try clear p182
                                                  try clear p183
                                                  try clear p184
                                                  try clear p2
                                                  try clear p6
                                                  try clear q1
                                                  try clear q17
                                                  try clear q171
                                                  try clear q172
                                                  try clear q173
                                                  try clear q178
                                                  try clear q18
                                                  try clear q182
                                                  try clear q183
                                                  try clear q184
                                                  obtain ⟨kq, x100_33, rfl, HA, HJ33, HO_6, HO_9, HO_10, HB⟩ := hcut
                                                  cases kq with
                                                  | zero => exact absurd HA.out (by simp [serinetteref10_Solve.j6])
                                                  | succ kj33 =>
                                                    have H := HA.out
                                                    clear HA
                                                    simp only [serinetteref10_Solve.j6] at H
                                                    by_cases c36 : x100_33 = true
                                                    · subst c36
                                                      have H1 : (some x10_4) = some r := by rw [if_pos rfl] at H; exact H
                                                      clear H
                                                      have H := H1
                                                      clear H1
                                                      obtain rfl := Option.some.inj H
                                                      go_wp2
                                                      go_ret
                                                      exact ⟨_, by first | rfl | (simp [errW_none, errW_some] <;> rfl) | (simp [*, errW_none, errW_some] <;> rfl), by (with_reducible repeat (first | apply Kd.S_alloc | apply Kd.S_drewN | apply Kd.S_drew)); exact Kd.S_mono HO_10.out (fun _ hk => trivial), by repeat (first | (with_reducible first | exact HB.out | apply below_alloc | apply pw_below_drewN | apply below_drew1) | exact HB.out)⟩
                                                    · replace c36 := Bool.eq_false_iff.mpr c36
                                                      subst c36
                                                      have H1 : (serinetteref10_Solve.l4 kj33 a1 x6_3 x8_4 x9_4 x10_4 x11_4 (wrap64 (Int.tdiv x12_6 x8_4)) (([0] : List Int)) 1) = some r := by rw [if_neg (show ¬ (false = true) by decide)] at H; exact H
                                                      clear H
                                                      have H := H1
                                                      clear H1
                                                      obtain ⟨y185, hy185⟩ : ∃ y_ : List Int, y_ = (([0] : List Int)) := ⟨_, rfl⟩
                                                      replace H : (serinetteref10_Solve.l4 kj33 a1 x6_3 x8_4 x9_4 x10_4 x11_4 (wrap64 (Int.tdiv x12_6 x8_4)) y185 1) = some r := by first | (rw [hy185]; with_reducible exact H) | (have H2_ := (Option.bind_some _ _).symm.trans H; rw [hy185]; with_reducible exact H2_) | (have H2_ := (Option.bind_some _ _).symm.trans H; with_reducible exact H2_) | with_reducible exact H | (rw [hy185]; exact H) | exact H
                                                      have Ny185 := Aside0.mk hy185
                                                      clear hy185
                                                      have H' := Aside0.mk H
                                                      clear H
                                                      go_wp2_with (first | ((with_reducible refine gate_dst (N := 102) rfl ?_); (try (refine gate_guard (by rfl) ?_; dsimp only)); refine Kd.R_lit (Kd.int .i64) _ 3 ?hg (N := 102) ?hd (xs := ([0] : List Int)) (inner := [.int .i64 0]) (ok := fun _ => True) (okp := fun _ => True) ?hr ?hp (fun _ hk => hk) trivial (Below.refl _ _) (Nat.le_refl _) (by simp) ?_; (case hd => rfl); (case hg => rfl); (case hr => first | (go_simp; done) | (go_simp; rfl)); (case hp => exact (Reps.one (show Kd.M (Kd.int .i64) _ _ _ 0 [.int .i64 0] from rfl) (Reps.none _ _))); intro v186 w37 ho38 hb hg_ hnew_; clear hg_ hnew_; (first | rw [← Ny185.out] at ho38 | (simp only [Int.reduceToNat] at ho38; rw [← Ny185.out] at ho38)); have n0_ := Aside0.mk (Kd.R_elder' (by (with_reducible repeat (first | apply Kd.R_alloc | apply Kd.R_drewN | apply Kd.R_drew)); exact HO_6.out) (Kd.R_base ho38) hb); have n1_ := Aside0.mk (Kd.R_elder' (by (with_reducible repeat (first | apply Kd.R_alloc | apply Kd.R_drewN | apply Kd.R_drew)); exact HO_9.out) (Kd.R_base ho38) hb); have n2_ := Aside0.mk (Kd.S_elder' (by (with_reducible repeat (first | apply Kd.S_alloc | apply Kd.S_drewN | apply Kd.S_drew)); exact HO_10.out) (Kd.R_base ho38) hb); have n3_ := Aside0.mk (Kd.R_lower (Kd.R_new' (Kd.R_new' ho38 (Kd.R_lt (by (with_reducible repeat (first | apply Kd.R_alloc | apply Kd.R_drewN | apply Kd.R_drew)); exact HO_6.out))) (Kd.R_lt (by (with_reducible repeat (first | apply Kd.R_alloc | apply Kd.R_drewN | apply Kd.R_drew)); exact HO_9.out))) (below_size (by repeat (first | (with_reducible first | exact HB.out | apply below_alloc | apply pw_below_drewN | apply below_drew1) | exact HB.out)))); have n4_ := Aside0.mk (below_step (by repeat (first | (with_reducible first | exact HB.out | apply below_alloc | apply pw_below_drewN | apply below_drew1) | exact HB.out)) hb); clear HO_6; clear HO_9; clear HO_10; clear HB; have HO_6 := n0_; have HO_9 := n1_; have HO_10 := n2_; have HO187 := n3_; have HB := n4_; clear n0_ n1_ n2_ n3_ n4_; clear hb ho38))
                                                      go_loopg [15, 16] kj33 (fun kq v15 v16 w' => ∃ (x15_8 : List Int) (x16_8 : Int), v16 = .int .i64 x16_8 ∧ Aside0 (serinetteref10_Solve.l4 kq a1 x6_3 x8_4 x9_4 x10_4 x11_4 (wrap64 (Int.tdiv x12_6 x8_4)) x15_8 x16_8 = some r) ∧ Aside0 (kq ≤ kj33) ∧ Aside0 (Kd.R (Kd.int .i64) 3 w' w.heap.size (fun k_ => some k_ ≠ (u9 : Value).ownBlock ∧ some k_ ≠ (v15 : Value).ownBlock) (.slice (some ad178) x6_3.length co16) x6_3) ∧ Aside0 (Kd.R (Kd.int .i64) 3 w' w.heap.size (fun k_ => some k_ ≠ ((.slice (some ad178) x6_3.length co16) : Value).ownBlock ∧ some k_ ≠ (v15 : Value).ownBlock) u9 x9_4) ∧ Aside0 (Kd.S (Kd.slice 3 (Kd.int .i64)) 22 w' w.heap.size (fun k_ => some k_ ≠ ((.slice (some ad178) x6_3.length co16) : Value).ownBlock ∧ some k_ ≠ (u9 : Value).ownBlock ∧ some k_ ≠ (v15 : Value).ownBlock) u10 x10_4) ∧ Aside0 (Kd.R (Kd.int .i64) 3 w' w.heap.size (fun k_ => some k_ ≠ ((.slice (some ad178) x6_3.length co16) : Value).ownBlock ∧ some k_ ≠ (u9 : Value).ownBlock) v15 x15_8) ∧ Aside0 (Below w.heap.size w w'))
                                                      case atStart => exact ⟨(y185), (1), (by first | rfl | (simp; done) | (simp only [i64_w, i32_w]; done) | (simp [*]; done) | (simp only [i64_w, i32_w]; first | rfl | (simp; done) | (simp [*]; done))), H', ⟨Nat.le_refl _⟩, ⟨by (with_reducible repeat (first | apply Kd.R_alloc | apply Kd.R_drewN | apply Kd.R_drew)); exact HO_6.out⟩, ⟨by (with_reducible repeat (first | apply Kd.R_alloc | apply Kd.R_drewN | apply Kd.R_drew)); exact HO_9.out⟩, ⟨by (with_reducible repeat (first | apply Kd.S_alloc | apply Kd.S_drewN | apply Kd.S_drew)); exact Kd.S_mono HO_10.out (fun _ hk => ⟨hk.1.1, ⟨hk.1.2, hk.2⟩⟩)⟩, ⟨by (with_reducible repeat (first | apply Kd.R_alloc | apply Kd.R_drewN | apply Kd.R_drew)); exact Kd.R_mono HO187.out (fun _ hk => ⟨hk.1.2, hk.2⟩)⟩, ⟨by repeat (first | (with_reducible first | exact HB.out | apply below_alloc | apply pw_below_drewN | apply below_drew1) | exact HB.out)⟩⟩
                                                      case round =>
                                                        clear H'
                                                        try clear c1
                                                        try clear p1
                                                        try clear q1
                                                        try clear hx1
                                                        try clear qi1
                                                        try clear c2
                                                        try clear p2
                                                        try clear c3
                                                        try clear c4
                                                        try clear c4b0
                                                        try clear c4b1
                                                        try clear c4b2
                                                        try clear c5
                                                        try clear c5b0
                                                        try clear c5b1
                                                        try clear c6
                                                        try clear p6
                                                        try clear c7
                                                        try clear c7b0
                                                        try clear c7b1
                                                        try clear c8
                                                        try clear c8b0
                                                        try clear c8b1
                                                        try clear c9
                                                        try clear c9b0
                                                        try clear c10
                                                        try clear c10b0
                                                        try clear c11
                                                        try clear c11b0
                                                        try clear c13
                                                        try clear c15
                                                        try clear c15b0
                                                        try clear c15b1
                                                        try clear p17
                                                        try clear q17
                                                        try clear hx17
                                                        try clear qi17
                                                        try clear p18
                                                        try clear q18
                                                        try clear hx18
                                                        try clear c20
                                                        try clear c20b0
                                                        try clear c21
                                                        try clear c21b0
                                                        try clear c22
                                                        try clear c23
                                                        try clear c23b0
                                                        try clear c24
                                                        try clear c24b0
                                                        try clear c25
                                                        try clear c25b0
                                                        try clear c26
                                                        try clear c26b0
                                                        try clear c27
                                                        try clear c27b0
                                                        try clear c29
                                                        try clear c29b0
                                                        try clear c30
                                                        try clear c30b0
                                                        try clear c33
                                                        try clear c33b0
                                                        try clear c33b1
                                                        try clear c35
                                                        try clear c35b0
                                                        try clear c36
                                                        try clear hx171_0
                                                        try clear hx172_0
                                                        try clear hx173_0
                                                        try clear hx178_0
                                                        try clear hx182_0
                                                        try clear hx183_0
                                                        try clear hx184_0
                                                        try clear p1
                                                        try clear p17
                                                        try clear p171
                                                        try clear p172
                                                        try clear p173
                                                        try clear p178
                                                        try clear p18
                                                        try clear p182
                                                        try clear p183
                                                        try clear p184
                                                        try clear p2
                                                        try clear p6
                                                        try clear q1
                                                        try clear q17
                                                        try clear q171
                                                        try clear q172
                                                        try clear q173
                                                        try clear q178
                                                        try clear q18
                                                        try clear q182
                                                        try clear q183
                                                        try clear q184
                                                        obtain ⟨x15_8, x16_8, rfl, HA, HK8, HO_6, HO_9, HO_10, HO_15, HB⟩ := hrel
                                                        cases gk with
                                                        | zero => exact absurd HA.out (by simp [serinetteref10_Solve.l4])
                                                        | succ k8 =>
                                                          have H := HA.out
                                                          clear HA
                                                          simp only [serinetteref10_Solve.l4] at H
                                                          by_cases c39 : x16_8 < x11_4
                                                          · rw [if_pos c39] at H
                                                            have c39b0 : decide (x16_8 < x11_4) = true := decide_eq_true c39
                                                            clear c39
                                                            by_cases c40 : 0 ≤ x16_8
                                                            · rw [if_pos c40] at H
                                                              have c40b0 : decide (0 ≤ x16_8) = true := decide_eq_true c40
                                                              clear c40
                                                              by_cases c41 : x16_8 < (x9_4.length : Int)
                                                              · rw [if_pos c41] at H
                                                                have c41b0 : decide (x16_8 < (x9_4.length : Int)) = true := decide_eq_true c41
                                                                clear c41
                                                                obtain ⟨ji42, hji42⟩ : ∃ j_ : Int, (wrap64 (x11_4 - x16_8)) = j_ := ⟨_, rfl⟩
                                                                replace H : (if 0 ≤ (ji42) then (if (ji42) < (x9_4.length : Int) then ((serinetteref08_Down.f (wrap64 ((wrap64 (Int.tdiv x12_6 x8_4)) * (rd x9_4 (ji42)))) 1048576).bind fun t190 => (if x15_8.length < 17592186044416 then (serinetteref10_Solve.l4 k8 a1 x6_3 x8_4 x9_4 x10_4 x11_4 (wrap64 (Int.tdiv x12_6 x8_4)) (x15_8 ++ [wrap64 ((rd x9_4 x16_8) - t190)]) (wrap64 (x16_8 + 1))) else (none))) else (none)) else (none)) = some r := by first | (rw [hji42] at H; exact H) | (simp only [hji42] at H ⊢; exact H)
                                                                have hji42w : (IntKind.i64.wrap (x11_4 - x16_8)) = ji42 := (i64_w _).trans hji42
                                                                by_cases c43 : 0 ≤ (ji42)
                                                                · rw [if_pos c43] at H
                                                                  have c43b0 : decide (0 ≤ (ji42)) = true := decide_eq_true c43
                                                                  clear c43
                                                                  by_cases c44 : (ji42) < (x9_4.length : Int)
                                                                  · rw [if_pos c44] at H
                                                                    have c44b0 : decide ((ji42) < (x9_4.length : Int)) = true := decide_eq_true c44
                                                                    clear c44
                                                                    replace H := Option.bind_eq_some_iff.mp H
                                                                    obtain ⟨t190, A450, H⟩ := H
                                                                    replace H : (if x15_8.length < 17592186044416 then (serinetteref10_Solve.l4 k8 a1 x6_3 x8_4 x9_4 x10_4 x11_4 (wrap64 (Int.tdiv x12_6 x8_4)) (x15_8 ++ [wrap64 ((rd x9_4 x16_8) - t190)]) (wrap64 (x16_8 + 1))) else (none)) = some r := H
                                                                    have A45 := Aside0.mk A450
                                                                    clear A450
                                                                    by_cases c46 : x15_8.length < 17592186044416
                                                                    · rw [if_pos c46] at H
                                                                      have LMc46 := Aside0.mk c46
                                                                      clear c46
                                                                      obtain ⟨y191, hy191⟩ : ∃ y_ : List Int, y_ = (x15_8 ++ [wrap64 ((rd x9_4 x16_8) - t190)]) := ⟨_, rfl⟩
                                                                      replace H : (serinetteref10_Solve.l4 k8 a1 x6_3 x8_4 x9_4 x10_4 x11_4 (wrap64 (Int.tdiv x12_6 x8_4)) y191 (wrap64 (x16_8 + 1))) = some r := by first | (rw [hy191]; with_reducible exact H) | (have H2_ := (Option.bind_some _ _).symm.trans H; rw [hy191]; with_reducible exact H2_) | (have H2_ := (Option.bind_some _ _).symm.trans H; with_reducible exact H2_) | with_reducible exact H | (rw [hy191]; exact H) | exact H
                                                                      have Ny191 := Aside0.mk hy191
                                                                      clear hy191
                                                                      have H' := Aside0.mk H
                                                                      clear H
                                                                      try go_wp2
                                                                      have n0_ := Aside0.mk (Kd.R_drew HO_6.out)
                                                                      have n1_ := Aside0.mk (Kd.R_drew HO_9.out)
                                                                      have n2_ := Aside0.mk (Kd.S_drew HO_10.out)
                                                                      have n3_ := Aside0.mk (Kd.R_drew HO_15.out)
                                                                      have n4_ := Aside0.mk (below_drew1 HB.out)
                                                                      clear HO_6
                                                                      clear HO_9
                                                                      clear HO_10
                                                                      clear HO_15
                                                                      clear HB
                                                                      have HO_6 := n0_
                                                                      have HO_9 := n1_
                                                                      have HO_10 := n2_
                                                                      have HO_15 := n3_
                                                                      have HB := n4_
                                                                      clear n0_ n1_ n2_ n3_ n4_
                                                                      obtain ⟨Ao48, co48, eo48⟩ := Kd.R_slice HO_9.out
                                                                      (first | subst eo48 | (injection eo48 with f1_ f2_ f3_; have f4_ := f1_.symm; have f5_ := f3_.symm; clear f1_ f2_ f3_; subst f4_; subst f5_))
                                                                      have p188 : 0 ≤ (x16_8 : Int) := of_decide_eq_true (by first | (with_reducible assumption) | assumption)
                                                                      have q188 : x16_8 < (x9_4.length : Int) := of_decide_eq_true (by first | (with_reducible assumption) | assumption)
                                                                      obtain ⟨ad188, e188, hx188_0⟩ := Kd.at_int (Kd.R_reads' HO_9.out).2.2 x16_8 p188 q188
                                                                      cases e188
                                                                      replace p188 := eq_true p188
                                                                      replace q188 := eq_true q188
                                                                      have p189 : 0 ≤ ((ji42) : Int) := of_decide_eq_true (by first | (with_reducible assumption) | assumption)
                                                                      have q189 : (ji42) < (x9_4.length : Int) := of_decide_eq_true (by first | (with_reducible assumption) | assumption)
                                                                      obtain ⟨ad189, e189, hx189_0⟩ := Kd.at_int (Kd.R_reads' HO_9.out).2.2 (ji42) p189 q189
                                                                      obtain rfl : ad188 = ad189 := (by injection e189)
                                                                      replace p189 := eq_true p189
                                                                      replace q189 := eq_true q189
                                                                      refine start_ (n := 18) (S := fun w' => w'.cell? (ad188.add (x16_8).toNat) = some (.int .i64 (rd x9_4 x16_8)) ∧ w'.cell? (ad188.add ((ji42)).toNat) = some (.int .i64 (rd x9_4 (ji42)))) (ds := [15, 16]) #[false, false, false, false, false, false, false, false, false, false, false, false, false, false, false, false, false, false] (by kernel_rfl) rfl rfl ⟨hx188_0, hx189_0⟩ (fun hHeld => ?_); refine with_tabW serinetteref10_Solve.tab29 serinetteref10_Solve.bits29 (fun HT_ HW_ => ?_)
                                                                      generalize wr.drew = w47 at HO_6 HO_9 HO_10 HO_15 HB hx188_0 hx189_0 hHeld ⊢
                                                                      refine pure_ (i := 0) (N := some 108) (v := ?_) (a' := ?_) #[true, false, false, false, false, false, false, false, false, false, false, false, false, false, false, false, false, false] rfl rfl (any_of HT_.out (by kernel_rfl)) (fun _ _ _ h => h) (Or.inl ⟨by rfl, ?_⟩) ?_ ?_
                                                                      rotate_left
                                                                      · intro w'
                                                                        go_simp
                                                                        with_reducible rfl
                                                                      rotate_left
                                                                      · simp only [Act.put, List.setIfInBounds_toArray, List.set_cons_zero, List.set_cons_succ, i64_w, i32_w]
                                                                        rfl
                                                                      refine pure_ (i := 1) (N := some 109) (v := ?_) (a' := ?_) #[true, true, false, false, false, false, false, false, false, false, false, false, false, false, false, false, false, false] rfl rfl (any_of HT_.out (by kernel_rfl)) (fun _ _ _ h => h) (Or.inl ⟨by rfl, ?_⟩) ?_ ?_
                                                                      rotate_left
                                                                      · intro w'
                                                                        go_simp
                                                                        with_reducible rfl
                                                                      rotate_left
                                                                      · simp only [Act.put, List.setIfInBounds_toArray, List.set_cons_zero, List.set_cons_succ, i64_w, i32_w]
                                                                        rfl
                                                                      refine pure_ (i := 2) (N := some 110) (v := ?_) (a' := ?_) #[true, true, true, false, false, false, false, false, false, false, false, false, false, false, false, false, false, false] rfl rfl (any_of HT_.out (by kernel_rfl)) (fun _ _ _ h => h) (Or.inl ⟨by rfl, ?_⟩) ?_ ?_
                                                                      rotate_left
                                                                      · intro w'
                                                                        go_simp
                                                                        with_reducible rfl
                                                                      rotate_left
                                                                      · simp only [Act.put, List.setIfInBounds_toArray, List.set_cons_zero, List.set_cons_succ, i64_w, i32_w]
                                                                        rfl
                                                                      refine pure_ (i := 3) (N := some 111) (v := ?_) (a' := ?_) #[true, true, true, true, false, false, false, false, false, false, false, false, false, false, false, false, false, false] rfl rfl (any_of HT_.out (by kernel_rfl)) (fun _ _ _ h => h) (Or.inl ⟨by rfl, ?_⟩) ?_ ?_
                                                                      rotate_left
                                                                      · intro w'
                                                                        go_simp
                                                                        with_reducible rfl
                                                                      rotate_left
                                                                      · simp only [Act.put, List.setIfInBounds_toArray, List.set_cons_zero, List.set_cons_succ, i64_w, i32_w]
                                                                        rfl
                                                                      refine pure_ (i := 5) (N := some 113) (v := ?_) (a' := ?_) #[true, true, true, true, false, true, false, false, false, false, false, false, false, false, false, false, false, false] rfl rfl (any_of HT_.out (by kernel_rfl)) (fun _ _ _ h => h) (Or.inl ⟨by rfl, ?_⟩) ?_ ?_
                                                                      rotate_left
                                                                      · intro w'
                                                                        go_simp
                                                                        with_reducible rfl
                                                                      rotate_left
                                                                      · simp only [Act.put, List.setIfInBounds_toArray, List.set_cons_zero, List.set_cons_succ, i64_w, i32_w]
                                                                        rfl
                                                                      refine pure_ (i := 6) (N := some 114) (v := ?_) (a' := ?_) #[true, true, true, true, false, true, true, false, false, false, false, false, false, false, false, false, false, false] rfl rfl (any_of HT_.out (by kernel_rfl)) (fun _ _ _ h => h) (Or.inl ⟨by rfl, ?_⟩) ?_ ?_
                                                                      rotate_left
                                                                      · intro w'
                                                                        go_simp
                                                                        with_reducible rfl
                                                                      rotate_left
                                                                      · simp only [Act.put, List.setIfInBounds_toArray, List.set_cons_zero, List.set_cons_succ, i64_w, i32_w]
                                                                        rfl
                                                                      refine pure_ (i := 7) (N := some 115) (v := ?_) (a' := ?_) #[true, true, true, true, false, true, true, true, false, false, false, false, false, false, false, false, false, false] rfl rfl (any_of HT_.out (by kernel_rfl)) (fun _ _ _ h => h) (Or.inl ⟨by rfl, ?_⟩) ?_ ?_
                                                                      rotate_left
                                                                      · intro w'
                                                                        go_simp
                                                                        with_reducible rfl
                                                                      rotate_left
                                                                      · simp only [Act.put, List.setIfInBounds_toArray, List.set_cons_zero, List.set_cons_succ, i64_w, i32_w]
                                                                        rfl
                                                                      refine pure_ (i := 8) (N := some 116) (v := ?_) (a' := ?_) #[true, true, true, true, false, true, true, true, true, false, false, false, false, false, false, false, false, false] rfl rfl (any_of HT_.out (by kernel_rfl)) (fun _ _ _ h => h) (Or.inl ⟨by rfl, ?_⟩) ?_ ?_
                                                                      rotate_left
                                                                      · intro w'
                                                                        go_simp
                                                                        with_reducible rfl
                                                                      rotate_left
                                                                      · simp only [Act.put, List.setIfInBounds_toArray, List.set_cons_zero, List.set_cons_succ, i64_w, i32_w]
                                                                        rfl
                                                                      refine pure_ (i := 9) (N := some 117) (v := ?_) (a' := ?_) #[true, true, true, true, false, true, true, true, true, true, false, false, false, false, false, false, false, false] rfl rfl (any_of HT_.out (by kernel_rfl)) (fun _ _ _ h => h) (Or.inl ⟨by rfl, ?_⟩) ?_ ?_
                                                                      rotate_left
                                                                      · intro w'
                                                                        go_simp
                                                                        with_reducible rfl
                                                                      rotate_left
                                                                      · simp only [Act.put, List.setIfInBounds_toArray, List.set_cons_zero, List.set_cons_succ, i64_w, i32_w]
                                                                        rfl
                                                                      refine pure_ (i := 10) (N := some 118) (v := ?_) (a' := ?_) #[true, true, true, true, false, true, true, true, true, true, true, false, false, false, false, false, false, false] rfl rfl (any_of HT_.out (by kernel_rfl)) (fun _ _ _ h => h) (Or.inl ⟨by rfl, ?_⟩) ?_ ?_
                                                                      rotate_left
                                                                      · intro w'
                                                                        go_simp
                                                                        with_reducible rfl
                                                                      rotate_left
                                                                      · simp only [Act.put, List.setIfInBounds_toArray, List.set_cons_zero, List.set_cons_succ, i64_w, i32_w]
                                                                        rfl
                                                                      refine take_ (i := 4) (N := some 112) (v := ?_) (a' := ?_) #[true, true, true, true, true, true, true, true, true, true, true, false, false, false, false, false, false, false] rfl rfl (take_ofW HT_.out HW_.out (by kernel_rfl)) (fun _ _ _ h => h) (Or.inl ⟨by rfl, ?_⟩) hHeld ?_ ?_
                                                                      rotate_left
                                                                      · rintro w' ⟨s0, s1⟩
                                                                        go_simp
                                                                        with_reducible rfl
                                                                      rotate_left
                                                                      · simp only [Act.put, List.setIfInBounds_toArray, List.set_cons_zero, List.set_cons_succ, i64_w, i32_w]
                                                                        rfl
                                                                      refine take_ (i := 11) (N := some 119) (v := ?_) (a' := ?_) #[true, true, true, true, true, true, true, true, true, true, true, true, false, false, false, false, false, false] rfl rfl (take_ofW HT_.out HW_.out (by kernel_rfl)) (fun _ _ _ h => h) (Or.inl ⟨by rfl, ?_⟩) hHeld ?_ ?_
                                                                      rotate_left
                                                                      · rintro w' ⟨s0, s1⟩
                                                                        go_simp
                                                                        with_reducible rfl
                                                                      rotate_left
                                                                      · simp only [Act.put, List.setIfInBounds_toArray, List.set_cons_zero, List.set_cons_succ, i64_w, i32_w]
                                                                        rfl
                                                                      refine pure_ (i := 12) (N := some 120) (v := ?_) (a' := ?_) #[true, true, true, true, true, true, true, true, true, true, true, true, true, false, false, false, false, false] rfl rfl (any_of HT_.out (by kernel_rfl)) (fun _ _ _ h => h) (Or.inl ⟨by rfl, ?_⟩) ?_ ?_
                                                                      rotate_left
                                                                      · intro w'
                                                                        go_simp
                                                                        with_reducible rfl
                                                                      rotate_left
                                                                      · simp only [Act.put, List.setIfInBounds_toArray, List.set_cons_zero, List.set_cons_succ, i64_w, i32_w]
                                                                        rfl
                                                                      refine one_ (i := 13) (N := some 121) #[true, true, true, true, true, true, true, true, true, true, true, true, true, true, false, false, false, false] rfl rfl (one_of HT_.out (by kernel_rfl)) (by decide) (fun K hK => ?_)
                                                                      refine goes_ Try.func21 (by kernel_rfl) rfl #[.int .i64 (wrap64 ((wrap64 (Int.tdiv x12_6 x8_4)) * (rd x9_4 (ji42)))), .int .i64 1048576] (by rfl) rfl rfl (by (try simp only [List.map_toArray, List.map_cons, List.map_nil]); first | done | (simp only [hji42]; rfl) | rfl | (simp only [List.length_drop, List.length_take]; rfl)) ?_
                                                                      with_reducible refine (serinetteref08_Down.calls (wrap64 ((wrap64 (Int.tdiv x12_6 x8_4)) * (rd x9_4 (ji42)))) 1048576 t190 _ A45.out).mono ?_
                                                                      rintro e w' ⟨rfl, ⟨nd, rfl⟩⟩
                                                                      refine ⟨_, rfl, ?_⟩
                                                                      refine hK.out _ _ ⟨hHeld.1, hHeld.2⟩ (fun hHeld => ?_)
                                                                      clear hK K
                                                                      refine norm_ (a' := ?_) ?_ ?_
                                                                      rotate_left
                                                                      · show Act.put _ (some 121) _ = _
                                                                        simp only [Act.put, List.setIfInBounds_toArray, List.set_cons_zero, List.set_cons_succ, i64_w, i32_w]
                                                                        rfl
                                                                      refine pure_ (i := 14) (N := some 122) (v := ?_) (a' := ?_) #[true, true, true, true, true, true, true, true, true, true, true, true, true, true, true, false, false, false] rfl rfl (any_of HT_.out (by kernel_rfl)) (fun _ _ _ h => h) (Or.inl ⟨by rfl, ?_⟩) ?_ ?_
                                                                      rotate_left
                                                                      · intro w'
                                                                        go_simp
                                                                        with_reducible rfl
                                                                      rotate_left
                                                                      · simp only [Act.put, List.setIfInBounds_toArray, List.set_cons_zero, List.set_cons_succ, i64_w, i32_w]
                                                                        rfl
                                                                      refine last_ (i := 15) (N := some 123) #[true, true, true, true, true, true, true, true, true, true, true, true, true, true, true, true, false, false] rfl rfl (one_of HT_.out (by kernel_rfl)) (by decide) (fun K hK => ?_)
                                                                      refine value_ (w1 := ?_) (v := ?_) (by rfl) rfl ?_ ?_
                                                                      rotate_left 2
                                                                      · go_simp
                                                                        constructor
                                                                        · rfl
                                                                        · rfl
                                                                      refine hK.out _ _ ?_
                                                                      clear hK K
                                                                      refine norm_ (a' := ?_) ?_ ?_
                                                                      rotate_left
                                                                      · show Act.put _ (some 123) _ = _
                                                                        simp only [Act.put, List.setIfInBounds_toArray, List.set_cons_zero, List.set_cons_succ, i64_w, i32_w]
                                                                        rfl
                                                                      refine last_ (i := 16) (N := some 124) #[true, true, true, true, true, true, true, true, true, true, true, true, true, true, true, true, true, false] rfl rfl (one_of HT_.out (by kernel_rfl)) (by decide) (fun K hK => ?_)
                                                                      refine Kd.R_append_step (Kd.int .i64) (w0 := w) w.heap.size (by rfl) (.tmp 108) (.tmp 123) 22 3 (.int .i64 0) 8 rfl Try.underlying22 info3 rfl (by decide) (by omega) u15 x15_8 (wrap64 ((rd x9_4 x16_8) - t190)) [.int .i64 (wrap64 ((rd x9_4 x16_8) - t190))] (fun k_ => some k_ ≠ (.slice (some ad178) x6_3.length co16 : Value).ownBlock ∧ some k_ ≠ (.slice (some ad188) x9_4.length co48 : Value).ownBlock) (fun _ => False) rfl rfl ?aP (fun _ hk => hk.elim) ?aF ?aO ?aB ?aS ?aL ?_
                                                                      (case aP => exact rfl)
                                                                      (case aB => exact (by repeat (first | (with_reducible first | exact HB.out | apply below_alloc | apply pw_below_drewN | apply below_drew1) | exact HB.out)))
                                                                      (case aF => exact (fun k_ hk => ⟨Kd.fresh' (Kd.R_lt (by (with_reducible repeat (first | apply Kd.R_alloc | apply Kd.R_drewN | apply Kd.R_drew)); exact HO_6.out)) k_ hk, Kd.fresh' (Kd.R_lt (by (with_reducible repeat (first | apply Kd.R_alloc | apply Kd.R_drewN | apply Kd.R_drew)); exact HO_9.out)) k_ hk⟩))
                                                                      (case aO => exact (by (with_reducible repeat (first | apply Kd.R_alloc | apply Kd.R_drewN | apply Kd.R_drew)); exact HO_15.out))
                                                                      (case aS => exact (below_size (by repeat (first | (with_reducible first | exact HB.out | apply below_alloc | apply pw_below_drewN | apply below_drew1) | exact HB.out))))
                                                                      (case aL => have := LMc46.out; omega)
                                                                      intro v192 w49 ho hb hg hat
                                                                      rw [← Ny191.out] at ho
                                                                      have n0_ := Aside0.mk (Kd.R_after (ok := (fun k_ => some k_ ≠ (.slice (some ad188) x9_4.length co48 : Value).ownBlock)) (by (with_reducible repeat (first | apply Kd.R_alloc | apply Kd.R_drewN | apply Kd.R_drew)); exact HO_6.out) hg hat)
                                                                      have n1_ := Aside0.mk (Kd.R_after (ok := (fun k_ => some k_ ≠ (.slice (some ad178) x6_3.length co16 : Value).ownBlock)) (by (with_reducible repeat (first | apply Kd.R_alloc | apply Kd.R_drewN | apply Kd.R_drew)); exact HO_9.out) hg hat)
                                                                      have n2_ := Aside0.mk (Kd.S_after (ok := (fun k_ => some k_ ≠ (.slice (some ad178) x6_3.length co16 : Value).ownBlock ∧ some k_ ≠ (.slice (some ad188) x9_4.length co48 : Value).ownBlock)) (by (with_reducible repeat (first | apply Kd.S_alloc | apply Kd.S_drewN | apply Kd.S_drew)); exact Kd.S_mono HO_10.out (fun _ hk => ⟨⟨hk.1, hk.2.1⟩, hk.2.2⟩)) hg hat)
                                                                      have n3_ := Aside0.mk (hb)
                                                                      have n4_ := Aside0.mk (ho)
                                                                      clear HO_6
                                                                      clear HO_9
                                                                      clear HO_10
                                                                      clear HB
                                                                      clear HO_15
                                                                      have HO_6 := n0_
                                                                      have HO_9 := n1_
                                                                      have HO_10 := n2_
                                                                      have HB := n3_
                                                                      have HO193 := n4_
                                                                      clear n0_ n1_ n2_ n3_ n4_
                                                                      clear ho hb hg hat
                                                                      refine hK.out _ _ ?_
                                                                      clear hK K
                                                                      refine norm_ (a' := ?_) ?_ ?_
                                                                      rotate_left
                                                                      · show Act.put _ (some 124) _ = _
                                                                        simp only [Act.put, List.setIfInBounds_toArray, List.set_cons_zero, List.set_cons_succ, i64_w, i32_w]
                                                                        rfl
                                                                      refine pure_ (i := 17) (N := some 15) (v := ?_) (a' := ?_) #[true, true, true, true, true, true, true, true, true, true, true, true, true, true, true, true, true, true] rfl rfl (any_of HT_.out (by kernel_rfl)) (fun _ _ _ h => h) (Or.inl ⟨by rfl, ?_⟩) ?_ ?_
                                                                      rotate_left
                                                                      · intro w'
                                                                        go_simp
                                                                        with_reducible rfl
                                                                      rotate_left
                                                                      · simp only [Act.put, List.setIfInBounds_toArray, List.set_cons_zero, List.set_cons_succ, i64_w, i32_w]
                                                                        rfl
                                                                      refine done_ (done_of HT_.out (by kernel_rfl)) ?_
                                                                      try go_wp2
                                                                      go_roundg k8
                                                                      case measure => have := HJ2.out; have := HK2.out; have := HK3.out; have := HK4.out; have := HJ18.out; have := HK6.out; have := HJ33.out; have := HK8.out; omega
                                                                      case rel => exact ⟨(y191), (wrap64 (x16_8 + 1)), (by first | rfl | (simp; done) | (simp only [i64_w, i32_w]; done) | (simp [*]; done) | (simp only [i64_w, i32_w]; first | rfl | (simp; done) | (simp [*]; done))), H', ⟨by have := HJ2.out; have := HK2.out; have := HK3.out; have := HK4.out; have := HJ18.out; have := HK6.out; have := HJ33.out; have := HK8.out; omega⟩, ⟨by (with_reducible repeat (first | apply Kd.R_alloc | apply Kd.R_drewN | apply Kd.R_drew)); exact HO_6.out⟩, ⟨by (with_reducible repeat (first | apply Kd.R_alloc | apply Kd.R_drewN | apply Kd.R_drew)); exact HO_9.out⟩, ⟨by (with_reducible repeat (first | apply Kd.S_alloc | apply Kd.S_drewN | apply Kd.S_drew)); exact Kd.S_mono HO_10.out (fun _ hk => ⟨hk.1.1, ⟨hk.1.2, hk.2⟩⟩)⟩, ⟨by (with_reducible repeat (first | apply Kd.R_alloc | apply Kd.R_drewN | apply Kd.R_drew)); exact HO193.out⟩, ⟨by repeat (first | (with_reducible first | exact HB.out | apply below_alloc | apply pw_below_drewN | apply below_drew1) | exact HB.out)⟩⟩
                                                                    · rw [if_neg c46] at H
                                                                      exact absurd H (by simp)
                                                                  · rw [if_neg c44] at H
                                                                    exact absurd H (by simp)
                                                                · rw [if_neg c43] at H
                                                                  exact absurd H (by simp)
                                                              · rw [if_neg c41] at H
                                                                exact absurd H (by simp)
                                                            · rw [if_neg c40] at H
                                                              exact absurd H (by simp)
                                                          · rw [if_neg c39] at H
                                                            have c39b0 : decide (x16_8 < x11_4) = false := decide_eq_false c39
                                                            clear c39
                                                            by_cases c50 : x15_8.length < 17592186044416
                                                            · rw [if_pos c50] at H
                                                              have LMc50 := Aside0.mk c50
                                                              clear c50
                                                              obtain ⟨y194, hy194⟩ : ∃ y_ : List Int, y_ = (x15_8 ++ [(wrap64 (Int.tdiv x12_6 x8_4))]) := ⟨_, rfl⟩
                                                              replace H : (serinetteref10_Solve.l5 k8 a1 x6_3 x8_4 y194 x10_4 x11_4 (wrap64 (Int.tdiv x12_6 x8_4)) 1) = some r := by first | (rw [hy194]; with_reducible exact H) | (have H2_ := (Option.bind_some _ _).symm.trans H; rw [hy194]; with_reducible exact H2_) | (have H2_ := (Option.bind_some _ _).symm.trans H; with_reducible exact H2_) | with_reducible exact H | (rw [hy194]; exact H) | exact H
                                                              have Ny194 := Aside0.mk hy194
                                                              clear hy194
                                                              have H' := Aside0.mk H
                                                              clear H
                                                              go_wp2_with (first | ((with_reducible refine gate_builtin (b := .append) (xs := #[.tmp 125, .tmp 127]) rfl ?_); (try (refine gate_guard (by rfl) ?_; dsimp only)); at_builtin; refine Kd.R_append (Kd.int .i64) (w0 := w) w.heap.size rfl (.tmp 125) (.tmp 127) 22 3 (.int .i64 0) 8 rfl Try.underlying22 info3 rfl (by decide) (by omega) u15 x15_8 (wrap64 (Int.tdiv x12_6 x8_4)) [.int .i64 (wrap64 (Int.tdiv x12_6 x8_4))] (fun k_ => some k_ ≠ (.slice (some ad178) x6_3.length co16 : Value).ownBlock ∧ some k_ ≠ (u9 : Value).ownBlock) (fun _ => False) rfl rfl ?aP (fun _ hk => hk.elim) ?aF ?aO ?aB ?aS ?aL ?_; (case aP => exact rfl); (case aB => exact (by repeat (first | (with_reducible first | exact HB.out | apply below_alloc | apply pw_below_drewN | apply below_drew1) | exact HB.out))); (case aF => exact (fun k_ hk => ⟨Kd.fresh' (Kd.R_lt (by (with_reducible repeat (first | apply Kd.R_alloc | apply Kd.R_drewN | apply Kd.R_drew)); exact HO_6.out)) k_ hk, Kd.fresh' (Kd.R_lt (by (with_reducible repeat (first | apply Kd.R_alloc | apply Kd.R_drewN | apply Kd.R_drew)); exact HO_9.out)) k_ hk⟩)); (case aO => exact (by (with_reducible repeat (first | apply Kd.R_alloc | apply Kd.R_drewN | apply Kd.R_drew)); exact HO_15.out)); (case aS => exact (below_size (by repeat (first | (with_reducible first | exact HB.out | apply below_alloc | apply pw_below_drewN | apply below_drew1) | exact HB.out)))); (case aL => have := LMc50.out; omega); intro v195 w51 ho hb hg hat; rw [← Ny194.out] at ho; have n0_ := Aside0.mk (Kd.R_after (ok := (fun k_ => some k_ ≠ (u9 : Value).ownBlock)) (by (with_reducible repeat (first | apply Kd.R_alloc | apply Kd.R_drewN | apply Kd.R_drew)); exact HO_6.out) hg hat); have n1_ := Aside0.mk (Kd.R_after (ok := (fun k_ => some k_ ≠ (.slice (some ad178) x6_3.length co16 : Value).ownBlock)) (by (with_reducible repeat (first | apply Kd.R_alloc | apply Kd.R_drewN | apply Kd.R_drew)); exact HO_9.out) hg hat); have n2_ := Aside0.mk (Kd.S_after (ok := (fun k_ => some k_ ≠ (.slice (some ad178) x6_3.length co16 : Value).ownBlock ∧ some k_ ≠ (u9 : Value).ownBlock)) (by (with_reducible repeat (first | apply Kd.S_alloc | apply Kd.S_drewN | apply Kd.S_drew)); exact Kd.S_mono HO_10.out (fun _ hk => ⟨⟨hk.1, hk.2.1⟩, hk.2.2⟩)) hg hat); have n3_ := Aside0.mk (hb); have n4_ := Aside0.mk (ho); clear HO_6; clear HO_9; clear HO_10; clear HB; clear HO_15; have HO_6 := n0_; have HO_9 := n1_; have HO_10 := n2_; have HB := n3_; have HO196 := n4_; clear n0_ n1_ n2_ n3_ n4_; clear ho hb hg hat))
                                                              go_loopg [17] k8 (fun kq v17 w' => ∃ (x17_9 : Int), v17 = .int .i64 x17_9 ∧ Aside0 (serinetteref10_Solve.l5 kq a1 x6_3 x8_4 y194 x10_4 x11_4 (wrap64 (Int.tdiv x12_6 x8_4)) x17_9 = some r) ∧ Aside0 (kq ≤ k8) ∧ Aside0 (Kd.R (Kd.int .i64) 3 w' w.heap.size (fun k_ => some k_ ≠ (v195 : Value).ownBlock) (.slice (some ad178) x6_3.length co16) x6_3) ∧ Aside0 (Kd.R (Kd.int .i64) 3 w' w.heap.size (fun k_ => some k_ ≠ ((.slice (some ad178) x6_3.length co16) : Value).ownBlock) v195 y194) ∧ Aside0 (Kd.S (Kd.slice 3 (Kd.int .i64)) 22 w' w.heap.size (fun k_ => some k_ ≠ ((.slice (some ad178) x6_3.length co16) : Value).ownBlock ∧ some k_ ≠ (v195 : Value).ownBlock) u10 x10_4) ∧ Aside0 (Below w.heap.size w w'))
                                                              case atStart => exact ⟨(1), (by first | rfl | (simp; done) | (simp only [i64_w, i32_w]; done) | (simp [*]; done) | (simp only [i64_w, i32_w]; first | rfl | (simp; done) | (simp [*]; done))), H', ⟨Nat.le_refl _⟩, ⟨by (with_reducible repeat (first | apply Kd.R_alloc | apply Kd.R_drewN | apply Kd.R_drew)); exact Kd.R_mono HO_6.out (fun _ hk => hk.2)⟩, ⟨by (with_reducible repeat (first | apply Kd.R_alloc | apply Kd.R_drewN | apply Kd.R_drew)); exact Kd.R_mono HO196.out (fun _ hk => hk.1)⟩, ⟨by (with_reducible repeat (first | apply Kd.S_alloc | apply Kd.S_drewN | apply Kd.S_drew)); exact Kd.S_mono HO_10.out (fun _ hk => ⟨hk.1.1, hk.2⟩)⟩, ⟨by repeat (first | (with_reducible first | exact HB.out | apply below_alloc | apply pw_below_drewN | apply below_drew1) | exact HB.out)⟩⟩
                                                              case round =>
                                                                clear H'
                                                                try clear c1
                                                                try clear p1
                                                                try clear q1
                                                                try clear hx1
                                                                try clear qi1
                                                                try clear c2
                                                                try clear p2
                                                                try clear c3
                                                                try clear c4
                                                                try clear c4b0
                                                                try clear c4b1
                                                                try clear c4b2
                                                                try clear c5
                                                                try clear c5b0
                                                                try clear c5b1
                                                                try clear c6
                                                                try clear p6
                                                                try clear c7
                                                                try clear c7b0
                                                                try clear c7b1
                                                                try clear c8
                                                                try clear c8b0
                                                                try clear c8b1
                                                                try clear c9
                                                                try clear c9b0
                                                                try clear c10
                                                                try clear c10b0
                                                                try clear c11
                                                                try clear c11b0
                                                                try clear c13
                                                                try clear c15
                                                                try clear c15b0
                                                                try clear c15b1
                                                                try clear p17
                                                                try clear q17
                                                                try clear hx17
                                                                try clear qi17
                                                                try clear p18
                                                                try clear q18
                                                                try clear hx18
                                                                try clear c20
                                                                try clear c20b0
                                                                try clear c21
                                                                try clear c21b0
                                                                try clear c22
                                                                try clear c23
                                                                try clear c23b0
                                                                try clear c24
                                                                try clear c24b0
                                                                try clear c25
                                                                try clear c25b0
                                                                try clear c26
                                                                try clear c26b0
                                                                try clear c27
                                                                try clear c27b0
                                                                try clear c29
                                                                try clear c29b0
                                                                try clear c30
                                                                try clear c30b0
                                                                try clear c33
                                                                try clear c33b0
                                                                try clear c33b1
                                                                try clear c35
                                                                try clear c35b0
                                                                try clear c36
                                                                try clear c39
                                                                try clear c39b0
                                                                try clear c40
                                                                try clear c40b0
                                                                try clear c41
                                                                try clear c41b0
                                                                try clear c43
                                                                try clear c43b0
                                                                try clear c44
                                                                try clear c44b0
                                                                try clear c46
                                                                try clear c50
                                                                try clear hx171_0
                                                                try clear hx172_0
                                                                try clear hx173_0
                                                                try clear hx178_0
                                                                try clear hx182_0
                                                                try clear hx183_0
                                                                try clear hx184_0
                                                                try clear hx188_0
                                                                try clear hx189_0
                                                                try clear p1
                                                                try clear p17
                                                                try clear p171
                                                                try clear p172
                                                                try clear p173
                                                                try clear p178
                                                                try clear p18
                                                                try clear p182
                                                                try clear p183
                                                                try clear p184
                                                                try clear p188
                                                                try clear p189
                                                                try clear p2
                                                                try clear p6
                                                                try clear q1
                                                                try clear q17
                                                                try clear q171
                                                                try clear q172
                                                                try clear q173
                                                                try clear q178
                                                                try clear q18
                                                                try clear q182
                                                                try clear q183
                                                                try clear q184
                                                                try clear q188
                                                                try clear q189
                                                                obtain ⟨x17_9, rfl, HA, HK9, HO_6, HO_9, HO_10, HB⟩ := hrel
                                                                cases gk with
                                                                | zero => exact absurd HA.out (by simp [serinetteref10_Solve.l5])
                                                                | succ k9 =>
                                                                  have H := HA.out
                                                                  clear HA
                                                                  simp only [serinetteref10_Solve.l5] at H
                                                                  by_cases c52 : x17_9 ≤ x11_4
                                                                  · rw [if_pos c52] at H
                                                                    have c52b0 : decide (x17_9 ≤ x11_4) = true := decide_eq_true c52
                                                                    clear c52
                                                                    by_cases c53 : 0 ≤ x17_9
                                                                    · rw [if_pos c53] at H
                                                                      have c53b0 : decide (0 ≤ x17_9) = true := decide_eq_true c53
                                                                      clear c53
                                                                      by_cases c54 : x17_9 < (y194.length : Int)
                                                                      · rw [if_pos c54] at H
                                                                        have c54b0 : decide (x17_9 < (y194.length : Int)) = true := decide_eq_true c54
                                                                        clear c54
                                                                        by_cases c55 : (rd y194 x17_9) > 67108864
                                                                        · rw [if_pos c55] at H
                                                                          have c55b0 : decide (67108864 < (rd y194 x17_9)) = true := decide_eq_true c55
                                                                          clear c55
                                                                          obtain rfl := Option.some.inj H
                                                                          obtain ⟨Ao56, co56, eo56⟩ := Kd.R_slice HO_9.out
                                                                          subst eo56
                                                                          have p197 : 0 ≤ (x17_9 : Int) := of_decide_eq_true (by first | (with_reducible assumption) | assumption)
                                                                          have q197 : x17_9 < (y194.length : Int) := of_decide_eq_true (by first | (with_reducible assumption) | assumption)
                                                                          obtain ⟨ad197, e197, hx197_0⟩ := Kd.at_int (Kd.R_reads' HO_9.out).2.2 x17_9 p197 q197
                                                                          cases e197
                                                                          replace p197 := eq_true p197
                                                                          replace q197 := eq_true q197
                                                                          go_wp2
                                                                          go_ret
                                                                          exact ⟨_, by first | rfl | (simp [errW_none, errW_some] <;> rfl) | (simp [*, errW_none, errW_some] <;> rfl), by (with_reducible repeat (first | apply Kd.S_alloc | apply Kd.S_drewN | apply Kd.S_drew)); exact Kd.S_mono HO_10.out (fun _ hk => trivial), by repeat (first | (with_reducible first | exact HB.out | apply below_alloc | apply pw_below_drewN | apply below_drew1) | exact HB.out)⟩
                                                                        · rw [if_neg c55] at H
                                                                          have c55b0 : decide (67108864 < (rd y194 x17_9)) = false := decide_eq_false c55
                                                                          clear c55
                                                                          by_cases c57 : (rd y194 x17_9) < (-67108864)
                                                                          · rw [if_pos c57] at H
                                                                            have c57b0 : decide ((rd y194 x17_9) < (-67108864)) = true := decide_eq_true c57
                                                                            clear c57
                                                                            obtain rfl := Option.some.inj H
                                                                            obtain ⟨Ao58, co58, eo58⟩ := Kd.R_slice HO_9.out
                                                                            subst eo58
                                                                            have p197 : 0 ≤ (x17_9 : Int) := of_decide_eq_true (by first | (with_reducible assumption) | assumption)
                                                                            have q197 : x17_9 < (y194.length : Int) := of_decide_eq_true (by first | (with_reducible assumption) | assumption)
                                                                            obtain ⟨ad197, e197, hx197_0⟩ := Kd.at_int (Kd.R_reads' HO_9.out).2.2 x17_9 p197 q197
                                                                            cases e197
                                                                            replace p197 := eq_true p197
                                                                            replace q197 := eq_true q197
                                                                            have p198 : 0 ≤ (x17_9 : Int) := of_decide_eq_true (by first | (with_reducible assumption) | assumption)
                                                                            have q198 : x17_9 < (y194.length : Int) := of_decide_eq_true (by first | (with_reducible assumption) | assumption)
                                                                            obtain ⟨ad198, e198, hx198_0⟩ := Kd.at_int (Kd.R_reads' HO_9.out).2.2 x17_9 p198 q198
                                                                            obtain rfl : ad197 = ad198 := (by injection e198)
                                                                            replace p198 := eq_true p198
                                                                            replace q198 := eq_true q198
                                                                            go_wp2
                                                                            go_ret
                                                                            exact ⟨_, by first | rfl | (simp [errW_none, errW_some] <;> rfl) | (simp [*, errW_none, errW_some] <;> rfl), by (with_reducible repeat (first | apply Kd.S_alloc | apply Kd.S_drewN | apply Kd.S_drew)); exact Kd.S_mono HO_10.out (fun _ hk => trivial), by repeat (first | (with_reducible first | exact HB.out | apply below_alloc | apply pw_below_drewN | apply below_drew1) | exact HB.out)⟩
                                                                          · rw [if_neg c57] at H
                                                                            have c57b0 : decide ((rd y194 x17_9) < (-67108864)) = false := decide_eq_false c57
                                                                            clear c57
                                                                            have H' := Aside0.mk H
                                                                            clear H
                                                                            obtain ⟨Ao59, co59, eo59⟩ := Kd.R_slice HO_9.out
                                                                            subst eo59
                                                                            have p197 : 0 ≤ (x17_9 : Int) := of_decide_eq_true (by first | (with_reducible assumption) | assumption)
                                                                            have q197 : x17_9 < (y194.length : Int) := of_decide_eq_true (by first | (with_reducible assumption) | assumption)
                                                                            obtain ⟨ad197, e197, hx197_0⟩ := Kd.at_int (Kd.R_reads' HO_9.out).2.2 x17_9 p197 q197
                                                                            cases e197
                                                                            replace p197 := eq_true p197
                                                                            replace q197 := eq_true q197
                                                                            have p198 : 0 ≤ (x17_9 : Int) := of_decide_eq_true (by first | (with_reducible assumption) | assumption)
                                                                            have q198 : x17_9 < (y194.length : Int) := of_decide_eq_true (by first | (with_reducible assumption) | assumption)
                                                                            obtain ⟨ad198, e198, hx198_0⟩ := Kd.at_int (Kd.R_reads' HO_9.out).2.2 x17_9 p198 q198
                                                                            obtain rfl : ad197 = ad198 := (by injection e198)
                                                                            replace p198 := eq_true p198
                                                                            replace q198 := eq_true q198
                                                                            go_wp2
                                                                            go_roundg k9
                                                                            case measure => have := HJ2.out; have := HK2.out; have := HK3.out; have := HK4.out; have := HJ18.out; have := HK6.out; have := HJ33.out; have := HK8.out; have := HK9.out; omega
                                                                            case rel => exact ⟨(wrap64 (x17_9 + 1)), (by first | rfl | (simp; done) | (simp only [i64_w, i32_w]; done) | (simp [*]; done) | (simp only [i64_w, i32_w]; first | rfl | (simp; done) | (simp [*]; done))), H', ⟨by have := HJ2.out; have := HK2.out; have := HK3.out; have := HK4.out; have := HJ18.out; have := HK6.out; have := HJ33.out; have := HK8.out; have := HK9.out; omega⟩, ⟨by (with_reducible repeat (first | apply Kd.R_alloc | apply Kd.R_drewN | apply Kd.R_drew)); exact HO_6.out⟩, ⟨by (with_reducible repeat (first | apply Kd.R_alloc | apply Kd.R_drewN | apply Kd.R_drew)); exact HO_9.out⟩, ⟨by (with_reducible repeat (first | apply Kd.S_alloc | apply Kd.S_drewN | apply Kd.S_drew)); exact HO_10.out⟩, ⟨by repeat (first | (with_reducible first | exact HB.out | apply below_alloc | apply pw_below_drewN | apply below_drew1) | exact HB.out)⟩⟩
                                                                      · rw [if_neg c54] at H
                                                                        exact absurd H (by simp)
                                                                    · rw [if_neg c53] at H
                                                                      exact absurd H (by simp)
                                                                  · rw [if_neg c52] at H
                                                                    have c52b0 : decide (x17_9 ≤ x11_4) = false := decide_eq_false c52
                                                                    clear c52
                                                                    obtain ⟨y199, hy199⟩ : ∃ y_ : List Int, y_ = (([] : List Int)) := ⟨_, rfl⟩
                                                                    replace H : (if 1 ≤ (y194.length : Int) then ((some (y194.drop 1 : List Int)).bind fun y202 => (if y199.length + y202.length < 17592186044416 then (if x10_4.length < 5864062014805 then ((some (x10_4 ++ [(y199 ++ y202)] : List (List Int))).bind fun y209 => ((serinetteref08_Down.f (wrap64 (x8_4 * (wrap64 (Int.tdiv x12_6 x8_4)))) 1048576).bind fun t212 => ((serinetteref08_Down.f (wrap64 (t212 * (wrap64 (Int.tdiv x12_6 x8_4)))) 1048576).bind fun t213 => (if (wrap64 (x8_4 - t213)) < 1 then (some y209) else (serinetteref10_Solve.l2 k9 a1 x6_3 (wrap64 (x8_4 - t213)) y194 y209 (wrap64 (x11_4 + 1))))))) else (none)) else (none))) else (none)) = some r := by first | (rw [hy199]; with_reducible exact H) | (have H2_ := (Option.bind_some _ _).symm.trans H; rw [hy199]; with_reducible exact H2_) | (have H2_ := (Option.bind_some _ _).symm.trans H; with_reducible exact H2_) | with_reducible exact H | (rw [hy199]; exact H) | exact H
                                                                    have Ny199 := Aside0.mk hy199
                                                                    clear hy199
                                                                    by_cases c60 : 1 ≤ (y194.length : Int)
                                                                    · rw [if_pos c60] at H
                                                                      have c60b0 := eq_true c60
                                                                      have c60b1 : decide (1 ≤ (y194.length : Int)) = true := decide_eq_true c60
                                                                      clear c60
                                                                      obtain ⟨y202, hy202⟩ : ∃ y_ : List Int, y_ = (y194.drop 1) := ⟨_, rfl⟩
                                                                      replace H : (if y199.length + y202.length < 17592186044416 then (if x10_4.length < 5864062014805 then ((some (x10_4 ++ [(y199 ++ y202)] : List (List Int))).bind fun y209 => ((serinetteref08_Down.f (wrap64 (x8_4 * (wrap64 (Int.tdiv x12_6 x8_4)))) 1048576).bind fun t212 => ((serinetteref08_Down.f (wrap64 (t212 * (wrap64 (Int.tdiv x12_6 x8_4)))) 1048576).bind fun t213 => (if (wrap64 (x8_4 - t213)) < 1 then (some y209) else (serinetteref10_Solve.l2 k9 a1 x6_3 (wrap64 (x8_4 - t213)) y194 y209 (wrap64 (x11_4 + 1))))))) else (none)) else (none)) = some r := by first | (rw [hy202]; with_reducible exact H) | (have H2_ := (Option.bind_some _ _).symm.trans H; rw [hy202]; with_reducible exact H2_) | (have H2_ := (Option.bind_some _ _).symm.trans H; with_reducible exact H2_) | with_reducible exact H | (rw [hy202]; exact H) | exact H
                                                                      have Ny202 := Aside0.mk hy202
                                                                      clear hy202
                                                                      by_cases c61 : y199.length + y202.length < 17592186044416
                                                                      · rw [if_pos c61] at H
                                                                        have LMc61 := Aside0.mk c61
                                                                        clear c61
                                                                        obtain ⟨y206, hy206⟩ : ∃ y_ : List Int, y_ = (y199 ++ y202) := ⟨_, rfl⟩
                                                                        replace H : (if x10_4.length < 5864062014805 then ((some (x10_4 ++ [y206] : List (List Int))).bind fun y209 => ((serinetteref08_Down.f (wrap64 (x8_4 * (wrap64 (Int.tdiv x12_6 x8_4)))) 1048576).bind fun t212 => ((serinetteref08_Down.f (wrap64 (t212 * (wrap64 (Int.tdiv x12_6 x8_4)))) 1048576).bind fun t213 => (if (wrap64 (x8_4 - t213)) < 1 then (some y209) else (serinetteref10_Solve.l2 k9 a1 x6_3 (wrap64 (x8_4 - t213)) y194 y209 (wrap64 (x11_4 + 1))))))) else (none)) = some r := by first | (rw [hy206]; with_reducible exact H) | (have H2_ := (Option.bind_some _ _).symm.trans H; rw [hy206]; with_reducible exact H2_) | (have H2_ := (Option.bind_some _ _).symm.trans H; with_reducible exact H2_) | with_reducible exact H | (rw [hy206]; exact H) | exact H
                                                                        have Ny206 := Aside0.mk hy206
                                                                        clear hy206
                                                                        by_cases c62 : x10_4.length < 5864062014805
                                                                        · rw [if_pos c62] at H
                                                                          have LMc62 := Aside0.mk c62
                                                                          clear c62
                                                                          obtain ⟨y209, hy209⟩ : ∃ y_ : List (List Int), y_ = (x10_4 ++ [y206]) := ⟨_, rfl⟩
                                                                          replace H : ((serinetteref08_Down.f (wrap64 (x8_4 * (wrap64 (Int.tdiv x12_6 x8_4)))) 1048576).bind fun t212 => ((serinetteref08_Down.f (wrap64 (t212 * (wrap64 (Int.tdiv x12_6 x8_4)))) 1048576).bind fun t213 => (if (wrap64 (x8_4 - t213)) < 1 then (some y209) else (serinetteref10_Solve.l2 k9 a1 x6_3 (wrap64 (x8_4 - t213)) y194 y209 (wrap64 (x11_4 + 1)))))) = some r := by first | (rw [hy209]; with_reducible exact H) | (have H2_ := (Option.bind_some _ _).symm.trans H; rw [hy209]; with_reducible exact H2_) | (have H2_ := (Option.bind_some _ _).symm.trans H; with_reducible exact H2_) | with_reducible exact H | (rw [hy209]; exact H) | exact H
                                                                          have Ny209 := Aside0.mk hy209
                                                                          clear hy209
                                                                          replace H := Option.bind_eq_some_iff.mp H
                                                                          obtain ⟨t212, A630, H⟩ := H
                                                                          replace H : ((serinetteref08_Down.f (wrap64 (t212 * (wrap64 (Int.tdiv x12_6 x8_4)))) 1048576).bind fun t213 => (if (wrap64 (x8_4 - t213)) < 1 then (some y209) else (serinetteref10_Solve.l2 k9 a1 x6_3 (wrap64 (x8_4 - t213)) y194 y209 (wrap64 (x11_4 + 1))))) = some r := H
                                                                          have A63 := Aside0.mk A630
                                                                          clear A630
                                                                          replace H := Option.bind_eq_some_iff.mp H
                                                                          obtain ⟨t213, A640, H⟩ := H
                                                                          replace H : (if (wrap64 (x8_4 - t213)) < 1 then (some y209) else (serinetteref10_Solve.l2 k9 a1 x6_3 (wrap64 (x8_4 - t213)) y194 y209 (wrap64 (x11_4 + 1)))) = some r := H
                                                                          have A64 := Aside0.mk A640
                                                                          clear A640
                                                                          by_cases c65 : (wrap64 (x8_4 - t213)) < 1
                                                                          · rw [if_pos c65] at H
                                                                            have c65b0 : decide ((wrap64 (x8_4 - t213)) < 1) = true := decide_eq_true c65
                                                                            clear c65
                                                                            obtain rfl := Option.some.inj H
                                                                            go_wp2_with (first | ((with_reducible refine gate_dst (N := 148) rfl ?_); (try (refine gate_guard (by rfl) ?_; dsimp only)); refine Kd.R_lit (Kd.int .i64) _ 3 ?hg (N := 148) ?hd (xs := ([] : List Int)) (inner := []) (ok := fun _ => True) (okp := fun _ => True) ?hr ?hp (fun _ hk => hk) trivial (Below.refl _ _) (Nat.le_refl _) (by simp) ?_; (case hd => rfl); (case hg => rfl); (case hr => first | (go_simp; done) | (go_simp; rfl)); (case hp => exact (Reps.none _ _)); intro v200 w66 ho67 hb hg_ hnew_; clear hg_ hnew_; (first | rw [← Ny199.out] at ho67 | (simp only [Int.reduceToNat] at ho67; rw [← Ny199.out] at ho67)); have n0_ := Aside0.mk (Kd.R_elder' (by (with_reducible repeat (first | apply Kd.R_alloc | apply Kd.R_drewN | apply Kd.R_drew)); exact HO_6.out) (Kd.R_base ho67) hb); have n1_ := Aside0.mk (Kd.R_elder' (by (with_reducible repeat (first | apply Kd.R_alloc | apply Kd.R_drewN | apply Kd.R_drew)); exact HO_9.out) (Kd.R_base ho67) hb); have n2_ := Aside0.mk (Kd.S_elder' (by (with_reducible repeat (first | apply Kd.S_alloc | apply Kd.S_drewN | apply Kd.S_drew)); exact HO_10.out) (Kd.R_base ho67) hb); have n3_ := Aside0.mk (Kd.R_lower (Kd.R_new' (Kd.R_new' ho67 (Kd.R_lt (by (with_reducible repeat (first | apply Kd.R_alloc | apply Kd.R_drewN | apply Kd.R_drew)); exact HO_6.out))) (Kd.R_lt (by (with_reducible repeat (first | apply Kd.R_alloc | apply Kd.R_drewN | apply Kd.R_drew)); exact HO_9.out))) (below_size (by repeat (first | (with_reducible first | exact HB.out | apply below_alloc | apply pw_below_drewN | apply below_drew1) | exact HB.out)))); have n4_ := Aside0.mk (below_step (by repeat (first | (with_reducible first | exact HB.out | apply below_alloc | apply pw_below_drewN | apply below_drew1) | exact HB.out)) hb); clear HO_6; clear HO_9; clear HO_10; clear HB; have HO_6 := n0_; have HO_9 := n1_; have HO_10 := n2_; have HO201 := n3_; have HB := n4_; clear n0_ n1_ n2_ n3_ n4_; clear hb ho67; obtain ⟨Ao69, co69, eo69⟩ := Kd.R_slice HO_9.out; subst eo69; have q68 : (1 : Int) ≤ ((y194.length : Int) : Int) := of_decide_eq_true (by first | (with_reducible assumption) | assumption); obtain ⟨i068, hi068, _, hsz68, _⟩ := info_parts info3; have hroom68 : y194.length ≤ co69 := (Kd.R_reads' HO_9.out).2.1; have hC68 : Kd.C (Kd.int .i64) _ Ao69 y194.length y194 := (Kd.R_reads' HO_9.out).2.2; have hcut68 := cut_from (P := Try.prog) 22 3 .i64 Try.underlying22 hi068 1 hsz68 Ao69 y194.length co69 1 (by omega) q68; have hr68 := Kd.C_drop (m := (1 : Int).toNat) (c := co69) hC68 (by omega) hroom68; obtain ⟨A68, hA68⟩ : ∃ A1, A1 = (if co69 = (1 : Int).toNat then Ao69 else (Ao69 : Option Addr).map (·.add ((1 : Int).toNat * 1))) := ⟨_, rfl⟩; obtain ⟨c68, hc68⟩ : ∃ c1, c1 = co69 - (1 : Int).toNat := ⟨_, rfl⟩; have hy68 : y202.length = y194.length - (1 : Int).toNat := (by rw [Ny202.out, List.length_drop] <;> omega); rw [show (y194).drop (1 : Int).toNat = y202 from Ny202.out.symm] at hr68; replace hr68 : Kd.C (Kd.int .i64) _ A68 y202.length y202 := (by rw [hA68]; exact hr68); rw [← hy68, ← hA68, ← hc68] at hcut68; have HR205 := Aside0.mk hr68; have HC205 := Aside0.mk (show y202.length ≤ c68 from by rw [hy68, hc68]; exact Nat.sub_le_sub_right hroom68 _); clear hr68 hC68 hroom68 hi068 hsz68 hc68; have KY68 := Aside0.mk hy68; have KA68 := Aside0.mk hA68; clear hy68 hA68; have KL68 := Aside0.mk (show 1 ≤ y194.length from by omega); replace q68 := eq_true q68) | ((with_reducible refine gate_builtin (b := .append) (xs := #[.tmp 148, .tmp 150]) rfl ?_); (try (refine gate_guard (by rfl) ?_; dsimp only)); at_builtin; refine Kd.R_append_rows (Kd.int .i64) (w0 := w) w.heap.size rfl (.tmp 148) (.tmp 150) 22 3 (.int .i64 0) 8 rfl Try.underlying22 info3 rfl (by decide) (by omega) v200 y199 y202 _ _ _ (fun k_ => some k_ ≠ (.slice (some ad178) x6_3.length co16 : Value).ownBlock ∧ some k_ ≠ (.slice Ao69 y194.length co69 : Value).ownBlock) (fun _ => False) rfl rfl ?aO ?aR (fun _ _ h => h) (fun _ h => h.elim) ?aF ?aB ?aS ?aL ?_; (case aR => repeat (first | exact (by repeat (first | (with_reducible exact HR205.out) | (with_reducible refine Kd.C_alloc ?_ _) | (with_reducible refine Kd.C_drewN ?_ _) | (with_reducible refine Kd.C_drew ?_) | exact HR205.out)) | (with_reducible refine Kd.C_alloc ?_ _) | (with_reducible refine Kd.C_drewN ?_ _) | (with_reducible refine Kd.C_drew ?_))); (case aB => exact (by repeat (first | (with_reducible first | exact HB.out | apply below_alloc | apply pw_below_drewN | apply below_drew1) | exact HB.out))); (case aF => exact (fun k_ hk => ⟨Kd.fresh' (Kd.R_lt (by (with_reducible repeat (first | apply Kd.R_alloc | apply Kd.R_drewN | apply Kd.R_drew)); exact HO_6.out)) k_ hk, Kd.fresh' (Kd.R_lt (by (with_reducible repeat (first | apply Kd.R_alloc | apply Kd.R_drewN | apply Kd.R_drew)); exact HO_9.out)) k_ hk⟩)); (case aO => exact (by (with_reducible repeat (first | apply Kd.R_alloc | apply Kd.R_drewN | apply Kd.R_drew)); exact Kd.R_mono HO201.out (fun _ hk => ⟨hk.1.2, hk.2⟩))); (case aS => exact (below_size (by repeat (first | (with_reducible first | exact HB.out | apply below_alloc | apply pw_below_drewN | apply below_drew1) | exact HB.out)))); (case aL => have := LMc61.out; omega); intro v207 w70 ho hb hg hat; rw [← Ny206.out] at ho; have n0_ := Aside0.mk (Kd.R_after (ok := (fun k_ => some k_ ≠ (.slice Ao69 y194.length co69 : Value).ownBlock)) (by (with_reducible repeat (first | apply Kd.R_alloc | apply Kd.R_drewN | apply Kd.R_drew)); exact HO_6.out) hg hat); have n1_ := Aside0.mk (Kd.R_after (ok := (fun k_ => some k_ ≠ (.slice (some ad178) x6_3.length co16 : Value).ownBlock)) (by (with_reducible repeat (first | apply Kd.R_alloc | apply Kd.R_drewN | apply Kd.R_drew)); exact HO_9.out) hg hat); have n2_ := Aside0.mk (Kd.S_after (ok := (fun k_ => some k_ ≠ (.slice (some ad178) x6_3.length co16 : Value).ownBlock ∧ some k_ ≠ (.slice Ao69 y194.length co69 : Value).ownBlock)) (by (with_reducible repeat (first | apply Kd.S_alloc | apply Kd.S_drewN | apply Kd.S_drew)); exact HO_10.out) hg hat); have n3_ := Aside0.mk (hb); have n4_ := Aside0.mk ((show Kd.C (Kd.int .i64) w70 A68 y202.length y202 from by rw [Ny202.out, KA68.out]; exact Kd.C_drop (m := 1) (c := co69) ((Kd.R_reads' (Kd.R_after (ok := (fun k_ => some k_ ≠ (.slice (some ad178) x6_3.length co16 : Value).ownBlock)) (by (with_reducible repeat (first | apply Kd.R_alloc | apply Kd.R_drewN | apply Kd.R_drew)); exact HO_9.out) hg hat)).2.2) KL68.out ((Kd.R_reads' (Kd.R_after (ok := (fun k_ => some k_ ≠ (.slice (some ad178) x6_3.length co16 : Value).ownBlock)) (by (with_reducible repeat (first | apply Kd.R_alloc | apply Kd.R_drewN | apply Kd.R_drew)); exact HO_9.out) hg hat)).2.1))); have n5_ := Aside0.mk (ho); clear HO_6; clear HO_9; clear HO_10; clear HB; clear HR205; clear HO201; have HO_6 := n0_; have HO_9 := n1_; have HO_10 := n2_; have HB := n3_; have HR205 := n4_; have HO208 := n5_; clear n0_ n1_ n2_ n3_ n4_ n5_; clear ho hb hg hat; obtain ⟨Ao72, co72, eo72⟩ := Kd.R_slice HO208.out; subst eo72) | ((with_reducible refine gate_builtin (b := .append) (xs := #[.tmp 147, .tmp 152]) rfl ?_); (try (refine gate_guard (by rfl) ?_; dsimp only)); at_builtin; refine Kd.S_append (Kd.slice 3 (Kd.int .i64)) (w0 := w) w.heap.size rfl (.tmp 147) (.tmp 152) 26 22 (.slice none 0 0) 24 rfl Try.underlying26 info22 rfl (by decide) (by omega) u10 x10_4 y206 [.slice Ao72 y206.length co72] (fun k_ => some k_ ≠ (.slice (some ad178) x6_3.length co16 : Value).ownBlock ∧ some k_ ≠ (.slice Ao69 y194.length co69 : Value).ownBlock) (fun k_ => some k_ = (.slice Ao72 y206.length co72 : Value).ownBlock) rfl rfl ?aP (fun k_ hk_ => ((Kd.R_mono (ok' := fun k_ => ((fun k_ => some k_ ≠ (.slice (some ad178) x6_3.length co16 : Value).ownBlock ∧ some k_ ≠ (.slice Ao69 y194.length co69 : Value).ownBlock)) k_ ∧ some k_ ≠ (u10 : Value).ownBlock) (Kd.R_apart' (HO208.out) (Kd.S_typed HO_10.out) (by decide)) (fun k_ hk => ⟨⟨hk.1.1, hk.1.2⟩, hk.2⟩))).1 k_ hk_.symm) ?aF ?aO ?aB ?aS ?aL ?_; (case aP => exact Kd.M_row (Kd.R_mono (Kd.R_tight rfl (Kd.R_mono (ok' := fun k_ => ((fun k_ => some k_ ≠ (.slice (some ad178) x6_3.length co16 : Value).ownBlock ∧ some k_ ≠ (.slice Ao69 y194.length co69 : Value).ownBlock)) k_ ∧ some k_ ≠ (u10 : Value).ownBlock) (Kd.R_apart' (HO208.out) (Kd.S_typed HO_10.out) (by decide)) (fun k_ hk => ⟨⟨hk.1.1, hk.1.2⟩, hk.2⟩))) (fun _ h_ => h_))); (case aB => exact (by repeat (first | (with_reducible first | exact HB.out | apply below_alloc | apply pw_below_drewN | apply below_drew1) | exact HB.out))); (case aF => exact (fun k_ hk => ⟨Kd.fresh' (Kd.R_lt (by (with_reducible repeat (first | apply Kd.R_alloc | apply Kd.R_drewN | apply Kd.R_drew)); exact HO_6.out)) k_ hk, Kd.fresh' (Kd.R_lt (by (with_reducible repeat (first | apply Kd.R_alloc | apply Kd.R_drewN | apply Kd.R_drew)); exact HO_9.out)) k_ hk⟩)); (case aO => exact (by (with_reducible repeat (first | apply Kd.S_alloc | apply Kd.S_drewN | apply Kd.S_drew)); exact Kd.S_mono HO_10.out (fun k_ hk => ⟨⟨hk.1.1, hk.1.2⟩, fun e_ => hk.2 e_⟩))); (case aS => exact (below_size (by repeat (first | (with_reducible first | exact HB.out | apply below_alloc | apply pw_below_drewN | apply below_drew1) | exact HB.out)))); (case aL => have := LMc62.out; omega); intro v210 w71 ho hb hg hat; rw [← Ny209.out] at ho; have n0_ := Aside0.mk (Kd.R_over' (by (with_reducible repeat (first | apply Kd.R_alloc | apply Kd.R_drewN | apply Kd.R_drew)); exact HO_6.out) (Kd.S_typed (by (with_reducible repeat (first | apply Kd.S_alloc | apply Kd.S_drewN | apply Kd.S_drew)); exact HO_10.out)) (by decide) hg); have n1_ := Aside0.mk (Kd.R_over' (by (with_reducible repeat (first | apply Kd.R_alloc | apply Kd.R_drewN | apply Kd.R_drew)); exact HO_9.out) (Kd.S_typed (by (with_reducible repeat (first | apply Kd.S_alloc | apply Kd.S_drewN | apply Kd.S_drew)); exact HO_10.out)) (by decide) hg); have n2_ := Aside0.mk (hb); have n3_ := Aside0.mk ((show Kd.C (Kd.int .i64) w71 A68 y202.length y202 from by rw [Ny202.out, KA68.out]; exact Kd.C_drop (m := 1) (c := co69) ((Kd.R_reads' (Kd.R_over' (by (with_reducible repeat (first | apply Kd.R_alloc | apply Kd.R_drewN | apply Kd.R_drew)); exact HO_9.out) (Kd.S_typed (by (with_reducible repeat (first | apply Kd.S_alloc | apply Kd.S_drewN | apply Kd.S_drew)); exact HO_10.out)) (by decide) hg)).2.2) KL68.out ((Kd.R_reads' (Kd.R_over' (by (with_reducible repeat (first | apply Kd.R_alloc | apply Kd.R_drewN | apply Kd.R_drew)); exact HO_9.out) (Kd.S_typed (by (with_reducible repeat (first | apply Kd.S_alloc | apply Kd.S_drewN | apply Kd.S_drew)); exact HO_10.out)) (by decide) hg)).2.1))); have n4_ := Aside0.mk (ho); clear HO_6; clear HO_9; clear HB; clear HR205; clear HO_10; clear HO208; have HO_6 := n0_; have HO_9 := n1_; have HB := n2_; have HR205 := n3_; have HO211 := n4_; clear n0_ n1_ n2_ n3_ n4_; clear ho hb hg hat) | ((with_reducible refine gate_callee (f := 21) rfl ?_); refine goesL_ (some 158) rfl rfl Try.func21 (by kernel_rfl) rfl #[.int .i64 (wrap64 (x8_4 * (wrap64 (Int.tdiv x12_6 x8_4)))), .int .i64 1048576] rfl (by (try simp only [List.map_toArray, List.map_cons, List.map_nil]); first | done | rfl | (simp only [List.length_drop, List.length_take]; rfl)) ?_; (with_reducible refine (serinetteref08_Down.calls (wrap64 (x8_4 * (wrap64 (Int.tdiv x12_6 x8_4)))) 1048576 t212 _ A63.out).mono ?_); rintro e w' ⟨rfl, ⟨nd, rfl⟩⟩; refine ⟨_, rfl, ?_⟩) | ((with_reducible refine gate_callee (f := 21) rfl ?_); refine goesL_ (some 161) rfl rfl Try.func21 (by kernel_rfl) rfl #[.int .i64 (wrap64 (t212 * (wrap64 (Int.tdiv x12_6 x8_4)))), .int .i64 1048576] rfl (by (try simp only [List.map_toArray, List.map_cons, List.map_nil]); first | done | rfl | (simp only [List.length_drop, List.length_take]; rfl)) ?_; (with_reducible refine (serinetteref08_Down.calls (wrap64 (t212 * (wrap64 (Int.tdiv x12_6 x8_4)))) 1048576 t213 _ A64.out).mono ?_); rintro e w' ⟨rfl, ⟨nd, rfl⟩⟩; refine ⟨_, rfl, ?_⟩))
                                                                            go_ret
                                                                            exact ⟨_, by first | rfl | (simp [errW_none, errW_some] <;> rfl) | (simp [*, errW_none, errW_some] <;> rfl), by (with_reducible repeat (first | apply Kd.S_alloc | apply Kd.S_drewN | apply Kd.S_drew)); exact Kd.S_mono HO211.out (fun _ hk => trivial), by repeat (first | (with_reducible first | exact HB.out | apply below_alloc | apply pw_below_drewN | apply below_drew1) | exact HB.out)⟩
                                                                          · rw [if_neg c65] at H
                                                                            have c65b0 : decide ((wrap64 (x8_4 - t213)) < 1) = false := decide_eq_false c65
                                                                            clear c65
                                                                            have H' := Aside0.mk H
                                                                            clear H
                                                                            go_wp2_with (first | ((with_reducible refine gate_dst (N := 148) rfl ?_); (try (refine gate_guard (by rfl) ?_; dsimp only)); refine Kd.R_lit (Kd.int .i64) _ 3 ?hg (N := 148) ?hd (xs := ([] : List Int)) (inner := []) (ok := fun _ => True) (okp := fun _ => True) ?hr ?hp (fun _ hk => hk) trivial (Below.refl _ _) (Nat.le_refl _) (by simp) ?_; (case hd => rfl); (case hg => rfl); (case hr => first | (go_simp; done) | (go_simp; rfl)); (case hp => exact (Reps.none _ _)); intro v200 w73 ho74 hb hg_ hnew_; clear hg_ hnew_; (first | rw [← Ny199.out] at ho74 | (simp only [Int.reduceToNat] at ho74; rw [← Ny199.out] at ho74)); have n0_ := Aside0.mk (Kd.R_elder' (by (with_reducible repeat (first | apply Kd.R_alloc | apply Kd.R_drewN | apply Kd.R_drew)); exact HO_6.out) (Kd.R_base ho74) hb); have n1_ := Aside0.mk (Kd.R_elder' (by (with_reducible repeat (first | apply Kd.R_alloc | apply Kd.R_drewN | apply Kd.R_drew)); exact HO_9.out) (Kd.R_base ho74) hb); have n2_ := Aside0.mk (Kd.S_elder' (by (with_reducible repeat (first | apply Kd.S_alloc | apply Kd.S_drewN | apply Kd.S_drew)); exact HO_10.out) (Kd.R_base ho74) hb); have n3_ := Aside0.mk (Kd.R_lower (Kd.R_new' (Kd.R_new' ho74 (Kd.R_lt (by (with_reducible repeat (first | apply Kd.R_alloc | apply Kd.R_drewN | apply Kd.R_drew)); exact HO_6.out))) (Kd.R_lt (by (with_reducible repeat (first | apply Kd.R_alloc | apply Kd.R_drewN | apply Kd.R_drew)); exact HO_9.out))) (below_size (by repeat (first | (with_reducible first | exact HB.out | apply below_alloc | apply pw_below_drewN | apply below_drew1) | exact HB.out)))); have n4_ := Aside0.mk (below_step (by repeat (first | (with_reducible first | exact HB.out | apply below_alloc | apply pw_below_drewN | apply below_drew1) | exact HB.out)) hb); clear HO_6; clear HO_9; clear HO_10; clear HB; have HO_6 := n0_; have HO_9 := n1_; have HO_10 := n2_; have HO201 := n3_; have HB := n4_; clear n0_ n1_ n2_ n3_ n4_; clear hb ho74; obtain ⟨Ao76, co76, eo76⟩ := Kd.R_slice HO_9.out; subst eo76; have q75 : (1 : Int) ≤ ((y194.length : Int) : Int) := of_decide_eq_true (by first | (with_reducible assumption) | assumption); obtain ⟨i075, hi075, _, hsz75, _⟩ := info_parts info3; have hroom75 : y194.length ≤ co76 := (Kd.R_reads' HO_9.out).2.1; have hC75 : Kd.C (Kd.int .i64) _ Ao76 y194.length y194 := (Kd.R_reads' HO_9.out).2.2; have hcut75 := cut_from (P := Try.prog) 22 3 .i64 Try.underlying22 hi075 1 hsz75 Ao76 y194.length co76 1 (by omega) q75; have hr75 := Kd.C_drop (m := (1 : Int).toNat) (c := co76) hC75 (by omega) hroom75; obtain ⟨A75, hA75⟩ : ∃ A1, A1 = (if co76 = (1 : Int).toNat then Ao76 else (Ao76 : Option Addr).map (·.add ((1 : Int).toNat * 1))) := ⟨_, rfl⟩; obtain ⟨c75, hc75⟩ : ∃ c1, c1 = co76 - (1 : Int).toNat := ⟨_, rfl⟩; have hy75 : y202.length = y194.length - (1 : Int).toNat := (by rw [Ny202.out, List.length_drop] <;> omega); rw [show (y194).drop (1 : Int).toNat = y202 from Ny202.out.symm] at hr75; replace hr75 : Kd.C (Kd.int .i64) _ A75 y202.length y202 := (by rw [hA75]; exact hr75); rw [← hy75, ← hA75, ← hc75] at hcut75; have HR205 := Aside0.mk hr75; have HC205 := Aside0.mk (show y202.length ≤ c75 from by rw [hy75, hc75]; exact Nat.sub_le_sub_right hroom75 _); clear hr75 hC75 hroom75 hi075 hsz75 hc75; have KY75 := Aside0.mk hy75; have KA75 := Aside0.mk hA75; clear hy75 hA75; have KL75 := Aside0.mk (show 1 ≤ y194.length from by omega); replace q75 := eq_true q75) | ((with_reducible refine gate_builtin (b := .append) (xs := #[.tmp 148, .tmp 150]) rfl ?_); (try (refine gate_guard (by rfl) ?_; dsimp only)); at_builtin; refine Kd.R_append_rows (Kd.int .i64) (w0 := w) w.heap.size rfl (.tmp 148) (.tmp 150) 22 3 (.int .i64 0) 8 rfl Try.underlying22 info3 rfl (by decide) (by omega) v200 y199 y202 _ _ _ (fun k_ => some k_ ≠ (.slice (some ad178) x6_3.length co16 : Value).ownBlock ∧ some k_ ≠ (.slice Ao76 y194.length co76 : Value).ownBlock) (fun _ => False) rfl rfl ?aO ?aR (fun _ _ h => h) (fun _ h => h.elim) ?aF ?aB ?aS ?aL ?_; (case aR => repeat (first | exact (by repeat (first | (with_reducible exact HR205.out) | (with_reducible refine Kd.C_alloc ?_ _) | (with_reducible refine Kd.C_drewN ?_ _) | (with_reducible refine Kd.C_drew ?_) | exact HR205.out)) | (with_reducible refine Kd.C_alloc ?_ _) | (with_reducible refine Kd.C_drewN ?_ _) | (with_reducible refine Kd.C_drew ?_))); (case aB => exact (by repeat (first | (with_reducible first | exact HB.out | apply below_alloc | apply pw_below_drewN | apply below_drew1) | exact HB.out))); (case aF => exact (fun k_ hk => ⟨Kd.fresh' (Kd.R_lt (by (with_reducible repeat (first | apply Kd.R_alloc | apply Kd.R_drewN | apply Kd.R_drew)); exact HO_6.out)) k_ hk, Kd.fresh' (Kd.R_lt (by (with_reducible repeat (first | apply Kd.R_alloc | apply Kd.R_drewN | apply Kd.R_drew)); exact HO_9.out)) k_ hk⟩)); (case aO => exact (by (with_reducible repeat (first | apply Kd.R_alloc | apply Kd.R_drewN | apply Kd.R_drew)); exact Kd.R_mono HO201.out (fun _ hk => ⟨hk.1.2, hk.2⟩))); (case aS => exact (below_size (by repeat (first | (with_reducible first | exact HB.out | apply below_alloc | apply pw_below_drewN | apply below_drew1) | exact HB.out)))); (case aL => have := LMc61.out; omega); intro v207 w77 ho hb hg hat; rw [← Ny206.out] at ho; have n0_ := Aside0.mk (Kd.R_after (ok := (fun k_ => some k_ ≠ (.slice Ao76 y194.length co76 : Value).ownBlock)) (by (with_reducible repeat (first | apply Kd.R_alloc | apply Kd.R_drewN | apply Kd.R_drew)); exact HO_6.out) hg hat); have n1_ := Aside0.mk (Kd.R_after (ok := (fun k_ => some k_ ≠ (.slice (some ad178) x6_3.length co16 : Value).ownBlock)) (by (with_reducible repeat (first | apply Kd.R_alloc | apply Kd.R_drewN | apply Kd.R_drew)); exact HO_9.out) hg hat); have n2_ := Aside0.mk (Kd.S_after (ok := (fun k_ => some k_ ≠ (.slice (some ad178) x6_3.length co16 : Value).ownBlock ∧ some k_ ≠ (.slice Ao76 y194.length co76 : Value).ownBlock)) (by (with_reducible repeat (first | apply Kd.S_alloc | apply Kd.S_drewN | apply Kd.S_drew)); exact HO_10.out) hg hat); have n3_ := Aside0.mk (hb); have n4_ := Aside0.mk ((show Kd.C (Kd.int .i64) w77 A75 y202.length y202 from by rw [Ny202.out, KA75.out]; exact Kd.C_drop (m := 1) (c := co76) ((Kd.R_reads' (Kd.R_after (ok := (fun k_ => some k_ ≠ (.slice (some ad178) x6_3.length co16 : Value).ownBlock)) (by (with_reducible repeat (first | apply Kd.R_alloc | apply Kd.R_drewN | apply Kd.R_drew)); exact HO_9.out) hg hat)).2.2) KL75.out ((Kd.R_reads' (Kd.R_after (ok := (fun k_ => some k_ ≠ (.slice (some ad178) x6_3.length co16 : Value).ownBlock)) (by (with_reducible repeat (first | apply Kd.R_alloc | apply Kd.R_drewN | apply Kd.R_drew)); exact HO_9.out) hg hat)).2.1))); have n5_ := Aside0.mk (ho); clear HO_6; clear HO_9; clear HO_10; clear HB; clear HR205; clear HO201; have HO_6 := n0_; have HO_9 := n1_; have HO_10 := n2_; have HB := n3_; have HR205 := n4_; have HO208 := n5_; clear n0_ n1_ n2_ n3_ n4_ n5_; clear ho hb hg hat; obtain ⟨Ao79, co79, eo79⟩ := Kd.R_slice HO208.out; subst eo79) | ((with_reducible refine gate_builtin (b := .append) (xs := #[.tmp 147, .tmp 152]) rfl ?_); (try (refine gate_guard (by rfl) ?_; dsimp only)); at_builtin; refine Kd.S_append (Kd.slice 3 (Kd.int .i64)) (w0 := w) w.heap.size rfl (.tmp 147) (.tmp 152) 26 22 (.slice none 0 0) 24 rfl Try.underlying26 info22 rfl (by decide) (by omega) u10 x10_4 y206 [.slice Ao79 y206.length co79] (fun k_ => some k_ ≠ (.slice (some ad178) x6_3.length co16 : Value).ownBlock ∧ some k_ ≠ (.slice Ao76 y194.length co76 : Value).ownBlock) (fun k_ => some k_ = (.slice Ao79 y206.length co79 : Value).ownBlock) rfl rfl ?aP (fun k_ hk_ => ((Kd.R_mono (ok' := fun k_ => ((fun k_ => some k_ ≠ (.slice (some ad178) x6_3.length co16 : Value).ownBlock ∧ some k_ ≠ (.slice Ao76 y194.length co76 : Value).ownBlock)) k_ ∧ some k_ ≠ (u10 : Value).ownBlock) (Kd.R_apart' (HO208.out) (Kd.S_typed HO_10.out) (by decide)) (fun k_ hk => ⟨⟨hk.1.1, hk.1.2⟩, hk.2⟩))).1 k_ hk_.symm) ?aF ?aO ?aB ?aS ?aL ?_; (case aP => exact Kd.M_row (Kd.R_mono (Kd.R_tight rfl (Kd.R_mono (ok' := fun k_ => ((fun k_ => some k_ ≠ (.slice (some ad178) x6_3.length co16 : Value).ownBlock ∧ some k_ ≠ (.slice Ao76 y194.length co76 : Value).ownBlock)) k_ ∧ some k_ ≠ (u10 : Value).ownBlock) (Kd.R_apart' (HO208.out) (Kd.S_typed HO_10.out) (by decide)) (fun k_ hk => ⟨⟨hk.1.1, hk.1.2⟩, hk.2⟩))) (fun _ h_ => h_))); (case aB => exact (by repeat (first | (with_reducible first | exact HB.out | apply below_alloc | apply pw_below_drewN | apply below_drew1) | exact HB.out))); (case aF => exact (fun k_ hk => ⟨Kd.fresh' (Kd.R_lt (by (with_reducible repeat (first | apply Kd.R_alloc | apply Kd.R_drewN | apply Kd.R_drew)); exact HO_6.out)) k_ hk, Kd.fresh' (Kd.R_lt (by (with_reducible repeat (first | apply Kd.R_alloc | apply Kd.R_drewN | apply Kd.R_drew)); exact HO_9.out)) k_ hk⟩)); (case aO => exact (by (with_reducible repeat (first | apply Kd.S_alloc | apply Kd.S_drewN | apply Kd.S_drew)); exact Kd.S_mono HO_10.out (fun k_ hk => ⟨⟨hk.1.1, hk.1.2⟩, fun e_ => hk.2 e_⟩))); (case aS => exact (below_size (by repeat (first | (with_reducible first | exact HB.out | apply below_alloc | apply pw_below_drewN | apply below_drew1) | exact HB.out)))); (case aL => have := LMc62.out; omega); intro v210 w78 ho hb hg hat; rw [← Ny209.out] at ho; have n0_ := Aside0.mk (Kd.R_over' (by (with_reducible repeat (first | apply Kd.R_alloc | apply Kd.R_drewN | apply Kd.R_drew)); exact HO_6.out) (Kd.S_typed (by (with_reducible repeat (first | apply Kd.S_alloc | apply Kd.S_drewN | apply Kd.S_drew)); exact HO_10.out)) (by decide) hg); have n1_ := Aside0.mk (Kd.R_over' (by (with_reducible repeat (first | apply Kd.R_alloc | apply Kd.R_drewN | apply Kd.R_drew)); exact HO_9.out) (Kd.S_typed (by (with_reducible repeat (first | apply Kd.S_alloc | apply Kd.S_drewN | apply Kd.S_drew)); exact HO_10.out)) (by decide) hg); have n2_ := Aside0.mk (hb); have n3_ := Aside0.mk ((show Kd.C (Kd.int .i64) w78 A75 y202.length y202 from by rw [Ny202.out, KA75.out]; exact Kd.C_drop (m := 1) (c := co76) ((Kd.R_reads' (Kd.R_over' (by (with_reducible repeat (first | apply Kd.R_alloc | apply Kd.R_drewN | apply Kd.R_drew)); exact HO_9.out) (Kd.S_typed (by (with_reducible repeat (first | apply Kd.S_alloc | apply Kd.S_drewN | apply Kd.S_drew)); exact HO_10.out)) (by decide) hg)).2.2) KL75.out ((Kd.R_reads' (Kd.R_over' (by (with_reducible repeat (first | apply Kd.R_alloc | apply Kd.R_drewN | apply Kd.R_drew)); exact HO_9.out) (Kd.S_typed (by (with_reducible repeat (first | apply Kd.S_alloc | apply Kd.S_drewN | apply Kd.S_drew)); exact HO_10.out)) (by decide) hg)).2.1))); have n4_ := Aside0.mk (ho); clear HO_6; clear HO_9; clear HB; clear HR205; clear HO_10; clear HO208; have HO_6 := n0_; have HO_9 := n1_; have HB := n2_; have HR205 := n3_; have HO211 := n4_; clear n0_ n1_ n2_ n3_ n4_; clear ho hb hg hat) | ((with_reducible refine gate_callee (f := 21) rfl ?_); refine goesL_ (some 158) rfl rfl Try.func21 (by kernel_rfl) rfl #[.int .i64 (wrap64 (x8_4 * (wrap64 (Int.tdiv x12_6 x8_4)))), .int .i64 1048576] rfl (by (try simp only [List.map_toArray, List.map_cons, List.map_nil]); first | done | rfl | (simp only [List.length_drop, List.length_take]; rfl)) ?_; (with_reducible refine (serinetteref08_Down.calls (wrap64 (x8_4 * (wrap64 (Int.tdiv x12_6 x8_4)))) 1048576 t212 _ A63.out).mono ?_); rintro e w' ⟨rfl, ⟨nd, rfl⟩⟩; refine ⟨_, rfl, ?_⟩) | ((with_reducible refine gate_callee (f := 21) rfl ?_); refine goesL_ (some 161) rfl rfl Try.func21 (by kernel_rfl) rfl #[.int .i64 (wrap64 (t212 * (wrap64 (Int.tdiv x12_6 x8_4)))), .int .i64 1048576] rfl (by (try simp only [List.map_toArray, List.map_cons, List.map_nil]); first | done | rfl | (simp only [List.length_drop, List.length_take]; rfl)) ?_; (with_reducible refine (serinetteref08_Down.calls (wrap64 (t212 * (wrap64 (Int.tdiv x12_6 x8_4)))) 1048576 t213 _ A64.out).mono ?_); rintro e w' ⟨rfl, ⟨nd, rfl⟩⟩; refine ⟨_, rfl, ?_⟩))
                                                                            go_roundg k9
                                                                            case measure => have := HJ2.out; have := HK2.out; have := HK3.out; have := HK4.out; have := HJ18.out; have := HK6.out; have := HJ33.out; have := HK8.out; have := HK9.out; omega
                                                                            case rel => exact ⟨(wrap64 (x8_4 - t213)), (y194), (y209), (wrap64 (x11_4 + 1)), (by first | rfl | (simp; done) | (simp only [i64_w, i32_w]; done) | (simp [*]; done) | (simp only [i64_w, i32_w]; first | rfl | (simp; done) | (simp [*]; done))), (by first | rfl | (simp; done) | (simp only [i64_w, i32_w]; done) | (simp [*]; done) | (simp only [i64_w, i32_w]; first | rfl | (simp; done) | (simp [*]; done))), H', ⟨by have := HJ2.out; have := HK2.out; have := HK3.out; have := HK4.out; have := HJ18.out; have := HK6.out; have := HJ33.out; have := HK8.out; have := HK9.out; omega⟩, ⟨by (with_reducible repeat (first | apply Kd.R_alloc | apply Kd.R_drewN | apply Kd.R_drew)); exact Kd.R_mono HO_6.out (fun _ hk => hk.1)⟩, ⟨by (with_reducible repeat (first | apply Kd.R_alloc | apply Kd.R_drewN | apply Kd.R_drew)); exact Kd.R_mono HO_9.out (fun _ hk => hk.1)⟩, ⟨by (with_reducible repeat (first | apply Kd.S_alloc | apply Kd.S_drewN | apply Kd.S_drew)); exact HO211.out⟩, ⟨by repeat (first | (with_reducible first | exact HB.out | apply below_alloc | apply pw_below_drewN | apply below_drew1) | exact HB.out)⟩⟩
                                                                        · rw [if_neg c62] at H
                                                                          exact absurd H (by simp)
                                                                      · rw [if_neg c61] at H
                                                                        exact absurd H (by simp)
                                                                    · rw [if_neg c60] at H
                                                                      exact absurd H (by simp)
                                                            · rw [if_neg c50] at H
                                                              exact absurd H (by simp)
                                      · rw [if_neg c24] at H
                                        exact absurd H (by simp)
                                    · rw [if_neg c23] at H
                                      exact absurd H (by simp)
                                  · replace c22 := Bool.eq_false_iff.mpr c22
                                    subst c22
                                    have H1 : (some x10_4) = some r := by rw [if_neg (show ¬ (false = true) by decide)] at H; exact H
                                    clear H
                                    have H := H1
                                    clear H1
                                    obtain rfl := Option.some.inj H
                                    go_wp2
                                    go_ret
                                    exact ⟨_, by first | rfl | (simp [errW_none, errW_some] <;> rfl) | (simp [*, errW_none, errW_some] <;> rfl), by (with_reducible repeat (first | apply Kd.S_alloc | apply Kd.S_drewN | apply Kd.S_drew)); exact Kd.S_mono HO_10.out (fun _ hk => trivial), by repeat (first | (with_reducible first | exact HB.out | apply below_alloc | apply pw_below_drewN | apply below_drew1) | exact HB.out)⟩
                        · rw [if_neg c15] at H
                          exact absurd H (by simp)
            · rw [if_neg c7] at H
              exact absurd H (by simp)

end Go.Proofs.Ythcognclnmcbhaa.PA
