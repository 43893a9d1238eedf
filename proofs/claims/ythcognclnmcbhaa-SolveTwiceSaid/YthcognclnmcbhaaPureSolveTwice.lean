/- SolveTwice: twice as much, if it is much, has the same factors. For every input (the law's own guards are in it). -/
import Derived.Test.YthcognclnmcbhaaPAx19
import Derived.Test.YthcognclnmcbhaaPSolveMore
namespace Go.Proofs.Ythcognclnmcbhaa.Pure
open Go.RowKit Go.Proofs.Ythcognclnmcbhaa.PA Go.Proofs.YthcognclnmcbhaaW.PrintWords Go.Proofs.YthcognclnmcbhaaW.PrintLast Go.Proofs.Ythcognclnmcbhaa.PL
set_option linter.unusedVariables false
def dbl (l : List Int) : List Int := l.map fun x => 2 * x
theorem dbl_div (x : Int) (s : Nat) : 2 * x / 2 ^ (s + 1) = x / 2 ^ s := by
  rw [Int.pow_succ, Int.mul_comm (2 ^ s) 2, Int.mul_ediv_mul_of_pos _ _ (by decide)]
theorem sh_dbl_go (x : Int) : ∀ (d s : Nat), shGo (2 * x) d (s + 1) = shGo x d s + 1
  | 0, s => rfl
  | d + 1, s => by
    simp only [shGo, dbl_div]
    split
    · exact sh_dbl_go x d (s + 1)
    · rfl
theorem sh_fuel (x : Int) : ∀ (d s : Nat), x / 2 ^ (s + d) < 1073741824 → shGo x (d + 1) s = shGo x d s
  | 0, s, h => by
    rw [Nat.add_zero] at h
    simp only [shGo]
    rw [if_neg (by omega)]
  | d + 1, s, h => by
    show (if x / 2 ^ s ≥ 1073741824 then shGo x (d + 1) (s + 1) else s) = (if x / 2 ^ s ≥ 1073741824 then shGo x d (s + 1) else s)
    rw [sh_fuel x d (s + 1) (by rw [show s + 1 + d = s + (d + 1) by omega]; exact h)]
theorem sh_dbl (x : Int) (h : 536870912 ≤ x) (h2 : x ≤ 4611686018427387904) : sh (2 * x) = sh x + 1 := by
  unfold sh
  have e : shGo (2 * x) 34 0 = shGo (2 * x) 33 1 := by
    show (if 2 * x / 2 ^ 0 ≥ 1073741824 then shGo (2 * x) 33 (0 + 1) else 0) = _
    rw [if_pos (by simp; omega)]
  have f : x / 2 ^ (0 + 33) < 1073741824 := by
    have e : (2 : Int) ^ (0 + 33) = 8589934592 := by decide
    rw [e]; omega
  rw [e, sh_dbl_go, sh_fuel x 33 0 f]
theorem solve_dbl (r : List Int) (o : Int) (h0 : 0 < r.length) (h : 536870912 ≤ rd r 0) (h2 : rd r 0 ≤ 4611686018427387904) : solveV (dbl r) o = solveV r o := by
  have r0 : rd (dbl r) 0 = 2 * rd r 0 := by cases r with
    | nil => simp at h0
    | cons a t => simp [dbl, rd]
  have hs : ∀ s, shL (dbl r) (s + 1) = shL r s := fun s => by simp [shL, dbl, dbl_div]
  unfold solveV
  rw [r0, sh_dbl _ h h2, hs, dbl_div]
  have hl : ((dbl r).length : Int) = r.length := by simp [dbl]
  rw [if_neg (show ¬ (((dbl r).length : Int) = 0 ∨ 2 * rd r 0 < 1) by omega), if_neg (by omega)]
theorem SolveTwice : serinettelaw10_SolveTwice.Pure := by
  intro l0 a1 h1 h2 hw hu
  have hu := wfu8 hu
  refine Ev.rounds ?_
  unfold serinettelaw10_SolveTwice.f
  have out : Ev (fun k => serinettelaw10_SolveTwice.j0 k l0 a1 true true) true := by
    refine succ ?_
    simp only [serinettelaw10_SolveTwice.j0]
    exact pos trivial (cst rfl)
  refine bnd awake_ev (bnd (right_ev l0 (by omega) (fun x hx => wf64 (hw x hx))) ?_)
  by_cases hl : (l0.length : Int) > 40
  · exact pos hl out
  · refine neg hl ?_
    by_cases hz : (l0.length : Int) = 0
    · exact pos hz out
    · refine neg hz ?_
      by_cases hr : RightP l0
      · have e : (!decide (RightP l0)) = false := by simp [hr]
        rw [e]
        obtain ⟨q1, q2, q3⟩ := hr (by omega)
        have out1 : Ev (fun k => serinettelaw10_SolveTwice.j1 k l0 a1 true true) true := by
          refine succ ?_
          simp only [serinettelaw10_SolveTwice.j1]
          exact pos trivial (cst rfl)
        refine succ ?_
        simp only [serinettelaw10_SolveTwice.j0]
        refine neg (by decide) (pos (by omega) ?_)
        by_cases c1 : rd l0 0 < 536870912
        · exact pos c1 out1
        · refine neg c1 ?_
          by_cases c2 : rd l0 0 > 2305843009213693952
          · rw [decide_eq_true c2]; exact out1
          · rw [decide_eq_false c2]
            refine succ ?_
            simp only [serinettelaw10_SolveTwice.j1]
            refine neg (by decide) ?_
            have key : ∀ (t p : List Int), l0 = p ++ t → Ev (fun k => serinettelaw10_SolveTwice.l0 k l0 a1 true (dbl p) (p.length : Int)) true := by
              intro t
              induction t with
              | nil =>
                intro p hp
                rw [List.append_nil] at hp
                subst hp
                refine succ ?_
                simp only [serinettelaw10_SolveTwice.l0]
                rw [w64 (x := a1) (by omega) (by omega)]
                have r0 : rd (dbl l0) 0 = 2 * rd l0 0 := by cases l0 with
                  | nil => simp at hz
                  | cons a t => simp [dbl, rd]
                have hs1 := solve_ev (dbl l0) a1 (by simp [dbl]; omega) (by rw [r0]; omega)
                rw [solve_dbl l0 a1 (by omega) (by omega) (by omega)] at hs1
                exact neg (by omega) (pos (by trivial) (bnd hs1 (bnd (solve_ev l0 a1 (by omega) (by omega)) (bnd (same_solve l0 a1) (now true)))))
              | cons x t ih =>
                intro p hp
                have l1 := congrArg List.length hp
                simp only [List.length_append, List.length_cons] at l1
                refine succ ?_
                simp only [serinettelaw10_SolveTwice.l0]
                have ra : rd l0 (p.length : Int) = x := by rw [hp]; exact rd_at _ _ _
                have hx := q3 x (by rw [hp]; simp)
                rw [ra, w64 (x := 2 * x) (by omega) (by omega), w64 (x := (p.length : Int) + 1) (by omega) (by omega)]
                refine pos (by omega) (pos (by omega) (pos (by simp [dbl]; omega) ?_))
                have := ih (p ++ [x]) (by simp [hp])
                simpa [dbl] using this
            exact key l0 [] rfl
      · have e : (!decide (RightP l0)) = true := by simp [hr]
        rw [e]; exact out
end Go.Proofs.Ythcognclnmcbhaa.Pure
