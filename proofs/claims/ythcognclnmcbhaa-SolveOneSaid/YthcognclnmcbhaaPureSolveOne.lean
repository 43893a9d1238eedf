/- SolveOne: the first factor is how alike the next one is, by the whole; one that is as much as the first number has none. For every input. -/
import Derived.Test.YthcognclnmcbhaaPAx20
import Derived.Test.YthcognclnmcbhaaPSolveMore
namespace Go.Proofs.Ythcognclnmcbhaa.Pure
open Go.RowKit Go.Proofs.Ythcognclnmcbhaa.PA Go.Proofs.YthcognclnmcbhaaW.PrintWords Go.Proofs.YthcognclnmcbhaaW.PrintLast Go.Proofs.YthcognclnmcbhaaW.PrintMore Go.Proofs.Ythcognclnmcbhaa.PL
set_option linter.unusedVariables false
theorem one_core (a b : Int) (ha : 1 ≤ a ∧ a < 1073741824) (hb : -a ≤ b ∧ b ≤ a) : solveV [a, b] 1 = if b = a ∨ b = -a then [] else [[(b * 1048576).tdiv a]] := by
  have hs : sh a = 0 := by
    unfold sh
    show (if a / 2 ^ 0 ≥ 1073741824 then shGo a 33 (0 + 1) else 0) = 0
    rw [if_neg (by simp; omega)]
  have r0 : rd [a, b] 0 = a := rfl
  have hl : shL [a, b] 0 = [a, b] := by simp [shL]
  have hm : mn 1 32 = 1 := by unfold mn; rfl
  unfold solveV
  rw [r0, if_neg (by simp; omega), hs, hl, hm]
  have e0 : a / 2 ^ 0 = a := by simp
  rw [e0]
  have hsum : sumA [] [a, b] 1 ([] : List Int).length = b * 1048576 := by
    show wrap64 (b * 1048576) = _
    exact w64 (by omega) (by omega)
  have tb := Int.mul_tdiv_add_tmod (b * 1048576) a
  have t1 := Int.tmod_lt_of_pos (b * 1048576) (show 0 < a by omega)
  have t2 := Int.lt_tmod_of_pos (b * 1048576) (show 0 < a by omega)
  show (if ((1 : Nat) : Int) < (([a, b] : List Int).length : Int) ∧ ((1 : Nat) : Int) ≤ 1 then _ else _) = _
  rw [if_pos (by simp), hsum]
  generalize hq : (b * 1048576).tdiv a = q at tb ⊢
  have q1 : q ≤ 1048576 := by
    rcases Int.lt_or_le 1048576 q with h | h
    · have : a * 1048577 ≤ a * q := Int.mul_le_mul_of_nonneg_left (by omega) (by omega)
      omega
    · exact h
  have q2 : -1048576 ≤ q := by
    rcases Int.lt_or_le q (-1048576) with h | h
    · have : a * q ≤ a * (-1048577) := Int.mul_le_mul_of_nonneg_left (by omega) (by omega)
      omega
    · exact h
  rw [w64 (x := q) (by omega) (by omega)]
  have sp : 0 ≤ b → 0 ≤ (b * 1048576).tmod a := fun h => Int.tmod_nonneg a (by omega)
  have sn : b ≤ 0 → (b * 1048576).tmod a ≤ 0 := fun h => by
    have n1 : 0 ≤ (-(b * 1048576)).tmod a := Int.tmod_nonneg a (by omega)
    rw [Int.neg_tmod] at n1; omega
  have top : q = 1048576 ↔ b = a := by
    constructor
    · intro h; rw [h] at tb
      rcases Int.le_total 0 b with g | g
      · have := sp g; omega
      · have := sn g; omega
    · intro h
      rw [h, show a * 1048576 = 1048576 * a by omega, Int.mul_tdiv_cancel _ (by omega)] at hq
      exact hq.symm
  have bot : q = -1048576 ↔ b = -a := by
    constructor
    · intro h; rw [h] at tb
      rcases Int.le_total 0 b with g | g
      · have := sp g; omega
      · have := sn g; omega
    · intro h
      rw [h, show -a * 1048576 = (-1048576) * a by omega, Int.mul_tdiv_cancel _ (by omega)] at hq
      exact hq.symm
  by_cases hc : b = a ∨ b = -a
  · rw [if_pos hc, if_pos]
    rcases hc with h | h
    · have := top.2 h; omega
    · have := bot.2 h; omega
  · rw [if_neg hc, if_neg (fun h => hc (by
      rcases h with h | h
      · exact .inr (bot.1 (by omega))
      · exact .inl (top.1 (by omega))))]
    have hn : nextA [] q = [q] := rfl
    have hf : ([q] : List Int).any farB = false := by
      simp [farB]; omega
    rw [hn, if_neg (by rw [hf]; decide)]
    split
    · rfl
    · show (if ((2 : Nat) : Int) < (([a, b] : List Int).length : Int) ∧ ((2 : Nat) : Int) ≤ 1 then _ else _) = _
      rw [if_neg (by simp)]
      rfl
theorem SolveOne : serinettelaw10_SolveOne.Pure := by
  intro a0 a1 h0 h1
  have h0 := wfu32 h0; have h1 := wfi32 h1
  refine Ev.rounds ?_
  unfold serinettelaw10_SolveOne.f
  have ea : wrap64 (1 + wrap64 (Int.tmod a0 1073741823)) = 1 + a0 % 1073741823 := by
    rw [Int.tmod_eq_emod_of_nonneg h0.1, w64 (x := a0 % 1073741823) (by omega) (by omega), w64 (by omega) (by omega)]
  rw [ea]
  generalize hA : 1 + a0 % 1073741823 = a
  have ha : 1 ≤ a ∧ a < 1073741824 := by omega
  rw [w64 (x := a1) (by omega) (by omega), w64 (x := a + 1) (by omega) (by omega)]
  have t1 := Int.tmod_lt_of_pos a1 (show 0 < a + 1 by omega)
  have t2 := Int.lt_tmod_of_pos a1 (show 0 < a + 1 by omega)
  generalize hB : a1.tmod (a + 1) = b at t1 t2
  rw [w64 (x := -a) (by omega) (by omega), w64 (x := b * 1048576) (by omega) (by omega)]
  have hs := solve_ev [a, b] 1 (by simp) (by show a < _; omega)
  rw [one_core a b ha (by omega)] at hs
  refine bnd awake_ev (neg (by omega) (bnd hs ?_))
  by_cases c1 : b = a
  · rw [if_pos (show b = a ∨ b = -a from Or.inl c1)]
    exact pos c1 (pos rfl (cst rfl))
  · refine neg c1 ?_
    by_cases c2 : b = -a
    · rw [if_pos (show b = a ∨ b = -a from Or.inr c2)]
      exact pos c2 (pos rfl (cst rfl))
    · rw [if_neg (show ¬(b = a ∨ b = -a) from fun h => h.elim c1 c2)]
      have tb := Int.mul_tdiv_add_tmod (b * 1048576) a
      have u1 := Int.tmod_lt_of_pos (b * 1048576) (show 0 < a by omega)
      have u2 := Int.lt_tmod_of_pos (b * 1048576) (show 0 < a by omega)
      refine neg c2 (pos rfl (pos rfl (pos (by simp) (pos rfl (pos (by simp [rd_L1]) (neg (by omega) (cst ?_)))))))
      have eq : rd (rd_L1 [[(b * 1048576).tdiv a]] 0) 0 = (b * 1048576).tdiv a := rfl
      rw [eq]
      generalize hq : (b * 1048576).tdiv a = q at tb ⊢
      have q1 : q ≤ 1048576 := by
        rcases Int.lt_or_le 1048576 q with h | h
        · have : a * 1048577 ≤ a * q := Int.mul_le_mul_of_nonneg_left (by omega) (by omega)
          omega
        · exact h
      have q2 : -1048576 ≤ q := by
        rcases Int.lt_or_le q (-1048576) with h | h
        · have : a * q ≤ a * (-1048577) := Int.mul_le_mul_of_nonneg_left (by omega) (by omega)
          omega
        · exact h
      rw [w64 (x := q) (by omega) (by omega)]
      simp
end Go.Proofs.Ythcognclnmcbhaa.Pure
