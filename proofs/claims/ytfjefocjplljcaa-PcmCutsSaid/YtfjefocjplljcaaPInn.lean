/- What pcm.In and the reference's In answer: is a number in a depth. Condition: numbers of 64 bits, depths up to 62. -/
import Derived.Test.YtfjefocjplljcaaPL
import Derived.Test.YtfjefocjplljcaaPAx1
import Derived.Test.YtfjefocjplljcaaPAx3
namespace Go.Proofs.Ytfjefocjplljcaa.PL
open Go.RowKit Go.Proofs.Ytfjefocjplljcaa.PA Go.Proofs.YtfjefocjplljcaaW.PrintWords Go.Proofs.YtfjefocjplljcaaW.PrintMore
set_option linter.unusedVariables false
set_option linter.unusedSimpArgs false
theorem shr_eq' (x : Int) {s : Nat} (h : s ≤ 64) : shr .i64 x (s : Int) = x / 2 ^ s := by
  unfold shr
  rw [Int.toNat_natCast, show min s IntKind.i64.bits = s by simp [IntKind.bits]; omega]
/-- Is a number in a depth? -/
def inn (n : Int) (w : Nat) : Prop := 1 ≤ w ∧ -(2 ^ (w - 1)) ≤ n ∧ n < 2 ^ (w - 1)
instance (n : Int) (w : Nat) : Decidable (inn n w) := by unfold inn; infer_instance
theorem inn_eq (n : Int) (w : Nat) (hw : w ≤ 62) (h : -9223372036854775808 ≤ n ∧ n < 9223372036854775808) : pcm_In.f n (w : Int) = some (decide (inn n w)) := by
  unfold pcm_In.f
  by_cases h1 : (w : Int) < 1
  · rw [if_pos h1]; congr 1; exact (decide_eq_false (fun h => by have := h.1; omega)).symm
  · have e : (w : Int) - 1 = ((w - 1 : Nat) : Int) := by omega
    rw [if_neg h1, if_neg (by omega), e, w64 (by omega) (by omega), if_pos (by omega), shr_eq' n (by omega)]
    have hp : (0 : Int) < 2 ^ (w - 1) := Int.pow_pos (by decide)
    have iff0 : n / 2 ^ (w - 1) = 0 ↔ 0 ≤ n ∧ n < 2 ^ (w - 1) := by
      constructor
      · intro h0
        have := Int.mul_ediv_add_emod n (2 ^ (w - 1))
        rw [h0, Int.mul_zero, Int.zero_add] at this
        have h2 := Int.emod_nonneg n (Int.ne_of_gt hp); have h3 := Int.emod_lt_of_pos n hp
        omega
      · intro h0; exact Int.ediv_eq_zero_of_lt h0.1 h0.2
    have iff1 : n / 2 ^ (w - 1) = -1 ↔ -(2 ^ (w - 1)) ≤ n ∧ n < 0 := by
      constructor
      · intro h0
        have := Int.mul_ediv_add_emod n (2 ^ (w - 1))
        rw [h0] at this
        have h2 := Int.emod_nonneg n (Int.ne_of_gt hp); have h3 := Int.emod_lt_of_pos n hp
        omega
      · intro h0
        refine ((Int.ediv_emod_unique (r := n + 2 ^ (w - 1)) (q := -1) hp).2 ⟨by omega, by omega, by omega⟩).1
    by_cases h0 : n / 2 ^ (w - 1) = 0
    · rw [if_pos h0]
      congr 1
      exact (decide_eq_true (by have := iff0.1 h0; exact ⟨by omega, by omega, by omega⟩)).symm
    · rw [if_neg h0]
      congr 1
      by_cases h2 : n / 2 ^ (w - 1) = -1
      · rw [h2]
        exact (decide_eq_true (by have := iff1.1 h2; exact ⟨by omega, by omega, by omega⟩)).symm
      · rw [beq_eq_false_iff_ne.2 h2]
        refine (decide_eq_false (fun hi => ?_)).symm
        rcases Int.lt_or_le n 0 with h3 | h3
        · exact h2 (iff1.2 ⟨hi.2.1, h3⟩)
        · exact h0 (iff0.2 ⟨h3, hi.2.2⟩)
theorem inn_succ {n : Int} {w : Nat} (h : inn n w) : inn n (w + 1) := by
  obtain ⟨h1, h2, h3⟩ := h
  have e : (2 : Int) ^ (w + 1 - 1) = 2 ^ (w - 1) * 2 := by rw [show w + 1 - 1 = (w - 1) + 1 by omega, Int.pow_succ]
  have hp : (0 : Int) < 2 ^ (w - 1) := Int.pow_pos (by decide)
  exact ⟨by omega, by rw [e]; omega, by rw [e]; omega⟩
theorem pow_bd' : ∀ n : Nat, n ≤ 62 → (1 : Int) ≤ 2 ^ n ∧ (2 : Int) ^ n ≤ 4611686018427387904
  | 0, _ => by decide
  | n + 1, h => by
    constructor
    · have := (pow_bd' n (by omega)).1; rw [Int.pow_succ]; omega
    · have h1 : (2 : Int) ^ (n + 1) ≤ 2 ^ 62 := by
        have : (2 : Nat) ^ (n + 1) ≤ 2 ^ 62 := Nat.pow_le_pow_right (by decide) h
        exact_mod_cast this
      exact h1
theorem power6_ev (n : Nat) (hn : n ≤ 62) : Ev (fun k => serinetteref06_Power.f k (n : Int)) ((2 : Int) ^ n) := by
  have key : ∀ d i, i + d = n → Ev (fun k => serinetteref06_Power.l0 k (n : Int) ((2 : Int) ^ i) (i : Int)) ((2 : Int) ^ n) := by
    intro d
    induction d with
    | zero =>
      intro i hi
      obtain rfl : i = n := by omega
      refine succ ?_
      simp only [serinetteref06_Power.l0]
      exact neg (by omega) (now _)
    | succ d ih =>
      intro i hi
      refine succ ?_
      simp only [serinetteref06_Power.l0]
      have hb := pow_bd' (i + 1) (by omega)
      have e : 2 * (2 : Int) ^ i = 2 ^ (i + 1) := by rw [Int.pow_succ, Int.mul_comm]
      rw [e, w64 (x := (2 : Int) ^ (i + 1)) (by omega) (by omega), w64 (x := (i : Int) + 1) (by omega) (by omega)]
      exact pos (by omega) (ih (i + 1) (by omega))
  exact key n 0 (by omega)
theorem ref_in_ev (n : Int) (w : Nat) (hw : w ≤ 62) : Ev (fun k => serinetteref06_In.f k n (w : Int)) (decide (inn n w)) := by
  unfold serinetteref06_In.f
  by_cases h1 : (w : Int) < 1
  · exact pos h1 (cst (by rw [decide_eq_false (fun h => by have := h.1; omega)]))
  · refine neg h1 (neg (by omega) ?_)
    have e : (w : Int) - 1 = ((w - 1 : Nat) : Int) := by omega
    have hb := pow_bd' (w - 1) (by omega)
    rw [e, w64 (by omega) (by omega)]
    refine bnd (power6_ev (w - 1) (by omega)) ?_
    rw [w64 (by omega) (by omega)]
    by_cases h2 : n ≥ -(2 ^ (w - 1))
    · exact pos h2 (cst (by congr 1; exact decide_eq_decide.2 ⟨fun h => ⟨by omega, h2, h⟩, fun h => h.2.2⟩))
    · exact neg h2 (cst (by rw [decide_eq_false (fun h => h2 h.2.1)]))
end Go.Proofs.Ytfjefocjplljcaa.PL
