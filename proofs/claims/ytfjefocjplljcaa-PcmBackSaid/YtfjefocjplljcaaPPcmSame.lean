/- A sound is the same as itself. Condition: lists shorter than 2^60. -/
import Derived.Test.YtfjefocjplljcaaPPcmUnbytes
import Derived.Test.YtfjefocjplljcaaPInts
import Derived.Test.YtfjefocjplljcaaPSame
import Derived.Test.YtfjefocjplljcaaPAx11
namespace Go.Proofs.Ytfjefocjplljcaa.PL
open Go Go.RowKit Go.Proofs.Ytfjefocjplljcaa.PA Go.Proofs.YtfjefocjplljcaaW.PrintWords Go.Proofs.YtfjefocjplljcaaW.PrintLast Go.Proofs.YtfjefocjplljcaaW.PrintMore
set_option linter.unusedSimpArgs false
set_option linter.unusedVariables false
theorem same6_ev (a b : Int) (l : List (List Int)) (hl : l.length < 1152921504606846976) (hc : ∀ c ∈ l, c.length < 1152921504606846976) : Ev (fun k => serinetteref06_Same.f k a b l a b l) true := by
  have key : ∀ (d i : Nat), i + d = l.length → Ev (fun k => serinetteref06_Same.l0 k (i : Int) a b l a b l) true := by
    intro d
    induction d with
    | zero =>
      intro i hi
      refine succ ?_
      simp only [serinetteref06_Same.l0]
      exact neg (by omega) (now true)
    | succ d ih =>
      intro i hi
      have hil : i < l.length := by omega
      have h := ints_ev (rd_L1 l (i : Int)) (rd_L1 l (i : Int)) (hc _ (rdL1_mem l hil))
      rw [decide_eq_true rfl] at h
      have e1 : wrap64 ((i : Int) + 1) = ((i + 1 : Nat) : Int) := w64n (a := i + 1) (by omega)
      refine succ ?_
      simp only [serinetteref06_Same.l0]
      rw [e1]
      exact pos (Int.ofNat_lt.2 hil) (pos (Int.natCast_nonneg _) (pos (Int.ofNat_lt.2 hil) (bnd h (pos rfl (ih (i + 1) (by omega))))))
  unfold serinetteref06_Same.f
  refine pos rfl (pos rfl (succ ?_))
  simp only [serinetteref06_Same.j0]
  refine neg (by simp) ?_
  exact key l.length 0 (by omega)
theorem checkV_0 {a b : Int} {l : List (List Int)} (h : checkV a b l = 0) : wrongV a b l.length = 0 ∧ (∀ c ∈ l, c.length = (rd_L1 l 0).length) ∧ ∀ c ∈ l, ∀ x ∈ c, inI x b = true := by
  unfold checkV at h
  by_cases h0 : wrongV a b l.length = 0
  · rw [if_neg (fun q => q h0)] at h
    cases h1 : l.all (fun c => c.length == (rd_L1 l 0).length) with
    | false => rw [h1, if_neg Bool.false_ne_true] at h; exact absurd h (by decide)
    | true =>
      rw [h1, if_pos rfl] at h
      cases h2 : l.all (fun c => c.all fun x => inI x b) with
      | false => rw [h2, if_neg Bool.false_ne_true] at h; exact absurd h (by decide)
      | true =>
        refine ⟨h0, fun c hc => by simpa using List.all_eq_true.1 h1 c hc, fun c hc x hx => List.all_eq_true.1 (List.all_eq_true.1 h2 c hc) x hx⟩
  · rw [if_pos h0] at h
    exact absurd h h0
theorem goU_len {s : Nat → Int} {ch : Nat} {d : Int} (hch : 0 < ch) : ∀ (r i : Nat) (rows out : List (List Int)), rows.length = ch → (∀ c ∈ rows, c.length ≤ i) → goU s ch d r i rows = some out → out.length = ch ∧ ∀ c ∈ out, c.length ≤ i + r
  | 0, i, rows, out, hr, hc, h => by
    simp only [goU, Option.some.injEq] at h
    subst h
    exact ⟨hr, hc⟩
  | r + 1, i, rows, out, hr, hc, h => by
    simp only [goU] at h
    by_cases hi : inI (s i) d = true
    · rw [if_pos hi] at h
      have hrl := rows_len hch hr hc (s i)
      have h2 := goU_len hch r (i + 1) _ out hrl.1 hrl.2 h
      exact ⟨h2.1, fun c hcm => by have := h2.2 c hcm; omega⟩
    · rw [if_neg hi] at h
      exact absurd h (by simp)
theorem unbV_len (b : List Int) (rate d ch : Int) (hl : b.length ≤ 5000) : (unbV b rate d ch).2.2.1.length ≤ 8 ∧ ∀ c ∈ (unbV b rate d ch).2.2.1, c.length ≤ 5000 := by
  unfold unbV
  by_cases h0 : wrongV rate d ch = 0
  · rw [if_neg (fun q => q h0)]
    have hw := wrongV_0 h0
    by_cases h1 : b.length % (eachN d * ch.toNat) = 0
    · rw [if_neg (fun q => q h1)]
      cases hg : goU (sv b (eachN d)) ch.toNat d (b.length / eachN d) 0 (List.replicate ch.toNat []) with
      | none => exact ⟨Nat.zero_le _, fun c hc => by simp [outU] at hc⟩
      | some rows =>
        have h2 := goU_len (show 0 < ch.toNat by omega) _ _ _ _ (by simp) (fun c hc => by rw [(List.mem_replicate.1 hc).2]; exact Nat.le_refl _) hg
        have h3 := Nat.div_le_self b.length (eachN d)
        exact ⟨by show rows.length ≤ 8; omega, fun c hc => by have := h2.2 c hc; omega⟩
    · rw [if_pos h1]
      exact ⟨Nat.zero_le _, fun c hc => by simp at hc⟩
  · rw [if_pos h0]
    exact ⟨Nat.zero_le _, fun c hc => by simp at hc⟩
end Go.Proofs.Ytfjefocjplljcaa.PL
