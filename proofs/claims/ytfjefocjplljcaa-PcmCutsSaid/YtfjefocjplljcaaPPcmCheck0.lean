/- What pcm.Check answers. Condition: up to a million channels and samples each. -/
import Derived.Test.YtfjefocjplljcaaPPcm
import Derived.Test.YtfjefocjplljcaaPAx3
namespace Go.Proofs.Ytfjefocjplljcaa.PL
open Go Go.RowKit Go.Proofs.Ytfjefocjplljcaa.PA Go.Proofs.YtfjefocjplljcaaW.PrintWords Go.Proofs.YtfjefocjplljcaaW.PrintMore
set_option linter.unusedVariables false
set_option linter.unusedSimpArgs false
theorem rdL1_at (l : List (List Int)) {j : Nat} (hj : j < l.length) : rd_L1 l (j : Int) = l[j] := by simp [rd_L1, List.getD_eq_getElem?_getD, List.getElem?_eq_getElem hj]
theorem rdL1_0 (l : List (List Int)) (hj : 0 < l.length) : rd_L1 l 0 = l[0] := rdL1_at l hj
theorem rdL1_mem (l : List (List Int)) {j : Nat} (hj : j < l.length) : rd_L1 l (j : Int) ∈ l := by rw [rdL1_at l hj]; exact List.getElem_mem hj
/-- Is a sound of a size that is looked at? -/
def fewB (l : List (List Int)) : Bool := decide ((∀ c ∈ l, c.length ≤ 50) ∧ l.length ≤ 10)
theorem few_ev (a b : Int) (l : List (List Int)) (hl : l.length ≤ 9223372036854775807) : Ev (fun k => serinetteref06_Few.f k a b l 50) (fewB l) := by
  have key : ∀ (d i : Nat), i + d = l.length → (∀ j, (hj : j < i) → (hl : j < l.length) → l[j].length ≤ 50) → Ev (fun k => serinetteref06_Few.l0 k 50 (i : Int) a b l) (fewB l) := by
    intro d
    induction d with
    | zero =>
      intro i hi hn
      refine succ ?_
      simp only [serinetteref06_Few.l0]
      refine neg (by omega) (cst ?_)
      congr 1
      unfold fewB
      refine decide_eq_decide.2 ⟨fun h => ⟨fun c hc => ?_, by omega⟩, fun h => by omega⟩
      obtain ⟨j, hj, rfl⟩ := List.getElem_of_mem hc
      exact hn j (by omega) hj
    | succ d ih =>
      intro i hi hn
      have hil : i < l.length := by omega
      have e1 : wrap64 ((i : Int) + 1) = ((i + 1 : Nat) : Int) := by rw [w64 (by omega) (by omega)]; omega
      refine succ ?_
      simp only [serinetteref06_Few.l0]
      rw [rdL1_at l hil, e1]
      refine pos (Int.ofNat_lt.2 hil) (pos (Int.natCast_nonneg _) ?_)
      by_cases h : ((l[i].length : Nat) : Int) > 50
      · refine pos h (cst ?_)
        congr 1
        unfold fewB
        exact (decide_eq_false (fun q => by have := q.1 _ (List.getElem_mem hil); omega)).symm
      · refine neg h (ih (i + 1) (by omega) (fun j hj hl2 => ?_))
        by_cases hji : j = i
        · subst hji; omega
        · exact hn j (by omega) hl2
  exact key l.length 0 (by omega) (fun j hj _ => by omega)
/-- What is wrong with the numbers. -/
def wrongV (a b n : Int) : Int := if n < 1 ∨ n > 8 then 12 else if b < 4 ∨ b > 32 then 10 else if a < 1 ∨ a > 1048575 then 11 else 0
theorem kinds_eq (a b n : Int) (k : Nat) : pcm_kinds.f (k + 5) a b n = some (wrongV a b n) := by
  unfold pcm_kinds.f wrongV
  by_cases h1 : n < 1
  · rw [if_pos h1, if_pos (Or.inl h1)]; rfl
  · rw [if_neg h1]
    by_cases h2 : n > 8
    · rw [decide_eq_true h2, if_pos (Or.inr h2)]; rfl
    · rw [decide_eq_false h2, if_neg (by omega)]
      simp only [pcm_kinds.j0]
      rw [if_neg Bool.false_ne_true]
      by_cases h3 : b < 4
      · rw [if_pos h3, if_pos (Or.inl h3)]; rfl
      · rw [if_neg h3]
        by_cases h4 : b > 32
        · rw [decide_eq_true h4, if_pos (Or.inr h4)]; rfl
        · rw [decide_eq_false h4, if_neg (by omega)]
          simp only [pcm_kinds.j1]
          rw [if_neg Bool.false_ne_true]
          by_cases h5 : a < 1
          · rw [if_pos h5, if_pos (Or.inl h5)]
          · rw [if_neg h5]
            by_cases h6 : a > 1048575
            · rw [if_pos h6, if_pos (Or.inr h6)]
            · rw [if_neg h6, if_neg (by omega)]
/-- What is wrong with a sound. -/
def checkV (a b : Int) (l : List (List Int)) : Int :=
  if wrongV a b l.length ≠ 0 then wrongV a b l.length else if l.all (fun c => c.length == (rd_L1 l 0).length) = true then (if l.all (fun c => c.all fun x => inI x b) = true then 0 else 6) else 13
theorem pcmAll_mem {l : List (List Int)} {m : Nat} (hm : ∀ c ∈ l, c.length = m) (x : Int) : x ∈ pcmAll l m ↔ ∃ c ∈ l, x ∈ c := by
  unfold pcmAll pcmPre
  constructor
  · intro h
    obtain ⟨i, hi, h⟩ := List.mem_flatMap.1 h
    obtain ⟨j, hj, rfl⟩ := List.mem_map.1 h
    rw [List.mem_range] at hi hj
    refine ⟨_, rdL1_mem l hj, rd_mem (Int.natCast_nonneg _) ?_⟩
    rw [hm _ (rdL1_mem l hj)]
    exact Int.ofNat_lt.2 hi
  · rintro ⟨c, hc, hx⟩
    obtain ⟨j, hj, rfl⟩ := List.getElem_of_mem hc
    obtain ⟨i, hi, rfl⟩ := List.getElem_of_mem hx
    refine List.mem_flatMap.2 ⟨i, List.mem_range.2 (by rw [← hm _ hc]; exact hi), List.mem_map.2 ⟨j, List.mem_range.2 hj, ?_⟩⟩
    rw [rdL1_at l hj, rd_lt (Int.natCast_nonneg _) (Int.ofNat_lt.2 hi)]
    rfl
theorem check_big (a b : Int) (l : List (List Int)) (hf : (∀ c ∈ l, c.length ≤ 1000000) ∧ l.length ≤ 1000000) (hw : ∀ c ∈ l, ∀ x ∈ c, -9223372036854775808 ≤ x ∧ x < 9223372036854775808) : pcm_Check.f a b l = some (checkV a b l) := by
  unfold pcm_Check.f checkV
  rw [kinds_eq a b _ 0, bsome]
  by_cases h0 : wrongV a b (l.length : Int) = 0
  · rw [if_pos h0, if_neg (fun q => q h0), many_eq, bsome]
    cases hu0 : l.all (fun c => c.length == (rd_L1 l 0).length) with
    | true =>
      have hu : ∀ c ∈ l, c.length = (rd_L1 l 0).length := fun c hc => by simpa using List.all_eq_true.1 hu0 c hc
      have hm50 : (rd_L1 l 0).length ≤ 1000000 := by
        cases l with
        | nil => exact Nat.zero_le _
        | cons c t => exact Nat.le_trans (hf.1 _ (rdL1_mem (c :: t) (j := 0) (by simp))) (by omega)
      rw [if_neg (by rw [Bool.not_eq_true, List.any_eq_false]; intro c hc; simp [hu c hc]), if_pos ⟨by omega, by omega⟩, Int.toNat_natCast, if_pos rfl]
      congr 1
      cases hi0 : l.all (fun c => c.all fun x => inI x b) with
      | true =>
        rw [if_pos rfl, if_neg]
        rw [Bool.not_eq_true, List.any_eq_false]
        intro x hx
        obtain ⟨c, hc, hxc⟩ := (pcmAll_mem hu x).1 hx
        rw [in_eq x b (hw c hc x hxc)]
        simp [List.all_eq_true.1 (List.all_eq_true.1 hi0 c hc) x hxc]
      | false =>
        rw [if_neg Bool.false_ne_true, if_pos]
        rw [List.any_eq_true]
        obtain ⟨c, hc, hcb⟩ := List.all_eq_false.1 hi0
        rw [Bool.not_eq_true] at hcb
        obtain ⟨x, hx, hb⟩ := List.all_eq_false.1 hcb
        rw [Bool.not_eq_true] at hb
        exact ⟨x, (pcmAll_mem hu x).2 ⟨c, hc, hx⟩, by rw [in_eq x b (hw c hc x hx), hb]; rfl⟩
    | false =>
      rw [if_pos, if_neg Bool.false_ne_true]
      rw [List.any_eq_true]
      obtain ⟨c, hc, h⟩ := List.all_eq_false.1 hu0
      refine ⟨c, hc, bne_iff_ne.2 (fun q => h ?_)⟩
      rw [beq_iff_eq]
      exact Int.ofNat_inj.1 q
  · rw [if_neg h0, if_pos h0]
theorem check_eq (a b : Int) (l : List (List Int)) (hf : (∀ c ∈ l, c.length ≤ 50) ∧ l.length ≤ 10) (hw : ∀ c ∈ l, ∀ x ∈ c, -9223372036854775808 ≤ x ∧ x < 9223372036854775808) : pcm_Check.f a b l = some (checkV a b l) :=
  check_big a b l ⟨fun c hc => Nat.le_trans (hf.1 c hc) (by decide), Nat.le_trans hf.2 (by decide)⟩ hw
theorem wrongV_0 {a b n : Int} (h : wrongV a b n = 0) : (1 ≤ n ∧ n ≤ 8) ∧ (4 ≤ b ∧ b ≤ 32) ∧ (1 ≤ a ∧ a ≤ 1048575) := by
  unfold wrongV at h
  by_cases h1 : n < 1 ∨ n > 8
  · rw [if_pos h1] at h; omega
  · rw [if_neg h1] at h
    by_cases h2 : b < 4 ∨ b > 32
    · rw [if_pos h2] at h; omega
    · rw [if_neg h2] at h
      by_cases h3 : a < 1 ∨ a > 1048575
      · rw [if_pos h3] at h; omega
      · omega
theorem checkV_0 {a b : Int} {l : List (List Int)} (h : checkV a b l = 0) : wrongV a b l.length = 0 ∧ (∀ c ∈ l, c.length = (rd_L1 l 0).length) ∧ ∀ c ∈ l, ∀ x ∈ c, inI x b = true := by
  unfold checkV at h
  by_cases h0 : wrongV a b l.length = 0
  · rw [if_neg (fun q => q h0)] at h
    cases h1 : l.all (fun c => c.length == (rd_L1 l 0).length) with
    | false => rw [h1, if_neg Bool.false_ne_true] at h; exact absurd h (by decide)
    | true =>
      rw [h1, if_pos rfl] at h
      cases h2 : l.all (fun c => c.all fun x => inI x b) with
      | false => rw [h2, if_neg Bool.false_ne_true] at h; exact absurd h (by decide)
      | true =>
        refine ⟨h0, fun c hc => by simpa using List.all_eq_true.1 h1 c hc, fun c hc x hx => List.all_eq_true.1 (List.all_eq_true.1 h2 c hc) x hx⟩
  · rw [if_pos h0] at h
    exact absurd h h0
end Go.Proofs.Ytfjefocjplljcaa.PL
