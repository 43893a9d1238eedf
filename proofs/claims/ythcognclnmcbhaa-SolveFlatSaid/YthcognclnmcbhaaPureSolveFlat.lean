/- SolveFlat: where nothing is alike, all factors are 0, of each order; where the first one is 0 there are none. For every input. -/
import Derived.Test.YthcognclnmcbhaaPAx18
import Derived.Test.YthcognclnmcbhaaPSolveMore
namespace Go.Proofs.Ythcognclnmcbhaa.Pure
open Go.RowKit Go.Proofs.Ythcognclnmcbhaa.PA Go.Proofs.YthcognclnmcbhaaW.PrintWords Go.Proofs.YthcognclnmcbhaaW.PrintLast Go.Proofs.YthcognclnmcbhaaW.PrintMore Go.Proofs.Ythcognclnmcbhaa.PL
set_option linter.unusedVariables false
theorem rep_getD (n i : Nat) : (List.replicate n (0 : Int)).getD i 0 = 0 := by
  simp only [List.getD_eq_getElem?_getD, List.getElem?_replicate]; split <;> rfl
theorem w0 : wrap64 0 = 0 := by unfold wrap64; omega
theorem next_zero (n : Nat) : nextA (List.replicate n 0) 0 = List.replicate (n + 1) 0 := by
  unfold nextA
  have e : ∀ j, wrap64 ((List.replicate n (0 : Int)).getD j 0 - wrap64 (0 * (List.replicate n (0 : Int)).getD ((List.replicate n (0 : Int)).length - 1 - j) 0) / 1048576) = 0 := fun j => by
    rw [rep_getD, Int.zero_mul, w0]; simp [w0]
  rw [List.map_congr_left (g := fun _ => (0 : Int)) (fun j _ => e j), List.map_const', List.length_range, List.length_replicate, List.replicate_succ']
theorem sum_zero (a : List Int) (ha : ∀ i, a.getD i 0 = 0) (r : List Int) (m : Nat) (hr : r.getD m 0 = 0) : ∀ j, sumA a r m j = 0
  | 0 => by simp only [sumA]; rw [hr, Int.zero_mul, w0]
  | j + 1 => by simp only [sumA]; rw [sum_zero a ha r m hr j, ha, Int.zero_mul, w0]; exact w0
def zl (n : Nat) : List (List Int) := (List.range n).map fun i => List.replicate (i + 1) 0
theorem zl_succ (n : Nat) : zl (n + 1) = zl n ++ [List.replicate (n + 1) 0] := by simp [zl, List.range_succ]
theorem zl_len (n : Nat) : (zl n).length = n := by simp [zl]
theorem core_zero (r : List Int) (hr : ∀ i, 1 ≤ i → r.getD i 0 = 0) (lim : Int) (e : Int) (he : 1 ≤ e) (he2 : e < 9223372036854775808) : ∀ (d m : Nat), lim < (m : Int) + d → 1 ≤ m →
    ∃ n, coreR r lim d e (List.replicate (m - 1) 0) (zl (m - 1)) m = zl n ∧ (((m : Int) ≤ lim ∧ m < r.length → n = min lim.toNat (r.length - 1)) ∧ (¬ ((m : Int) ≤ lim ∧ m < r.length) → n = m - 1)) := by
  intro d
  induction d with
  | zero => intro m hm h1; exact ⟨m - 1, rfl, fun h => by omega, fun _ => rfl⟩
  | succ d ih =>
    intro m hm h1
    simp only [coreR]
    by_cases hc : (m : Int) < r.length ∧ (m : Int) ≤ lim
    · rw [if_pos hc]
      have hs := sum_zero (List.replicate (m - 1) 0) (rep_getD _) r m (hr m h1) (List.replicate (m - 1) (0 : Int)).length
      rw [hs, Int.zero_tdiv, w0, next_zero]
      have hf : (List.replicate (m - 1 + 1) (0 : Int)).any farB = false := by
        rw [List.any_eq_false]; intro x hx; rw [(List.mem_replicate.1 hx).2]; decide
      have hE : newE e 0 = e := by unfold newE; simp [w0]; exact w64 (by omega) he2
      rw [if_neg (by omega), if_neg (by rw [hf]; decide), hE, if_neg (by omega), ← zl_succ]
      obtain ⟨n, h2, h3, h4⟩ := ih (m + 1) (by omega) (by omega)
      rw [show m + 1 - 1 = m - 1 + 1 by omega] at h2
      refine ⟨n, h2, fun _ => ?_, fun h => absurd ⟨hc.2, by omega⟩ h⟩
      by_cases hn : ((m + 1 : Nat) : Int) ≤ lim ∧ m + 1 < r.length
      · exact h3 hn
      · have := h4 hn; omega
    · rw [if_neg hc]
      exact ⟨m - 1, rfl, fun h => absurd ⟨by omega, h.1⟩ hc, fun _ => rfl⟩
theorem flat_l0 (n : Nat) (hn : n ≤ 40) : ∀ (d i : Nat), i + d = n → Ev (fun k => serinettelaw10_SolveFlat.l0 k true (zl n) (i : Int)) true := by
  intro d
  induction d with
  | zero =>
    intro i hi
    refine succ ?_
    simp only [serinettelaw10_SolveFlat.l0]
    exact neg (by rw [zl_len]; omega) (now true)
  | succ d ih =>
    intro i hi
    have hg : (zl n).getD i [] = List.replicate (i + 1) 0 := by simp [zl, List.getD_eq_getElem?_getD, show i < n by omega]
    refine succ ?_
    simp only [serinettelaw10_SolveFlat.l0]
    refine pos (by rw [zl_len]; omega) ?_
    have inner : ∀ (c j : Nat), j + c = i + 1 → Ev (fun k => serinettelaw10_SolveFlat.l1 k true (zl n) (i : Int) (j : Int)) true := by
      intro c
      induction c with
      | zero =>
        intro j hj
        refine succ ?_
        simp only [serinettelaw10_SolveFlat.l1]
        rw [rdL_nat, hg, zl_len, List.length_replicate, w64 (x := (i : Int) + 1) (by omega) (by omega)]
        exact pos (by omega) (pos (by omega) (neg (by omega) (ih (i + 1) (by omega))))
      | succ c ihc =>
        intro j hj
        refine succ ?_
        simp only [serinettelaw10_SolveFlat.l1]
        rw [rdL_nat, hg, zl_len, List.length_replicate, rd_nat, rep_getD, w64 (x := (j : Int) + 1) (by omega) (by omega)]
        exact pos (by omega) (pos (by omega) (pos (by omega) (pos (by omega) (pos (by trivial) (ihc (j + 1) (by omega))))))
    exact inner (i + 1) 0 (by omega)
theorem tmod_u8 {x : Int} (h : 0 ≤ x ∧ x < 256) (m : Int) (hm : 0 < m) (hm2 : m < 256) : wrap64 (Int.tmod x m) = x % m := by
  have := Int.emod_nonneg x (show m ≠ 0 by omega); have := Int.emod_lt_of_pos x hm
  rw [Int.tmod_eq_emod_of_nonneg h.1, w64 (by omega) (by omega)]
theorem SolveFlat : serinettelaw10_SolveFlat.Pure := by
  intro a0 a1 a2 h0 h1 h2
  have h0 := wfu64 h0; have h1 := wfu8 h1; have h2 := wfu8 h2
  refine Ev.rounds ?_
  unfold serinettelaw10_SolveFlat.f
  rw [tmod_u8 h1 40 (by decide) (by decide), tmod_u8 h2 40 (by decide) (by decide)]
  obtain ⟨c, hc⟩ : ∃ c : Nat, a1 % 40 = c := ⟨(a1 % 40).toNat, by omega⟩
  generalize ho : a2 % 40 = o
  rw [hc, w64 (x := 1 + (c : Int)) (by omega) (by omega)]
  have ec : (1 + (c : Int)).toNat = c + 1 := by omega
  rw [ec]
  refine bnd awake_ev (pos (by omega) (pos (by omega) ?_))
  simp only [Option.bind_some]
  have s1 := solve_ev (List.replicate (c + 1) 0) o (by simp; omega) (by simp [rd, List.replicate_succ])
  have e1 : solveV (List.replicate (c + 1) 0) o = [] := by unfold solveV; rw [if_pos (.inr (by simp [rd, List.replicate_succ]))]
  rw [e1] at s1
  have s2 := solve_ev [] o (by simp) (by simp [rd])
  have e2 : solveV [] o = [] := rfl
  rw [e2] at s2
  refine bnd s1 (pos rfl (bnd s2 ?_))
  refine succ ?_
  simp only [serinettelaw10_SolveFlat.j0]
  have ef : wrap64 (1 + wrap64 (Int.tmod a0 4611686018427387904)) = 1 + a0 % 4611686018427387904 := by
    rw [Int.tmod_eq_emod_of_nonneg h0.1, w64 (x := a0 % 4611686018427387904) (by omega) (by omega), w64 (by omega) (by omega)]
  rw [ef]
  generalize hF : 1 + a0 % 4611686018427387904 = F
  have hF1 : 1 ≤ F ∧ F ≤ 4611686018427387904 := by omega
  have er : (List.replicate (c + 1) (0 : Int)).set (0 : Int).toNat F = F :: List.replicate c 0 := by simp [List.replicate_succ]
  rw [er, List.length_replicate]
  have r0 : rd (F :: List.replicate c 0) 0 = F := by simp [rd]
  have s3 := solve_ev (F :: List.replicate c 0) o (by simp; omega) (by rw [r0]; omega)
  have hmn : mn o 32 = ((min o.toNat 32 : Nat) : Int) := by unfold mn; split <;> omega
  have key : ∃ n, solveV (F :: List.replicate c 0) o = zl n ∧ n = min (min o.toNat 32) c := by
    have hp : 1 ≤ F / 2 ^ sh F := shGo_pos F hF1.1 34 0 (by simp; omega)
    have hd : F / 2 ^ sh F ≤ F := Int.ediv_le_self _ (by omega)
    unfold solveV
    rw [r0, if_neg (by simp; omega)]
    have hz : ∀ i, 1 ≤ i → (shL (F :: List.replicate c 0) (sh F)).getD i 0 = 0 := fun i hi => by
      obtain ⟨j, rfl⟩ : ∃ j, i = j + 1 := ⟨i - 1, by omega⟩
      simp only [shL, List.map_cons, List.map_replicate, Int.zero_ediv, List.getD_cons_succ]
      exact rep_getD _ _
    obtain ⟨n, g1, g2, g3⟩ := core_zero (shL (F :: List.replicate c 0) (sh F)) hz (mn o 32) (F / 2 ^ sh F) hp (by omega) 33 1 (by rw [hmn]; omega) (by omega)
    have g1 : coreR (shL (F :: List.replicate c 0) (sh F)) (mn o 32) 33 (F / 2 ^ sh F) [] [] 1 = zl n := g1
    refine ⟨n, g1, ?_⟩
    rw [hmn, shL_len] at g2 g3
    simp only [List.length_cons, List.length_replicate, Int.toNat_natCast, Nat.add_sub_cancel] at g2 g3
    by_cases hcc : (((1 : Nat) : Int) ≤ ((min o.toNat 32 : Nat) : Int)) ∧ 1 < c + 1
    · rw [g2 hcc]
    · rw [g3 hcc]; omega
  obtain ⟨n, k1, k2⟩ := key
  rw [k1] at s3
  refine neg (by decide) (pos (by omega) (bnd s3 ?_))
  rw [zl_len, w64 (x := ((c + 1 : Nat) : Int) - 1) (by omega) (by omega)]
  refine pos ?_ (flat_l0 n (by omega) n 0 (by omega))
  rw [hmn, k2]; unfold mn; split <;> omega
end Go.Proofs.Ythcognclnmcbhaa.Pure
