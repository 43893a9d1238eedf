/- SolveSamples: the factors of how alike samples are, are what the plain reference tells. For every input. -/
import Derived.Test.YthcognclnmcbhaaPAx26
import Derived.Test.YthcognclnmcbhaaPSolveRef
import Derived.Test.YthcognclnmcbhaaPLags
import Derived.Test.YthcognclnmcbhaaPNear
namespace Go.Proofs.Ythcognclnmcbhaa.Pure
open Go.RowKit Go.Proofs.Ythcognclnmcbhaa.PA Go.Proofs.YthcognclnmcbhaaW.PrintWords Go.Proofs.YthcognclnmcbhaaW.PrintLast Go.Proofs.YthcognclnmcbhaaW.PrintMore Go.Proofs.Ythcognclnmcbhaa.PL
set_option linter.unusedVariables false
theorem ac_abs (y : List Int) (k : Nat) : -(ac y 0) ≤ ac y k ∧ ac y k ≤ ac y 0 := by
  have sq : ∀ i, 0 ≤ y.getD i 0 * y.getD i 0 := fun i => by
    rcases Int.le_total 0 (y.getD i 0) with h | h
    · exact Int.mul_nonneg h h
    · exact Int.mul_nonneg_of_nonpos_of_nonpos h h
  have h0 : sm y.length (fun i => y.getD i 0 * y.getD i 0) = ac y 0 := rfl
  have h1 : sm y.length (fun i => y.getD (i + k) 0 * y.getD (i + k) 0) ≤ ac y 0 := by
    have e := sm_add (fun i => y.getD i 0 * y.getD i 0) k y.length
    have e2 : sm (k + y.length) (fun i => y.getD i 0 * y.getD i 0) = ac y 0 := ac_over (y := y) (k := 0) (by omega)
    have e3 : sm y.length (fun i => y.getD (k + i) 0 * y.getD (k + i) 0) = sm y.length (fun i => y.getD (i + k) 0 * y.getD (i + k) 0) := sm_congr _ (fun i _ => by rw [Nat.add_comm k i])
    have e4 : sm k (fun _ => 0) ≤ sm k (fun i => y.getD i 0 * y.getD i 0) := sm_le k (fun i _ => sq i)
    rw [sm_zero k (fun _ _ => rfl)] at e4
    omega
  have p : sm y.length (fun i => y.getD (i + k) 0 * y.getD i 0 + y.getD (i + k) 0 * y.getD i 0) ≤ sm y.length (fun i => y.getD (i + k) 0 * y.getD (i + k) 0 + y.getD i 0 * y.getD i 0) := by
    refine sm_le _ (fun i _ => ?_)
    generalize y.getD (i + k) 0 = a
    generalize y.getD i 0 = b
    have : 0 ≤ (a - b) * (a - b) := by
      rcases Int.le_total 0 (a - b) with h | h
      · exact Int.mul_nonneg h h
      · exact Int.mul_nonneg_of_nonpos_of_nonpos h h
    grind
  have q : sm y.length (fun i => -(y.getD (i + k) 0 * y.getD (i + k) 0 + y.getD i 0 * y.getD i 0)) ≤ sm y.length (fun i => y.getD (i + k) 0 * y.getD i 0 + y.getD (i + k) 0 * y.getD i 0) := by
    refine sm_le _ (fun i _ => ?_)
    generalize y.getD (i + k) 0 = a
    generalize y.getD i 0 = b
    have : 0 ≤ (a + b) * (a + b) := by
      rcases Int.le_total 0 (a + b) with h | h
      · exact Int.mul_nonneg h h
      · exact Int.mul_nonneg_of_nonpos_of_nonpos h h
    grind
  have hneg : ∀ (n : Nat) (f : Nat → Int), sm n (fun i => -(f i)) = -(sm n f) := by
    intro n f
    induction n with
    | zero => rfl
    | succ n ih => rw [sm, sm, ih]; omega
  rw [hneg, sm_plus, sm_plus, h0] at q
  rw [sm_plus, sm_plus, h0] at p
  unfold ac at *
  omega
theorem right_ofL (y : List Int) (n : Nat) (hy : Small y) (hl : y.length ≤ 1000) : RightP (ofL y n) := by
  intro h
  rw [ofL_len] at h
  have r0 : rd (ofL y n) 0 = ac y 0 := by
    have := rd_nat (ofL y n) 0
    rw [ofL_getD y h] at this
    exact this
  have b := ac_bd hy hl 0
  have a := ac_abs y 0
  rw [r0]
  refine ⟨by omega, by omega, fun x hx => ?_⟩
  simp only [ofL, List.mem_map] at hx
  obtain ⟨i, _, rfl⟩ := hx
  exact ac_abs y i
theorem SolveSamples : serinettelaw10_SolveSamples.Pure := by
  intro l0 a1 hm hs h0 h1
  refine Ev.rounds ?_
  unfold serinettelaw10_SolveSamples.f
  have out : Ev (fun k => serinettelaw10_SolveSamples.j0 k l0 a1 true true) true := by
    refine succ ?_
    simp only [serinettelaw10_SolveSamples.j0]
    exact pos trivial (cst rfl)
  refine bnd awake_ev (bnd (near_ev l0 (by omega)) ?_)
  by_cases hc : (l0.length : Int) > 60
  · exact pos hc out
  · refine neg hc ?_
    by_cases hn : NearL l0
    · have e : (!decide (NearL l0)) = false := by simp [hn]
      rw [e]
      have w1 : fits l0 42 = true := wf42 h0
      obtain ⟨f1, f2, f3⟩ := fitN_spec w1
      have hy := small_down f1
      have hly : (downL l0 (fitN l0)).length ≤ 1000 := by simp [downL]; omega
      have hr := right_ofL (downL l0 (fitN l0)) (cnt a1) hy hly
      have hcnt := cnt_le a1
      have hb : ∀ x ∈ ofL (downL l0 (fitN l0)) (cnt a1), -9223372036854775808 ≤ x ∧ x < 9223372036854775808 := by
        intro x hx
        simp only [ofL, List.mem_map] at hx
        obtain ⟨i, _, rfl⟩ := hx
        have := ac_bd hy hly i
        omega
      have hrv := right_ev (ofL (downL l0 (fitN l0)) (cnt a1)) (by rw [ofL_len]; omega) hb
      rw [decide_eq_true hr] at hrv
      have hx0 := (hr (by rw [ofL_len]; omega)).2.1
      refine succ ?_
      simp only [serinettelaw10_SolveSamples.j0]
      refine neg (by decide) (bnd (of_ev l0 a1 (by omega) w1) (bnd hrv (pos (by trivial) (pos (by trivial) ?_))))
      exact bnd (solve_ev _ a1 (by rw [ofL_len]; omega) (by omega)) (bnd (ref_solve_ev _ a1 (by rw [ofL_len]; omega) hb hr) (bnd (same_solve _ a1) (now true)))
    · have e : (!decide (NearL l0)) = true := by simp [hn]
      rw [e]; exact out
end Go.Proofs.Ythcognclnmcbhaa.Pure
