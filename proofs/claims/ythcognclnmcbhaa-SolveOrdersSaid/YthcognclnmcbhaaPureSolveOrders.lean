/- SolveOrders: a greater order has the same ones first; those of the order m are m factors, none further than Far from 0, and the last one within a whole. For every input (the law's own guards are in it). -/
import Derived.Test.YthcognclnmcbhaaPAx17
import Derived.Test.YthcognclnmcbhaaPSolveMore
namespace Go.Proofs.Ythcognclnmcbhaa.Pure
open Go.RowKit Go.Proofs.Ythcognclnmcbhaa.PA Go.Proofs.YthcognclnmcbhaaW.PrintWords Go.Proofs.YthcognclnmcbhaaW.PrintLast Go.Proofs.YthcognclnmcbhaaW.PrintMore Go.Proofs.Ythcognclnmcbhaa.PL
set_option linter.unusedVariables false
theorem core_out (r : List Int) (lim : Int) : ∀ (d m : Nat) (e : Int) (a : List Int) (out : List (List Int)), ∃ t, coreR r lim d e a out m = out ++ t := by
  intro d
  induction d with
  | zero => intro m e a out; exact ⟨[], by simp [coreR]⟩
  | succ d ih =>
    intro m e a out
    simp only [coreR]
    split
    · generalize wrap64 ((sumA a r m a.length).tdiv e) = q
      split
      · exact ⟨[], by simp⟩
      · split
        · exact ⟨[], by simp⟩
        · split
          · exact ⟨_, rfl⟩
          · obtain ⟨t, ht⟩ := ih (m + 1) (newE e q) (nextA a q) (out ++ [nextA a q])
            exact ⟨nextA a q :: t, by rw [ht]; simp⟩
    · exact ⟨[], by simp⟩
theorem core_prefix (r : List Int) (n m' : Int) (hnm : n ≤ m') : ∀ (d m : Nat) (e : Int) (a : List Int) (out : List (List Int)), out.length + 1 = m →
    (coreR r m' d e a out m).take (coreR r n d e a out m).length = coreR r n d e a out m ∧ (((coreR r n d e a out m).length : Int) < n → (coreR r m' d e a out m).length = (coreR r n d e a out m).length) ∧ (coreR r n d e a out m).length ≤ (coreR r m' d e a out m).length := by
  intro d
  induction d with
  | zero => intro m e a out hm; simp [coreR]
  | succ d ih =>
    intro m e a out hm
    by_cases hc : (m : Int) < r.length ∧ (m : Int) ≤ n
    · simp only [coreR]
      rw [if_pos hc, if_pos (show (m : Int) < r.length ∧ (m : Int) ≤ m' from ⟨hc.1, by omega⟩)]
      generalize wrap64 ((sumA a r m a.length).tdiv e) = q
      by_cases c1 : q ≤ -1048576 ∨ q ≥ 1048576
      · rw [if_pos c1, if_pos c1]; simp
      · rw [if_neg c1, if_neg c1]
        by_cases c2 : (nextA a q).any farB = true
        · rw [if_pos c2, if_pos c2]; simp
        · rw [if_neg c2, if_neg c2]
          by_cases c3 : newE e q < 1
          · rw [if_pos c3, if_pos c3]; exact ⟨List.take_of_length_le (Nat.le_refl _), fun _ => rfl, Nat.le_refl _⟩
          · rw [if_neg c3, if_neg c3]
            exact ih (m + 1) _ _ _ (by simp; omega)
    · obtain ⟨t, ht⟩ := core_out r m' (d + 1) m e a out
      have e1 : coreR r n (d + 1) e a out m = out := by simp only [coreR]; rw [if_neg hc]
      rw [e1, ht]
      refine ⟨by simp, fun hlt => ?_, by simp⟩
      rw [← ht]
      have hr : ¬ (m : Int) < r.length := fun h => hc ⟨h, by omega⟩
      simp only [coreR]
      rw [if_neg (fun h => hr h.1)]
theorem solve_prefix (r : List Int) (n m' : Int) (h : n ≤ m') (hn : n ≤ 32) : (solveV r m').take (solveV r n).length = solveV r n ∧ (((solveV r n).length : Int) < n → (solveV r m').length = (solveV r n).length) ∧ (solveV r n).length ≤ (solveV r m').length := by
  unfold solveV
  split
  · simp
  · have e : mn n 32 = n := by unfold mn; split <;> omega
    have h2 : mn n 32 ≤ mn m' 32 := by unfold mn; split <;> split <;> omega
    have := core_prefix (shL r (sh (rd r 0))) (mn n 32) (mn m' 32) h2 33 1 (rd r 0 / 2 ^ sh (rd r 0)) [] [] rfl
    rw [e] at this
    exact ⟨by rw [e]; exact this.1, fun hlt => by rw [e] at hlt ⊢; exact this.2.1 hlt, by rw [e]; exact this.2.2⟩
theorem tmod_u8 {x : Int} (h : 0 ≤ x ∧ x < 256) (m : Int) (hm : 0 < m) (hm2 : m < 256) : wrap64 (Int.tmod x m) = x % m := by
  have := Int.emod_nonneg x (show m ≠ 0 by omega); have := Int.emod_lt_of_pos x hm
  rw [Int.tmod_eq_emod_of_nonneg h.1, w64 (by omega) (by omega)]
theorem orders_l0 (l : List (List Int)) (hs : Shape l) (hl : l.length ≤ 33) : ∀ (d i : Nat), i + d = l.length → Ev (fun k => serinettelaw10_SolveOrders.l0 k true l (i : Int)) true := by
  intro d
  induction d with
  | zero =>
    intro i hi
    refine succ ?_
    simp only [serinettelaw10_SolveOrders.l0]
    exact neg (by omega) (now true)
  | succ d ih =>
    intro i hi
    obtain ⟨s1, s2, s3, s4⟩ := hs i (by omega)
    refine succ ?_
    simp only [serinettelaw10_SolveOrders.l0]
    rw [rdL_nat, rd_nat, w64 (x := (i : Int) + 1) (by omega) (by omega), decide_eq_false (show ¬ (l.getD i []).getD i 0 ≤ -1048576 by omega)]
    refine pos (by omega) (pos (by omega) (pos (by omega) (pos (by omega) (neg (by omega) (succ ?_)))))
    simp only [serinettelaw10_SolveOrders.j3]
    refine neg (by decide) ?_
    have inner : ∀ (c j : Nat), j + c = i + 1 → Ev (fun k => serinettelaw10_SolveOrders.l1 k true l (i : Int) (j : Int)) true := by
      intro c
      induction c with
      | zero =>
        intro j hj
        refine succ ?_
        simp only [serinettelaw10_SolveOrders.l1]
        rw [w64 (x := (i : Int) + 1) (by omega) (by omega)]
        exact neg (by omega) (ih (i + 1) (by omega))
      | succ c ihc =>
        intro j hj
        refine succ ?_
        simp only [serinettelaw10_SolveOrders.l1]
        have hm := s2 _ (rd_mem (l := l.getD i []) (i := (j : Int)) (by omega) (by omega))
        simp only [farB, Bool.or_eq_false_iff, decide_eq_false_iff_not] at hm
        rw [rdL_nat, w64 (x := (j : Int) + 1) (by omega) (by omega)]
        exact pos (by omega) (pos (by omega) (pos (by omega) (pos (by omega) (pos (by omega) (neg hm.1 (neg hm.2 (ihc (j + 1) (by omega))))))))
    exact inner (i + 1) 0 (by omega)
theorem SolveOrders : serinettelaw10_SolveOrders.Pure := by
  intro l0 a1 a2 h1 h2 hw hu1 hu2
  have hu1 := wfu8 hu1; have hu2 := wfu8 hu2
  have hmn : 0 ≤ mn a1 a2 ∧ mn a1 a2 < 256 := by unfold mn; split <;> omega
  have hmx : 0 ≤ mx a1 a2 ∧ mx a1 a2 < 256 := by unfold mx; split <;> omega
  refine Ev.rounds ?_
  unfold serinettelaw10_SolveOrders.f
  have out : Ev (fun k => serinettelaw10_SolveOrders.j0 k l0 a1 a2 true true) true := by
    refine succ ?_
    simp only [serinettelaw10_SolveOrders.j0]
    exact pos trivial (cst rfl)
  refine bnd awake_ev (bnd (right_ev l0 (by omega) (fun x hx => wf64 (hw x hx))) ?_)
  by_cases hl : (l0.length : Int) > 40
  · exact pos hl out
  · refine neg hl ?_
    by_cases hr : RightP l0
    · have e : (!decide (RightP l0)) = false := by simp [hr]
      rw [e]
      have hx : rd l0 0 < 9223372036854775808 := by
        by_cases h0 : 0 < l0.length
        · have := (hr h0).2.1; omega
        · have : l0 = [] := List.eq_nil_of_length_eq_zero (by omega)
          rw [this]; simp [rd]
      refine succ ?_
      simp only [serinettelaw10_SolveOrders.j0]
      rw [tmod_u8 hmn 33 (by decide) (by decide), tmod_u8 hmx 9 (by decide) (by decide)]
      generalize hN : mn a1 a2 % 33 = n
      generalize hM : mx a1 a2 % 9 = d
      rw [w64 (x := n + d) (by omega) (by omega)]
      obtain ⟨p1, p2, p3⟩ := solve_prefix l0 n (n + d) (by omega) (by omega)
      obtain ⟨s1, s2, s3⟩ := solve_shape l0 n
      obtain ⟨t1, t2, t3⟩ := solve_shape l0 (n + d)
      have en : mn n 32 = n := by unfold mn; split <;> omega
      rw [en] at s2
      refine neg (by decide) (bnd (solve_ev l0 n (by omega) hx) (bnd (solve_ev l0 (n + d) (by omega) hx) ?_))
      refine neg (by omega) (neg (by omega) (neg (by unfold mn at t2 ⊢; split at t2 <;> split <;> omega) (pos (by omega) (pos (by omega) ?_))))
      rw [Int.toNat_natCast, p1]
      have fin : Ev (fun k => serinettelaw10_SolveOrders.j1 k true (solveV l0 (n + d)) false) true := by
        refine succ ?_
        simp only [serinettelaw10_SolveOrders.j1]
        exact neg (by decide) (orders_l0 _ t1 t3 _ 0 (Nat.zero_add _))
      refine bnd (same_solve l0 n) (pos (by trivial) ?_)
      by_cases hlt : ((solveV l0 n).length : Int) < n
      · refine pos hlt ?_
        have e2 : (((solveV l0 (n + d)).length : Int) != ((solveV l0 n).length : Int)) = false := by rw [p2 hlt]; simp
        rw [e2]; exact fin
      · exact neg hlt fin
    · have e : (!decide (RightP l0)) = true := by simp [hr]
      rw [e]; exact out
end Go.Proofs.Ythcognclnmcbhaa.Pure
