/- What serinetteref10.Solve answers: what solve.Solve does. Condition: a row that serinetteref10.Right takes. -/
import Derived.Test.YthcognclnmcbhaaPSolveMore
import Derived.Test.YthcognclnmcbhaaPRefDown
import Derived.Test.YthcognclnmcbhaaPAx15
namespace Go.Proofs.Ythcognclnmcbhaa.PL
open Go.RowKit Go.Proofs.Ythcognclnmcbhaa.PA Go.Proofs.YthcognclnmcbhaaW.PrintWords Go.Proofs.YthcognclnmcbhaaW.PrintMore
set_option linter.unusedVariables false
set_option linter.unusedSimpArgs false
theorem mn_le (m o : Int) : m ≤ mn o 32 ↔ m ≤ o ∧ m ≤ 32 := by unfold mn; split <;> omega
/-- What stands behind one step. -/
def restR (r : List Int) (o : Int) (d m : Nat) (e : Int) (a : List Int) (out : List (List Int)) (q : Int) : List (List Int) :=
  if (nextA a q).any farB = true then out
  else if newE e q < 1 then out ++ [nextA a q]
  else coreR r (mn o 32) d (newE e q) (nextA a q) (out ++ [nextA a q]) (m + 1)
theorem rl5 (r : List Int) (o : Int) (d m : Nat) (e : Int) (a : List Int) (out : List (List Int)) (q : Int) (hm : m ≤ 33) (ha : a.length + 1 = m) (ho : out.length ≤ m)
    (next : ¬ newE e q < 1 → Ev (fun k => serinetteref10_Solve.l2 k o r (newE e q) (0 :: nextA a q) (out ++ [nextA a q]) ((m + 1 : Nat) : Int)) (coreR r (mn o 32) d (newE e q) (nextA a q) (out ++ [nextA a q]) (m + 1))) :
    ∀ (t p : List Int), nextA a q = p ++ t → (∀ x ∈ p, farB x = false) → Ev (fun k => serinetteref10_Solve.l5 k o r e (0 :: nextA a q) out (m : Int) q ((p.length + 1 : Nat) : Int)) (restR r o d m e a out q) := by
  intro t
  induction t with
  | nil =>
    intro p hp hf
    have hl := congrArg List.length hp
    simp only [nextA_len, List.length_append, List.length_nil] at hl
    have hn : ¬ (nextA a q).any farB = true := by
      rw [hp, List.append_nil]
      intro h
      obtain ⟨x, hx, h⟩ := List.any_eq_true.1 h
      rw [hf x hx] at h
      exact absurd h (by decide)
    unfold restR
    rw [if_neg hn]
    refine succ ?_
    simp only [serinetteref10_Solve.l5]
    simp only [Option.bind_some, List.nil_append, List.drop_succ_cons, List.drop_zero]
    rw [down_eq _ _ (by decide) ⟨w64_lo _, w64_hi _⟩]
    simp only [Option.bind_some]
    rw [down_eq _ _ (by decide) ⟨w64_lo _, w64_hi _⟩]
    simp only [Option.bind_some]
    refine neg (by omega) (pos (by rw [List.length_cons]; omega) (pos (by simp [nextA_len]; omega) (pos (by omega) ?_)))
    by_cases g : newE e q < 1
    · rw [if_pos g]
      exact pos g (now _)
    · rw [if_neg g]
      refine neg g ?_
      rw [w64 (x := (m : Int) + 1) (by omega) (by omega)]
      exact next g
  | cons x t ih =>
    intro p hp hf
    have hl := congrArg List.length hp
    simp only [nextA_len, List.length_append, List.length_cons] at hl
    refine succ ?_
    simp only [serinetteref10_Solve.l5]
    have ra : rd (0 :: nextA a q) ((p.length + 1 : Nat) : Int) = x := by
      rw [hp]; exact rd_at (0 :: p) x t
    rw [ra, w64 (x := ((p.length + 1 : Nat) : Int) + 1) (by omega) (by omega)]
    have any_ : farB x = true → (nextA a q).any farB = true := fun h => by rw [hp, List.any_append, List.any_cons, h]; simp
    refine pos (by omega) (pos (by omega) (pos (by simp [nextA_len]; omega) ?_))
    by_cases h1 : x > 67108864
    · refine pos h1 (cst ?_)
      unfold restR; rw [if_pos (any_ (by simp [farB, h1]))]
    · refine neg h1 ?_
      by_cases h2 : x < -67108864
      · refine pos h2 (cst ?_)
        unfold restR; rw [if_pos (any_ (by simp [farB, h2]))]
      · refine neg h2 ?_
        have := ih (p ++ [x]) (by simp [hp]) (fun y hy => by
          rcases List.mem_append.1 hy with hy | hy
          · exact hf y hy
          · rw [List.mem_singleton.1 hy]; simp [farB]; omega)
        simpa using this
theorem rl4 (r : List Int) (o : Int) (m : Nat) (e : Int) (a : List Int) (out : List (List Int)) (q : Int) (R : List (List Int)) (hm : m ≤ 33) (ha : a.length + 1 = m)
    (next : Ev (fun k => serinetteref10_Solve.l5 k o r e (0 :: nextA a q) out (m : Int) q 1) R) :
    ∀ (c j : Nat), j + c = a.length → Ev (fun k => serinetteref10_Solve.l4 k o r e (0 :: a) out (m : Int) q (0 :: (List.range j).map (fun j => wrap64 (a.getD j 0 - wrap64 (q * a.getD (a.length - 1 - j) 0) / 1048576))) ((j + 1 : Nat) : Int)) R := by
  intro c
  induction c with
  | zero =>
    intro j hj
    obtain rfl : j = a.length := by omega
    refine succ ?_
    simp only [serinetteref10_Solve.l4]
    exact neg (by omega) (pos (by simp; omega) next)
  | succ c ih =>
    intro j hj
    refine succ ?_
    simp only [serinetteref10_Solve.l4]
    have e2 : wrap64 ((m : Int) - ((j + 1 : Nat) : Int)) = ((a.length - 1 - j + 1 : Nat) : Int) := by
      rw [w64 (by omega) (by omega)]; omega
    rw [e2, rd_nat, rd_nat, List.getD_cons_succ, List.getD_cons_succ, w64 (x := ((j + 1 : Nat) : Int) + 1) (by omega) (by omega), down_eq _ _ (by decide) ⟨w64_lo _, w64_hi _⟩]
    simp only [Option.bind_some]
    refine pos (by omega) (pos (by omega) (pos (by simp; omega) (pos (by omega) (pos (by simp; omega) (pos (by simp; omega) ?_)))))
    have := ih (j + 1) (by omega)
    rw [List.range_succ, List.map_append] at this
    exact this
theorem ref_core (r : List Int) (o : Int) (hl : r.length ≤ 1000) : ∀ (d m : Nat) (e : Int) (a : List Int) (out : List (List Int)), m + d = 34 → 1 ≤ m → a.length + 1 = m → out.length ≤ m → 1 ≤ e →
    Ev (fun k => serinetteref10_Solve.l2 k o r e (0 :: a) out (m : Int)) (coreR r (mn o 32) d e a out m) := by
  intro d
  induction d with
  | zero =>
    intro m e a out hm h1 ha ho he
    have stop : Ev (fun k => serinetteref10_Solve.j4 k o r e (0 :: a) out (m : Int) false) out := by
      refine succ ?_
      simp only [serinetteref10_Solve.j4]
      exact neg (by decide) (now _)
    refine succ ?_
    simp only [serinetteref10_Solve.l2, coreR]
    by_cases c1 : (m : Int) ≤ o
    · exact pos c1 (neg (by omega) stop)
    · exact neg c1 stop
  | succ d ih =>
    intro m e a out hm h1 ha ho he
    have stop : Ev (fun k => serinetteref10_Solve.j4 k o r e (0 :: a) out (m : Int) false) out := by
      refine succ ?_
      simp only [serinetteref10_Solve.j4]
      exact neg (by decide) (now _)
    refine succ ?_
    simp only [serinetteref10_Solve.l2, coreR]
    by_cases c1 : (m : Int) ≤ o
    · refine pos c1 ?_
      by_cases c2 : (m : Int) ≤ 32
      rotate_left
      · rw [if_neg (fun h => c2 ((mn_le _ _).1 h.2).2)]
        exact neg c2 stop
      refine pos c2 ?_
      by_cases c3 : (m : Int) < r.length
      · rw [decide_eq_true c3, if_pos ⟨c3, (mn_le _ _).2 ⟨c1, c2⟩⟩]
        refine succ ?_
        simp only [serinetteref10_Solve.j4]
        refine pos trivial (pos (by omega) (pos c3 ?_))
        rw [rd_nat]
        have sums : ∀ (c j : Nat), j + c = a.length → Ev (fun k => serinetteref10_Solve.l3 k o r e (0 :: a) out (m : Int) (sumA a r m j) ((j + 1 : Nat) : Int)) (if wrap64 ((sumA a r m a.length).tdiv e) ≤ -1048576 ∨ wrap64 ((sumA a r m a.length).tdiv e) ≥ 1048576 then out
       else restR r o d m e a out (wrap64 ((sumA a r m a.length).tdiv e))) := by
          intro c
          induction c with
          | zero =>
            intro j hj
            obtain rfl : j = a.length := by omega
            refine succ ?_
            simp only [serinetteref10_Solve.l3]
            refine neg (by omega) (neg (by omega) ?_)
            generalize wrap64 ((sumA a r m a.length).tdiv e) = q
            have leave : Ev (fun k => serinetteref10_Solve.j6 k o r e (0 :: a) out (m : Int) q true) out := by
              refine succ ?_
              simp only [serinetteref10_Solve.j6]
              exact pos trivial (now _)
            by_cases q2 : q ≥ 1048576
            · rw [if_pos (Or.inr q2)]
              exact pos q2 leave
            · refine neg q2 ?_
              by_cases q1 : q ≤ -1048576
              · rw [if_pos (Or.inl q1), decide_eq_true q1]
                exact leave
              · rw [if_neg (fun h => h.elim q1 q2), decide_eq_false q1]
                refine succ ?_
                simp only [serinetteref10_Solve.j6]
                refine neg (by decide) ?_
                refine rl4 r o m e a out q _ (by omega) ha ?_ a.length 0 (by omega)
                exact rl5 r o d m e a out q (by omega) ha ho (fun g => ih (m + 1) (newE e q) _ _ (by omega) (by omega) (by rw [nextA_len]; omega) (by simp; omega) (by omega)) _ [] rfl (by simp)
          | succ c ihc =>
            intro j hj
            refine succ ?_
            simp only [serinetteref10_Solve.l3]
            have e2 : wrap64 ((m : Int) - ((j + 1 : Nat) : Int)) = ((m - 1 - j : Nat) : Int) := by
              rw [w64 (by omega) (by omega)]; omega
            rw [e2, rd_nat, rd_nat, List.getD_cons_succ, w64 (x := ((j + 1 : Nat) : Int) + 1) (by omega) (by omega)]
            exact pos (by omega) (pos (by omega) (pos (by simp; omega) (pos (by omega) (pos (by omega) (ihc (j + 1) (by omega))))))
        exact sums a.length 0 (by omega)
      · rw [decide_eq_false c3, if_neg (fun h => c3 h.1)]
        exact stop
    · rw [if_neg (fun h => c1 ((mn_le _ _).1 h.2).1)]
      exact neg c1 stop
theorem pow_bd : ∀ s, s < 35 → 1 ≤ (2 : Int) ^ s ∧ (2 : Int) ^ s ≤ 17179869184 := by decide +kernel
theorem ref_solve_ev (r : List Int) (o : Int) (hl : r.length ≤ 1000) (hw : ∀ x ∈ r, -9223372036854775808 ≤ x ∧ x < 9223372036854775808) (hr : RightP r) : Ev (fun k => serinetteref10_Solve.f k r o) (solveV r o) := by
  unfold serinetteref10_Solve.f solveV
  have none_ : Ev (fun k => serinetteref10_Solve.j0 k r o true) [] := by
    refine succ ?_
    simp only [serinetteref10_Solve.j0]
    exact pos trivial (now _)
  by_cases h0 : (r.length : Int) = 0
  · rw [if_pos (Or.inl h0)]
    exact pos h0 none_
  · obtain ⟨z1, z2, _⟩ := hr (by omega)
    refine neg h0 (pos (by omega) ?_)
    by_cases h1 : rd r 0 < 1
    · have hz : rd r 0 = 0 := by omega
      rw [if_pos (Or.inr h1), hz]
      exact none_
    · have hb : (rd r 0 == 0) = false := by simp; omega
      rw [if_neg (fun h => h.elim h0 h1), hb]
      refine succ ?_
      simp only [serinetteref10_Solve.j0]
      refine neg (by decide) ?_
      have low : ∀ (d s : Nat), s + d = 34 → 1 ≤ rd r 0 / 2 ^ s → Ev (fun k => serinetteref10_Solve.l0 k r o (2 ^ s)) (coreR (shL r (shGo (rd r 0) d s)) (mn o 32) 33 (rd r 0 / 2 ^ shGo (rd r 0) d s) [] [] 1) := by
        intro d
        have down : ∀ s, s < 35 → 1 ≤ rd r 0 / 2 ^ s → Ev (fun k => serinetteref10_Solve.l1 k r o (2 ^ s) [] 0) (coreR (shL r s) (mn o 32) 33 (rd r 0 / 2 ^ s) [] [] 1) := by
          intro s hs h1s
          obtain ⟨b1, b2⟩ := pow_bd s hs
          have key : ∀ (t p : List Int), r = p ++ t → Ev (fun k => serinetteref10_Solve.l1 k r o (2 ^ s) (shL p s) (p.length : Int)) (coreR (shL r s) (mn o 32) 33 (rd r 0 / 2 ^ s) [] [] 1) := by
            intro t
            induction t with
            | nil =>
              intro p hp
              rw [List.append_nil] at hp
              subst hp
              refine succ ?_
              simp only [serinetteref10_Solve.l1]
              have r0 : rd (shL r s) 0 = rd r 0 / 2 ^ s := by
                cases r with
                | nil => simp at h0
                | cons a t => simp [shL, rd]
              refine neg (by omega) (pos (by rw [shL_len]; omega) ?_)
              rw [r0]
              exact ref_core (shL r s) o (by rw [shL_len]; omega) 33 1 (rd r 0 / 2 ^ s) [] [] rfl (by omega) rfl (by simp) h1s
            | cons x t ih =>
              intro p hp
              have l1 := congrArg List.length hp
              simp only [List.length_append, List.length_cons] at l1
              have hx := hw x (by rw [hp]; simp)
              refine succ ?_
              simp only [serinetteref10_Solve.l1]
              have ra : rd r (p.length : Int) = x := by rw [hp]; exact rd_at _ _ _
              rw [ra, w64 (x := (p.length : Int) + 1) (by omega) (by omega), down_eq x _ (by omega) hx]
              simp only [Option.bind_some]
              refine pos (by omega) (pos (by omega) (pos (by rw [shL_len]; omega) ?_))
              have := ih (p ++ [x]) (by simp [hp])
              simpa [shL] using this
          exact key r [] rfl
        have dv : ∀ s, s < 35 → wrap64 ((rd r 0).tdiv (2 ^ s)) = rd r 0 / 2 ^ s := fun s hs => by
          obtain ⟨b1, b2⟩ := pow_bd s hs
          rw [Int.tdiv_eq_ediv_of_nonneg z1]
          have n1 : 0 ≤ rd r 0 / 2 ^ s := Int.ediv_nonneg z1 (by omega)
          have n2 : rd r 0 / 2 ^ s ≤ rd r 0 := Int.ediv_le_self _ z1
          exact w64 (by omega) (by omega)
        induction d with
        | zero =>
          intro s hs h1s
          obtain rfl : s = 34 := by omega
          refine succ ?_
          simp only [serinetteref10_Solve.l0]
          rw [dv 34 (by omega)]
          have : rd r 0 / 2 ^ 34 < 1073741824 := by
            have e : (2 : Int) ^ 34 = 17179869184 := by decide
            rw [e]; omega
          exact pos (by omega) (neg (by decide) (neg (by omega) (down 34 (by omega) h1s)))
        | succ d ih =>
          intro s hs h1s
          obtain ⟨b1, b2⟩ := pow_bd s (by omega)
          refine succ ?_
          simp only [serinetteref10_Solve.l0]
          rw [dv s (by omega)]
          refine pos (by omega) (neg (by omega) ?_)
          simp only [shGo]
          by_cases h : rd r 0 / 2 ^ s ≥ 1073741824
          · rw [if_pos h]
            refine pos h ?_
            have e1 : wrap64 (2 * 2 ^ s) = 2 ^ (s + 1) := by
              rw [Int.pow_succ, Int.mul_comm]; exact w64 (by omega) (by omega)
            rw [e1]
            exact ih (s + 1) (by omega) (by rw [div_two]; omega)
          · rw [if_neg h]
            exact neg h (down s (by omega) h1s)
      have := low 34 0 rfl (by simp; omega)
      exact this
end Go.Proofs.Ythcognclnmcbhaa.PL
