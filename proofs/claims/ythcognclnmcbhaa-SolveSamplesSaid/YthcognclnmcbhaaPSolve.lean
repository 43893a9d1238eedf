/- What solve.Solve answers. Condition: at most a thousand numbers of 64 bits. -/
import Derived.Test.YthcognclnmcbhaaPL
import Derived.Test.YthcognclnmcbhaaPAx9
namespace Go.Proofs.Ythcognclnmcbhaa.PL
open Go.RowKit Go.Proofs.Ythcognclnmcbhaa.PA Go.Proofs.YthcognclnmcbhaaW.PrintWords Go.Proofs.YthcognclnmcbhaaW.PrintMore
set_option linter.unusedVariables false
set_option linter.unusedSimpArgs false
theorem clone_eq' (l : List Int) (h : l.length ≤ 1000) : slices_Clone_int_int.f l = some l := by
  unfold slices_Clone_int_int.f
  simp only [Option.bind_some, List.length_nil, List.nil_append]
  rw [if_pos (by omega)]
theorem div_two (x : Int) (s : Nat) : x / 2 ^ (s + 1) = x / 2 ^ s / 2 := by
  rw [Int.pow_succ, Int.ediv_ediv_of_nonneg (Int.pow_nonneg (by decide))]
/-- By how many bits the first number goes down. -/
def shGo (x : Int) : Nat → Nat → Nat
  | 0, s => s
  | d + 1, s => if x / 2 ^ s ≥ 1073741824 then shGo x d (s + 1) else s
def sh (x : Int) : Nat := shGo x 34 0
def shL (l : List Int) (s : Nat) : List Int := l.map fun x => x / 2 ^ s
theorem shL_len (l : List Int) (s : Nat) : (shL l s).length = l.length := by simp [shL]
theorem down_l1 (R : List Int) : ∀ (t p : List Int) (n : Int), n = p.length + t.length → p.length + t.length ≤ 1000 → Ev (fun k => solve_down.l0 k (p ++ t.map (· / 2))) R → Ev (fun k => solve_down.l1 k (p ++ t) n (p.length : Int)) R := by
  intro t
  induction t with
  | nil =>
    intro p n hn hl h
    refine succ ?_
    simp only [solve_down.l1]
    exact neg (by rw [hn]; simp) (by simpa using h)
  | cons x t ih =>
    intro p n hn hl h
    simp only [List.length_cons] at hn hl
    refine succ ?_
    simp only [solve_down.l1]
    rw [rd_at, w64 (by omega) (by omega), Int.toNat_natCast, set_at]
    refine pos (by omega) (pos (by omega) (pos (by simp; omega) ?_))
    have := ih (p ++ [x / 2]) n (by simp; omega) (by simp; omega) (by simpa using h)
    simpa using this
theorem down_ev' (l : List Int) (hl : l.length ≤ 1000) (h0 : 0 < l.length) (hx : rd l 0 < 9223372036854775808) : Ev (fun k => solve_down.f k l) (shL l (sh (rd l 0))) := by
  have key : ∀ (d s : Nat), s + d = 34 → Ev (fun k => solve_down.l0 k (shL l s)) (shL l (shGo (rd l 0) d s)) := by
    intro d
    have r0 : ∀ s, rd (shL l s) 0 = rd l 0 / 2 ^ s := fun s => by
      cases l with
      | nil => simp at h0
      | cons a t => simp [shL, rd]
    induction d with
    | zero =>
      intro s hs
      obtain rfl : s = 34 := by omega
      refine succ ?_
      simp only [solve_down.l0]
      have : rd l 0 / 2 ^ 34 < 1073741824 := by
        have e : (2 : Int) ^ 34 = 17179869184 := by decide
        rw [e]; omega
      exact pos (by rw [shL_len]; omega) (neg (by rw [r0]; omega) (cst rfl))
    | succ d ih =>
      intro s hs
      refine succ ?_
      simp only [solve_down.l0]
      refine pos (by rw [shL_len]; omega) ?_
      simp only [shGo]
      by_cases h : rd l 0 / 2 ^ s ≥ 1073741824
      · rw [if_pos h]
        refine pos (by rw [r0]; exact h) ?_
        have e : (shL l s).map (· / 2) = shL l (s + 1) := by simp [shL, div_two]
        have := down_l1 (shL l (shGo (rd l 0) d (s + 1))) (shL l s) [] ((shL l s).length : Int) (by simp) (by simp [shL_len]; omega) (by rw [List.nil_append, e]; exact ih (s + 1) (by omega))
        simpa using this
      · rw [if_neg h]
        exact neg (by rw [r0]; exact h) (now _)
  unfold solve_down.f
  rw [clone_eq' l hl]
  simp only [Option.bind_some]
  have := key 34 0 rfl
  have e : shL l 0 = l := by simp [shL]
  rw [e] at this
  exact this
def farB (n : Int) : Bool := decide (n > 67108864) || decide (n < -67108864)
/-- Factors behind one step more. -/
def nextA (a : List Int) (q : Int) : List Int := (List.range a.length).map (fun j => wrap64 (a.getD j 0 - wrap64 (q * a.getD (a.length - 1 - j) 0) / 1048576)) ++ [q]
theorem nextA_len (a : List Int) (q : Int) : (nextA a q).length = a.length + 1 := by simp [nextA]
theorem next_ev (a : List Int) (q : Int) (hl : a.length ≤ 1000) : Ev (fun k => solve_next.f k a q) (nextA a q) := by
  unfold solve_next.f
  rw [w64 (x := (a.length : Int) + 1) (by omega) (by omega)]
  refine pos (by omega) (pos (by omega) ?_)
  have e1 : ((a.length : Int) + 1).toNat = a.length + 1 := by omega
  rw [e1]
  have key : ∀ (d j : Nat), j + d = a.length → Ev (fun k => solve_next.l0 k a q (a.length : Int) ((List.range j).map (fun j => wrap64 (a.getD j 0 - wrap64 (q * a.getD (a.length - 1 - j) 0) / 1048576)) ++ List.replicate (d + 1) 0) a (a.length : Int) (j : Int)) (nextA a q) := by
    intro d
    induction d with
    | zero =>
      intro j hj
      obtain rfl : j = a.length := by omega
      refine succ ?_
      simp only [solve_next.l0]
      refine neg (by omega) (pos (by omega) (pos (by simp; omega) ?_))
      have := set_at ((List.range a.length).map (fun j => wrap64 (a.getD j 0 - wrap64 (q * a.getD (a.length - 1 - j) 0) / 1048576))) 0 [] q
      rw [List.length_map, List.length_range] at this
      refine cst ?_
      rw [Int.toNat_natCast]
      congr 1
    | succ d ih =>
      intro j hj
      refine succ ?_
      simp only [solve_next.l0]
      have e2 : wrap64 (wrap64 ((a.length : Int) - 1) - (j : Int)) = ((a.length - 1 - j : Nat) : Int) := by
        rw [w64 (x := (a.length : Int) - 1) (by omega) (by omega), w64 (by omega) (by omega)]; omega
      rw [e2, rd_nat, rd_nat, w64 (x := (j : Int) + 1) (by omega) (by omega), Int.toNat_natCast]
      refine pos (by omega) (pos (by omega) (pos (by omega) (pos (by omega) (pos (by omega) (pos (by simp; omega) ?_)))))
      have := ih (j + 1) (by omega)
      have hs := set_at ((List.range j).map (fun j => wrap64 (a.getD j 0 - wrap64 (q * a.getD (a.length - 1 - j) 0) / 1048576))) 0 (List.replicate (d + 1) 0) (wrap64 (a.getD j 0 - wrap64 (q * a.getD (a.length - 1 - j) 0) / 1048576))
      rw [List.length_map, List.length_range] at hs
      rw [List.replicate_succ, hs]
      rw [List.range_succ, List.map_append, List.append_assoc] at this
      exact this
  have := key a.length 0 (by omega)
  simpa using this
theorem far_ev (l : List Int) (hl : l.length ≤ 1000) : Ev (fun k => serinetteshadow_AnyFarSolve.f k l) (l.any farB) := by
  have key : ∀ (t p : List Int), l = p ++ t → Ev (fun k => serinetteshadow_AnyFarSolve.l0 k l (l.length : Int) (p.length : Int)) (t.any farB) := by
    intro t
    induction t with
    | nil =>
      intro p hp
      refine succ ?_
      simp only [serinetteshadow_AnyFarSolve.l0]
      exact neg (by rw [hp]; simp) (cst rfl)
    | cons x t ih =>
      intro p hp
      have l1 := congrArg List.length hp
      simp only [List.length_append, List.length_cons] at l1
      refine succ ?_
      simp only [serinetteshadow_AnyFarSolve.l0]
      have ra : rd l (p.length : Int) = x := by rw [hp]; exact rd_at _ _ _
      rw [ra, w64 (by omega) (by omega), List.any_cons]
      refine pos (by omega) (pos (by omega) (pos (by omega) ?_))
      by_cases h1 : x > 67108864
      · exact pos h1 (cst (by simp [farB, h1]))
      · refine neg h1 ?_
        by_cases h2 : x < -67108864
        · exact pos h2 (cst (by simp [farB, h2]))
        · refine neg h2 ?_
          have e : farB x = false := by simp [farB]; omega
          rw [e, Bool.false_or]
          have := ih (p ++ [x]) (by simp [hp])
          simpa using this
  exact key l [] rfl
def sumA (a r : List Int) (m : Nat) : Nat → Int
  | 0 => wrap64 (r.getD m 0 * 1048576)
  | j + 1 => wrap64 (sumA a r m j - wrap64 (a.getD j 0 * r.getD (m - 1 - j) 0))
def newE (e q : Int) : Int := wrap64 (e - wrap64 (wrap64 (e * q) / 1048576 * q) / 1048576)
def coreR (r : List Int) (lim : Int) : Nat → Int → List Int → List (List Int) → Nat → List (List Int)
  | 0, _, _, out, _ => out
  | d + 1, e, a, out, m =>
    if (m : Int) < r.length ∧ (m : Int) ≤ lim then
      (if wrap64 ((sumA a r m a.length).tdiv e) ≤ -1048576 ∨ wrap64 ((sumA a r m a.length).tdiv e) ≥ 1048576 then out
       else if (nextA a (wrap64 ((sumA a r m a.length).tdiv e))).any farB = true then out
       else if newE e (wrap64 ((sumA a r m a.length).tdiv e)) < 1 then out ++ [nextA a (wrap64 ((sumA a r m a.length).tdiv e))]
       else coreR r lim d (newE e (wrap64 ((sumA a r m a.length).tdiv e))) (nextA a (wrap64 ((sumA a r m a.length).tdiv e))) (out ++ [nextA a (wrap64 ((sumA a r m a.length).tdiv e))]) (m + 1))
    else out
theorem core_ev (r : List Int) (o : Int) (hl : r.length ≤ 1000) : ∀ (d m : Nat) (e : Int) (a : List Int) (out : List (List Int)), m + d = 34 → 1 ≤ m → a.length + 1 = m → out.length ≤ m → 1 ≤ e →
    Ev (fun k => serinetteshadow_SolveCore.l0 k r o e a out (m : Int)) (coreR r (mn o 32) d e a out m) := by
  have hmn : mn o 32 ≤ 32 := by unfold mn; split <;> omega
  intro d
  induction d with
  | zero =>
    intro m e a out hm h1 ha ho he
    have stop : Ev (fun k => serinetteshadow_SolveCore.j1 k r o e a out (m : Int) false) out := by
      refine succ ?_
      simp only [serinetteshadow_SolveCore.j1]
      exact neg (by decide) (now _)
    refine succ ?_
    simp only [serinetteshadow_SolveCore.l0]
    rw [decide_eq_false (show ¬ (m : Int) ≤ mn o 32 by omega)]
    simp only [coreR]
    by_cases hc : (m : Int) < r.length
    · exact pos hc stop
    · exact neg hc stop
  | succ d ih =>
    intro m e a out hm h1 ha ho he
    have stop : Ev (fun k => serinetteshadow_SolveCore.j1 k r o e a out (m : Int) false) out := by
      refine succ ?_
      simp only [serinetteshadow_SolveCore.j1]
      exact neg (by decide) (now _)
    refine succ ?_
    simp only [serinetteshadow_SolveCore.l0]
    simp only [coreR]
    by_cases hc : (m : Int) < r.length
    · refine pos hc ?_
      by_cases hc2 : (m : Int) ≤ mn o 32
      · rw [decide_eq_true hc2, if_pos ⟨hc, hc2⟩]
        refine succ ?_
        simp only [serinetteshadow_SolveCore.j1]
        refine pos trivial (pos (by omega) (pos (by omega) ?_))
        rw [rd_nat]
        have sums : ∀ (c j : Nat), j + c = a.length → Ev (fun k => serinetteshadow_SolveCore.l1 k r o e a out (m : Int) (sumA a r m j) a (a.length : Int) (j : Int)) (if wrap64 ((sumA a r m a.length).tdiv e) ≤ -1048576 ∨ wrap64 ((sumA a r m a.length).tdiv e) ≥ 1048576 then out
       else if (nextA a (wrap64 ((sumA a r m a.length).tdiv e))).any farB = true then out
       else if newE e (wrap64 ((sumA a r m a.length).tdiv e)) < 1 then out ++ [nextA a (wrap64 ((sumA a r m a.length).tdiv e))]
       else coreR r (mn o 32) d (newE e (wrap64 ((sumA a r m a.length).tdiv e))) (nextA a (wrap64 ((sumA a r m a.length).tdiv e))) (out ++ [nextA a (wrap64 ((sumA a r m a.length).tdiv e))]) (m + 1)) := by
          intro c
          induction c with
          | zero =>
            intro j hj
            obtain rfl : j = a.length := by omega
            refine succ ?_
            simp only [serinetteshadow_SolveCore.l1]
            refine neg (by omega) (neg (by omega) ?_)
            generalize wrap64 ((sumA a r m a.length).tdiv e) = q
            have leave : Ev (fun k => serinetteshadow_SolveCore.j3 k r o e a out (m : Int) q true) out := by
              refine succ ?_
              simp only [serinetteshadow_SolveCore.j3]
              exact pos trivial (now _)
            by_cases q1 : q ≤ -1048576
            · rw [if_pos (.inl q1)]
              exact pos q1 leave
            · refine neg q1 ?_
              by_cases q2 : q ≥ 1048576
              · rw [if_pos (.inr q2), decide_eq_true q2]
                exact leave
              · rw [if_neg (fun h => h.elim q1 q2), decide_eq_false q2]
                refine succ ?_
                simp only [serinetteshadow_SolveCore.j3]
                refine neg (by decide) (bnd (next_ev a q (by omega)) (bnd (far_ev _ (by rw [nextA_len]; omega)) ?_))
                by_cases f : (nextA a q).any farB = true
                · rw [if_pos f]
                  exact pos f (now _)
                · rw [if_neg f]
                  refine neg f (pos (by omega) ?_)
                  simp only [Option.bind_some]
                  by_cases g : newE e q < 1
                  · rw [if_pos g]
                    exact pos g (now _)
                  · rw [if_neg g]
                    refine neg g ?_
                    rw [w64 (x := (m : Int) + 1) (by omega) (by omega)]
                    exact ih (m + 1) (newE e q) _ _ (by omega) (by omega) (by rw [nextA_len]; omega) (by simp; omega) (by omega)
          | succ c ihc =>
            intro j hj
            refine succ ?_
            simp only [serinetteshadow_SolveCore.l1]
            have e2 : wrap64 (wrap64 ((m : Int) - 1) - (j : Int)) = ((m - 1 - j : Nat) : Int) := by
              rw [w64 (x := (m : Int) - 1) (by omega) (by omega), w64 (by omega) (by omega)]; omega
            rw [e2, rd_nat, rd_nat, w64 (x := (j : Int) + 1) (by omega) (by omega)]
            exact pos (by omega) (pos (by omega) (pos (by omega) (pos (by omega) (pos (by omega) (ihc (j + 1) (by omega))))))
        exact sums a.length 0 (by omega)
      · rw [decide_eq_false hc2, if_neg (fun h => hc2 h.2)]
        exact stop
    · rw [if_neg (fun h => hc h.1)]
      exact neg hc stop
theorem shGo_pos (x : Int) (hx : 1 ≤ x) : ∀ d s, 1 ≤ x / 2 ^ s → 1 ≤ x / 2 ^ shGo x d s
  | 0, s, h => h
  | d + 1, s, h => by
    simp only [shGo]
    split
    · exact shGo_pos x hx d (s + 1) (by rw [div_two]; omega)
    · exact h
/-- The factors, order by order. -/
def solveV (r : List Int) (o : Int) : List (List Int) := if (r.length : Int) = 0 ∨ rd r 0 < 1 then [] else coreR (shL r (sh (rd r 0))) (mn o 32) 33 (rd r 0 / 2 ^ sh (rd r 0)) [] [] 1
theorem solve_ev (r : List Int) (o : Int) (hl : r.length ≤ 1000) (hx : rd r 0 < 9223372036854775808) : Ev (fun k => solve_Solve.f k r o) (solveV r o) := by
  unfold solve_Solve.f solveV
  have none_ : Ev (fun k => solve_Solve.j0 k r o true) [] := by
    refine succ ?_
    simp only [solve_Solve.j0]
    exact pos trivial (now _)
  by_cases h0 : (r.length : Int) = 0
  · rw [if_pos (.inl h0)]
    exact pos h0 none_
  · refine neg h0 (pos (by omega) ?_)
    by_cases h1 : rd r 0 < 1
    · rw [if_pos (.inr h1), decide_eq_true h1]
      exact none_
    · rw [if_neg (fun h => h.elim h0 h1), decide_eq_false h1]
      refine succ ?_
      simp only [solve_Solve.j0]
      refine neg (by decide) (bnd (down_ev' r hl (by omega) hx) ?_)
      have hc : Ev (fun k => serinetteshadow_SolveCore.f k (shL r (sh (rd r 0))) o) (coreR (shL r (sh (rd r 0))) (mn o 32) 33 (rd r 0 / 2 ^ sh (rd r 0)) [] [] 1) := by
        unfold serinetteshadow_SolveCore.f
        have r0 : rd (shL r (sh (rd r 0))) 0 = rd r 0 / 2 ^ sh (rd r 0) := by
          cases r with
          | nil => simp at h0
          | cons a t => simp [shL, rd]
        refine pos (by rw [shL_len]; omega) ?_
        rw [r0]
        have := core_ev (shL r (sh (rd r 0))) o (by rw [shL_len]; omega) 33 1 (rd r 0 / 2 ^ sh (rd r 0)) [] [] rfl (by omega) rfl (by simp) (shGo_pos (rd r 0) (by omega) 34 0 (by simp; omega))
        exact this
      exact bnd hc (now _)
end Go.Proofs.Ythcognclnmcbhaa.PL
