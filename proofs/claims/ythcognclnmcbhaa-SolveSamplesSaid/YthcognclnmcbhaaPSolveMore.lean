/- The chapter's example; what serinetteref10.Right and Same answer; the shape of the factors. Condition: at most a thousand numbers of 64 bits. -/
import Derived.Test.YthcognclnmcbhaaPSolve
import Derived.Test.YthcognclnmcbhaaPAx11
import Derived.Test.YthcognclnmcbhaaPAx12
import Derived.Test.YthcognclnmcbhaaPAx13
namespace Go.Proofs.Ythcognclnmcbhaa.PL
open Go.RowKit Go.Proofs.Ythcognclnmcbhaa.PA Go.Proofs.YthcognclnmcbhaaW.PrintWords Go.Proofs.YthcognclnmcbhaaW.PrintMore
set_option linter.unusedVariables false
set_option linter.unusedSimpArgs false
theorem awake_ev : Ev (fun k => serinettelaw10_awake.f k) true := Ev.of serinettelaw10_awake.mono (k := 60) (by decide +kernel)
def RightP (r : List Int) : Prop := 0 < r.length → 0 ≤ rd r 0 ∧ rd r 0 ≤ 4611686018427387904 ∧ ∀ x ∈ r, -(rd r 0) ≤ x ∧ x ≤ rd r 0
instance (r : List Int) : Decidable (RightP r) := by unfold RightP; infer_instance
theorem right_ev (r : List Int) (hl : r.length < 1152921504606846976) (hw : ∀ x ∈ r, -9223372036854775808 ≤ x ∧ x < 9223372036854775808) : Ev (fun k => serinetteref10_Right.f k r) (decide (RightP r)) := by
  unfold serinetteref10_Right.f
  by_cases h0 : (r.length : Int) = 0
  · exact pos h0 (cst (by rw [decide_eq_true]; intro h; omega))
  · have no : ¬ RightP r → Ev (fun k => serinetteref10_Right.j0 k r true) (decide (RightP r)) := fun h => by
      refine succ ?_
      simp only [serinetteref10_Right.j0]
      exact pos trivial (cst (by rw [decide_eq_false h]))
    refine neg h0 (pos (by omega) ?_)
    by_cases h1 : rd r 0 < 0
    · exact pos h1 (no (fun h => by have := (h (by omega)).1; omega))
    · refine neg h1 ?_
      by_cases h2 : rd r 0 > 4611686018427387904
      · rw [decide_eq_true h2]
        exact no (fun h => by have := (h (by omega)).2.1; omega)
      · rw [decide_eq_false h2]
        refine succ ?_
        simp only [serinetteref10_Right.j0]
        refine neg (by decide) ?_
        have e : decide (RightP r) = decide (∀ x ∈ r, -(rd r 0) ≤ x ∧ x ≤ rd r 0) := decide_eq_decide.2 ⟨fun h => (h (by omega)).2.2, fun h _ => ⟨by omega, by omega, h⟩⟩
        rw [e]
        have key : ∀ (t p : List Int), r = p ++ t → Ev (fun k => serinetteref10_Right.l0 k r (p.length : Int)) (decide (∀ x ∈ t, -(rd r 0) ≤ x ∧ x ≤ rd r 0)) := by
          intro t
          induction t with
          | nil =>
            intro p hp
            refine succ ?_
            simp only [serinetteref10_Right.l0]
            exact neg (by rw [hp]; simp) (cst (by simp))
          | cons x t ih =>
            intro p hp
            have l1 := congrArg List.length hp
            simp only [List.length_append, List.length_cons] at l1
            refine succ ?_
            simp only [serinetteref10_Right.l0]
            have ra : rd r (p.length : Int) = x := by rw [hp]; exact rd_at _ _ _
            rw [ra, w64 (x := (p.length : Int) + 1) (by omega) (by omega), w64 (x := -(rd r 0)) (by omega) (by omega)]
            refine pos (by omega) (pos (by omega) (pos (by omega) ?_))
            by_cases g1 : x > rd r 0
            · exact pos g1 (cst (by rw [decide_eq_false]; intro h; have := (h x (by simp)).2; omega))
            · refine neg g1 ?_
              by_cases g2 : x < -(rd r 0)
              · exact pos g2 (cst (by rw [decide_eq_false]; intro h; have := (h x (by simp)).1; omega))
              · refine neg g2 ?_
                have e2 : decide (∀ y ∈ x :: t, -(rd r 0) ≤ y ∧ y ≤ rd r 0) = decide (∀ y ∈ t, -(rd r 0) ≤ y ∧ y ≤ rd r 0) := decide_eq_decide.2 ⟨fun h y hy => h y (by simp [hy]), fun h y hy => by
                  rcases List.mem_cons.1 hy with rfl | hy
                  · omega
                  · exact h y hy⟩
                rw [e2]
                have := ih (p ++ [x]) (by simp [hp])
                simpa using this
        exact key r [] rfl
theorem rdL_nat (a : List (List Int)) (i : Nat) : rd_L1 a (i : Int) = a.getD i [] := by simp [rd_L1]
theorem same_refl (a : List (List Int)) (hl : a.length ≤ 1000) (hi : ∀ x ∈ a, x.length ≤ 1000) : Ev (fun k => serinetteref10_Same.f k a a) true := by
  unfold serinetteref10_Same.f
  refine pos rfl ?_
  have mem : ∀ i, i < a.length → (a.getD i []).length ≤ 1000 := fun i h => by
    rw [List.getD_eq_getElem?_getD, List.getElem?_eq_getElem h]; exact hi _ (List.getElem_mem h)
  have key : ∀ (d i : Nat), i + d = a.length → Ev (fun k => serinetteref10_Same.l0 k a a (i : Int)) true := by
    intro d
    induction d with
    | zero =>
      intro i h
      refine succ ?_
      simp only [serinetteref10_Same.l0]
      exact neg (by omega) (now _)
    | succ d ih =>
      intro i h
      have hm := mem i (by omega)
      refine succ ?_
      simp only [serinetteref10_Same.l0]
      refine pos (by omega) (pos (by omega) (pos (by omega) (pos (by trivial) ?_)))
      have inner : ∀ (c j : Nat), j + c = (a.getD i []).length → Ev (fun k => serinetteref10_Same.l1 k a a (i : Int) (j : Int)) true := by
        intro c
        induction c with
        | zero =>
          intro j hj
          refine succ ?_
          simp only [serinetteref10_Same.l1]
          rw [rdL_nat, w64 (x := (i : Int) + 1) (by omega) (by omega)]
          exact pos (by omega) (pos (by omega) (neg (by omega) (ih (i + 1) (by omega))))
        | succ c ihc =>
          intro j hj
          refine succ ?_
          simp only [serinetteref10_Same.l1]
          rw [rdL_nat, w64 (x := (j : Int) + 1) (by omega) (by omega)]
          exact pos (by omega) (pos (by omega) (pos (by omega) (pos (by omega) (pos (by omega) (pos (by omega) (pos (by trivial) (ihc (j + 1) (by omega))))))))
      exact inner _ 0 (Nat.zero_add _)
  exact key a.length 0 (by omega)
/-- The shape of factors, order by order: so many, none far, the last one within a whole. -/
def Shape (l : List (List Int)) : Prop := ∀ i, i < l.length → (l.getD i []).length = i + 1 ∧ (∀ x ∈ l.getD i [], farB x = false) ∧ -1048576 < (l.getD i []).getD i 0 ∧ (l.getD i []).getD i 0 < 1048576
theorem shape_snoc {out : List (List Int)} {a : List Int} {q : Int} (h : Shape out) (ha : a.length = out.length) (hf : ¬ (nextA a q).any farB = true) (hq : ¬ (q ≤ -1048576 ∨ q ≥ 1048576)) : Shape (out ++ [nextA a q]) := by
  intro i hi
  simp only [List.length_append, List.length_singleton] at hi
  rcases Nat.lt_or_ge i out.length with h1 | h1
  · have e : (out ++ [nextA a q]).getD i [] = out.getD i [] := by simp [List.getD_eq_getElem?_getD, List.getElem?_append_left h1]
    rw [e]; exact h i h1
  · obtain rfl : i = out.length := by omega
    have e : (out ++ [nextA a q]).getD out.length [] = nextA a q := by simp [List.getD_eq_getElem?_getD]
    have eq : (nextA a q).getD out.length 0 = q := by
      rw [← ha]; simp [nextA, List.getD_eq_getElem?_getD]
    rw [e, eq]
    refine ⟨by rw [nextA_len, ha], fun x hx => ?_, by omega, by omega⟩
    cases hb : farB x with
    | false => rfl
    | true => exact absurd (List.any_eq_true.2 ⟨x, hx, hb⟩) hf
theorem core_shape (r : List Int) (lim : Int) : ∀ (d m : Nat) (e : Int) (a : List Int) (out : List (List Int)), out.length + 1 = m → a.length = out.length → Shape out → ((out.length : Int) ≤ lim ∨ out.length = 0) →
    Shape (coreR r lim d e a out m) ∧ (((coreR r lim d e a out m).length : Int) ≤ lim ∨ (coreR r lim d e a out m).length = 0) ∧ (coreR r lim d e a out m).length ≤ out.length + d := by
  intro d
  induction d with
  | zero => intro m e a out _ _ h h2; exact ⟨h, h2, by simp [coreR]⟩
  | succ d ih =>
    intro m e a out hm ha h h2
    simp only [coreR]
    split
    · rename_i hc
      generalize wrap64 ((sumA a r m a.length).tdiv e) = q
      split
      · exact ⟨h, h2, by omega⟩
      · rename_i hq
        split
        · exact ⟨h, h2, by omega⟩
        · rename_i hf
          have hs := shape_snoc h ha hf hq
          have hlen : (out ++ [nextA a q]).length = out.length + 1 := by simp
          split
          · exact ⟨hs, .inl (by rw [hlen]; omega), by rw [hlen]; omega⟩
          · have := ih (m + 1) (newE e q) (nextA a q) (out ++ [nextA a q]) (by omega) (by rw [nextA_len]; omega) hs (.inl (by rw [hlen]; omega))
            rw [hlen] at this
            exact ⟨this.1, this.2.1, by omega⟩
    · exact ⟨h, h2, by omega⟩
theorem shape_nil : Shape [] := fun i h => by simp at h
theorem solve_shape (r : List Int) (o : Int) : Shape (solveV r o) ∧ (((solveV r o).length : Int) ≤ mn o 32 ∨ (solveV r o).length = 0) ∧ (solveV r o).length ≤ 33 := by
  unfold solveV
  split
  · exact ⟨shape_nil, .inr rfl, by simp⟩
  · have := core_shape (shL r (sh (rd r 0))) (mn o 32) 33 1 (rd r 0 / 2 ^ sh (rd r 0)) [] [] rfl rfl shape_nil (.inr rfl)
    exact ⟨this.1, this.2.1, by simpa using this.2.2⟩
theorem shape_in {l : List (List Int)} (h : Shape l) (hl : l.length ≤ 33) : ∀ x ∈ l, x.length ≤ 1000 := fun x hx => by
  obtain ⟨i, hi, rfl⟩ := List.getElem_of_mem hx
  have := (h i hi).1
  simp [List.getD_eq_getElem?_getD, hi] at this
  omega
theorem same_solve (r : List Int) (o : Int) : Ev (fun k => serinetteref10_Same.f k (solveV r o) (solveV r o)) true := by
  obtain ⟨h1, _, h3⟩ := solve_shape r o
  exact same_refl _ (by omega) (shape_in h1 h3)
end Go.Proofs.Ythcognclnmcbhaa.PL
