/- LpcBack: what is left of numbers restores them, by any predictor; and nothing that is left is wide. For every input (the law's own guards are in it). -/
import Derived.Test.YtjiecencppahhaaPAx12
import Derived.Test.YtjiecencppahhaaPLpcAwake
namespace Go.Proofs.Ytjiecencppahhaa.Pure
open Go.RowKit Go.Proofs.Ytjiecencppahhaa.PA Go.Proofs.YtjiecencppahhaaW.PrintWords Go.Proofs.YtjiecencppahhaaW.PrintLast Go.Proofs.Ytjiecencppahhaa.PL
set_option linter.unusedSimpArgs false
set_option linter.unusedVariables false
theorem allI {l : List Int} (h : ∀ x ∈ l, (Lit.int .i64 x).wf = true) : AllI l := fun a ha => wf64 (h a ha)
theorem l0_ev (x l L : List Int) (s p : Int) (hx : x.length ≤ 80) (hlx : L.length ≤ x.length) (hl : l.length ≤ 80) (hb : ∀ n ∈ l, -2147483647 ≤ n ∧ n ≤ 2147483647) (hL : L.length ≤ 40) (hi : AllI L) (hR : REST s p L (x.take L.length) l = (x, 0)) :
    ∀ (t q : List Int), l = q ++ t → Ev (fun k => serinettelaw12_LpcBack.l0 k x true l (L.length : Int) (q.length : Int) s p L) true := by
  intro t
  induction t with
  | nil =>
    intro q hq
    refine succ ?_
    simp only [serinettelaw12_LpcBack.l0]
    refine neg (by rw [hq]; simp) (pos (by omega) (pos (by omega) ?_))
    rw [Int.toNat_natCast]
    have := restoreL_ev (x.take L.length) l (by simp; omega) (by omega) s p L (by omega) hi
    rw [hR] at this
    refine bnd this (pos trivial (pos rfl ?_))
    exact bnd (ints_refl x (by omega)) (now _)
  | cons a t ih =>
    intro q hq
    have l1 := congrArg List.length hq
    simp only [List.length_append, List.length_cons] at l1
    refine succ ?_
    simp only [serinettelaw12_LpcBack.l0]
    have ra : rd l (q.length : Int) = a := by rw [hq]; exact rd_at _ _ _
    have ha := hb a (by rw [hq]; simp)
    rw [ra, w64 (by omega) (by omega)]
    refine pos (by omega) (pos (by omega) (neg (by omega) (neg (by omega) ?_)))
    have := ih (q ++ [a]) (by simp [hq])
    simpa using this
theorem LpcBack : ∀ (l0 : List Int) (a1_0 : Int) (a1_1 : Int) (l1_2 : List Int), l0.length ≤ maxLen → l0.length * 8 ≤ 140737488351232 → (∀ x ∈ l0, (Lit.int .i64 x).wf = true) → (Lit.int .i64 a1_0).wf = true → (Lit.int .i64 a1_1).wf = true → l1_2.length ≤ maxLen → (∀ x ∈ l1_2, (Lit.int .i64 x).wf = true) → ∃ k, serinettelaw12_LpcBack.f k l0 a1_0 a1_1 l1_2 = some true := by
  intro x s p L h1 h2 hw ws wp hL hLw
  refine Ev.rounds ?_
  unfold serinettelaw12_LpcBack.f
  refine bnd awake_ev (bnd (near_ev x (by omega)) ?_)
  have skip : Ev (fun k => serinettelaw12_LpcBack.j0 k x true true s p L) true := by
    refine succ ?_
    simp only [serinettelaw12_LpcBack.j0]
    exact pos trivial (now _)
  by_cases hl : (x.length : Int) > 80
  · exact pos hl skip
  refine neg hl ?_
  by_cases hn : NearL x
  · refine pos (by simp [hn]) ?_
    by_cases hF : (L.length : Int) > 40
    · rw [decide_eq_true hF]; exact skip
    rw [decide_eq_false hF]
    refine succ ?_
    simp only [serinettelaw12_LpcBack.j0]
    have hi := allI hLw
    refine neg (by simp) (bnd (residualL_ev x (by omega) s p L (by omega) hi) ?_)
    have hc := check_ev s p L (by omega) hi
    by_cases hok : okL s p L
    · rw [chk_yes hok] at hc
      by_cases hx : x.length < L.length
      · have e : RES s p L x = ([], 2) := by unfold RES; rw [if_pos hok, if_pos hx]
        rw [e]
        exact neg (by decide) (pos trivial (pos rfl (bnd hc (now _))))
      · cases hr : lres s L (x.take L.length).reverse (x.drop L.length) with
        | none =>
          have e : RES s p L x = ([], 14) := by unfold RES; rw [if_pos hok, if_neg hx, hr]; rfl
          rw [e]
          exact neg (by decide) (pos trivial (pos rfl (bnd hc (now _))))
        | some l =>
          have e : RES s p L x = (l, 0) := by unfold RES; rw [if_pos hok, if_neg hx, hr]; rfl
          rw [e]
          have hll := lres_len _ _ _ _ _ hr
          simp only [List.length_drop] at hll
          have e7 : wrap64 ((x.length : Int) - (L.length : Int)) = (x.length : Int) - L.length := w64 (by omega) (by omega)
          rw [e7]
          refine pos rfl (pos (by show (l.length : Int) = _; omega) ?_)
          rw [decide_eq_false (by omega)]
          refine succ ?_
          simp only [serinettelaw12_LpcBack.j1]
          refine neg (by simp) ?_
          have hR : REST s p L (x.take L.length) l = (x, 0) := by
            unfold REST
            rw [if_pos hok, if_pos (by simp; omega), restore_lres s L _ _ l (fun a ha => allI hw a (List.mem_of_mem_drop ha)) hr]
            simp
          exact l0_ev x l L s p (by omega) (by omega) (by omega) (lres_bd _ _ _ _ _ hr) (by omega) hi hR l [] rfl
    · rw [chk_no hok] at hc
      have e : RES s p L x = ([], 1) := by unfold RES; rw [if_neg hok]
      rw [e]
      exact neg (by decide) (pos trivial (pos rfl (bnd hc (now _))))
  · exact neg (by simp [hn]) skip
end Go.Proofs.Ytjiecencppahhaa.Pure
