/- LpcParts: what is left of a beginning is the beginning of what is left. For every input (the law's own guards are in it). -/
import Derived.Test.YtjiecencppahhaaPAx14
import Derived.Test.YtjiecencppahhaaPLpcAwake
namespace Go.Proofs.Ytjiecencppahhaa.Pure
open Go.RowKit Go.Proofs.Ytjiecencppahhaa.PA Go.Proofs.YtjiecencppahhaaW.PrintWords Go.Proofs.YtjiecencppahhaaW.PrintLast Go.Proofs.Ytjiecencppahhaa.PL
set_option linter.unusedSimpArgs false
set_option linter.unusedVariables false
theorem allI {l : List Int} (h : ∀ x ∈ l, (Lit.int .i64 x).wf = true) : AllI l := fun a ha => wf64 (h a ha)
theorem lres_take (s : Int) (L : List Int) : ∀ (t : List Int) (j : Nat) (P l : List Int), lres s L P t = some l → lres s L P (t.take j) = some (l.take j)
  | [], j, P, l, h => by simp [lres] at h; subst h; simp [lres]
  | a :: t, 0, P, l, h => by simp [lres]
  | a :: t, j + 1, P, l, h => by
    rw [lres] at h
    split at h
    · cases h
    · rename_i hc
      obtain ⟨l1, h1, rfl⟩ := Option.map_eq_some_iff.1 h
      rw [List.take_succ_cons, lres, if_neg hc, lres_take s L t j _ l1 h1]
      rfl
theorem LpcParts : ∀ (l0 : List Int) (a1_0 : Int) (a1_1 : Int) (l1_2 : List Int) (a2 : Int), l0.length ≤ maxLen → l0.length * 8 ≤ 140737488351232 → (∀ x ∈ l0, (Lit.int .i64 x).wf = true) → (Lit.int .i64 a1_0).wf = true → (Lit.int .i64 a1_1).wf = true → l1_2.length ≤ maxLen → (∀ x ∈ l1_2, (Lit.int .i64 x).wf = true) → (Lit.int .u8 a2).wf = true → ∃ k, serinettelaw12_LpcParts.f k l0 a1_0 a1_1 l1_2 a2 = some true := by
  intro x s p L at_ h1 h2 hw ws wp hL hLw w2
  have b2 := wfu8 w2
  refine Ev.rounds ?_
  unfold serinettelaw12_LpcParts.f
  refine bnd awake_ev (bnd (near_ev x (by omega)) ?_)
  have skip : Ev (fun k => serinettelaw12_LpcParts.j0 k x at_ true true s p L) true := by
    refine succ ?_
    simp only [serinettelaw12_LpcParts.j0]
    exact pos trivial (now _)
  by_cases hl : (x.length : Int) > 80
  · exact pos hl skip
  refine neg hl ?_
  by_cases hn : NearL x
  · refine pos (by simp [hn]) ?_
    by_cases hF : (L.length : Int) > 40
    · rw [decide_eq_true hF]; exact skip
    rw [decide_eq_false hF]
    refine succ ?_
    simp only [serinettelaw12_LpcParts.j0]
    have hi := allI hLw
    have e1 : wrap64 ((x.length : Int) + 1) = (x.length : Int) + 1 := w64 (by omega) (by omega)
    have e2 : wrap64 at_ = at_ := w64 (by omega) (by omega)
    rw [e1, e2]
    have hk1 : 0 ≤ Int.tmod at_ ((x.length : Int) + 1) := Int.tmod_nonneg _ b2.1
    have hk2 : Int.tmod at_ ((x.length : Int) + 1) < (x.length : Int) + 1 := Int.tmod_lt_of_pos _ (by omega)
    obtain ⟨j, hj⟩ := Int.eq_ofNat_of_zero_le hk1
    rw [hj, Int.toNat_natCast]
    refine neg (by simp) (neg (by omega) (bnd (residualL_ev x (by omega) s p L (by omega) hi) (pos (by omega) (pos (by omega) ?_))))
    have htl : (x.take j).length = j := by simp; omega
    refine bnd (residualL_ev (x.take j) (by omega) s p L (by omega) hi) ?_
    by_cases hok : okL s p L
    · by_cases hx : x.length < L.length
      · have e : RES s p L x = ([], 2) := by unfold RES; rw [if_pos hok, if_pos hx]
        rw [e]
        exact neg (by decide) (now _)
      · cases hr : lres s L (x.take L.length).reverse (x.drop L.length) with
        | none =>
          have e : RES s p L x = ([], 14) := by unfold RES; rw [if_pos hok, if_neg hx, hr]; rfl
          rw [e]
          exact neg (by decide) (now _)
        | some l =>
          have e : RES s p L x = (l, 0) := by unfold RES; rw [if_pos hok, if_neg hx, hr]; rfl
          rw [e]
          refine pos rfl ?_
          by_cases hjl : j < L.length
          · have e3 : RES s p L (x.take j) = ([], 2) := by unfold RES; rw [if_pos hok, if_pos (by omega)]
            rw [e3]
            exact pos (by omega) (pos trivial (now _))
          · have hll := lres_len _ _ _ _ _ hr
            have e4 : (x.take j).drop L.length = (x.drop L.length).take (j - L.length) := by rw [List.drop_take]
            have e5 : (x.take j).take L.length = x.take L.length := by rw [List.take_take]; congr 1; omega
            have e3 : RES s p L (x.take j) = (l.take (j - L.length), 0) := by
              unfold RES
              rw [if_pos hok, if_neg (by omega), e4, e5, lres_take _ _ _ _ _ _ hr]
              rfl
            rw [e3]
            have hl5 : (l.take (j - L.length)).length = j - L.length := by simp at hll ⊢; omega
            refine neg (by omega) (pos trivial (pos rfl (pos (by simp; omega) (pos (by omega) ?_))))
            have e6 : l.take (((l.take (j - L.length)).length : Int).toNat) = l.take (j - L.length) := by rw [hl5, Int.toNat_natCast]
            simp only [e6]
            exact bnd (ints_refl _ (by omega)) (now _)
    · have e : RES s p L x = ([], 1) := by unfold RES; rw [if_neg hok]
      rw [e]
      exact neg (by decide) (now _)
  · exact neg (by simp [hn]) skip
end Go.Proofs.Ytjiecencppahhaa.Pure
