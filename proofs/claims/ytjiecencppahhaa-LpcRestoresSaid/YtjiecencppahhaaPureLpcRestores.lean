/- LpcRestores: what any numbers restore, behind any that stand ahead, is as the reference says, as long as all are near. For every input (the law's own guards are in it). -/
import Derived.Test.YtjiecencppahhaaPAx11
import Derived.Test.YtjiecencppahhaaPLpcAwake
namespace Go.Proofs.Ytjiecencppahhaa.Pure
open Go.RowKit Go.Proofs.Ytjiecencppahhaa.PA Go.Proofs.YtjiecencppahhaaW.PrintWords Go.Proofs.YtjiecencppahhaaW.PrintLast Go.Proofs.Ytjiecencppahhaa.PL
set_option linter.unusedSimpArgs false
set_option linter.unusedVariables false
theorem allI {l : List Int} (h : ∀ x ∈ l, (Lit.int .i64 x).wf = true) : AllI l := fun a ha => wf64 (h a ha)
/-- The reference ends where a number is far. -/
def rrest (s : Int) (L P : List Int) : List Int → List Int
  | [] => []
  | n :: t => if wrap64 (n + td s L P) > 1099511627776 ∨ wrap64 (n + td s L P) < -1099511627776 then [wrap64 (n + td s L P)] else wrap64 (n + td s L P) :: rrest s L (wrap64 (n + td s L P) :: P) t
theorem rrest_len (s : Int) (L : List Int) : ∀ (t P : List Int), (rrest s L P t).length ≤ t.length
  | [], _ => by simp [rrest]
  | a :: t, P => by
    rw [rrest]
    split
    · simp
    · have := rrest_len s L t (wrap64 (a + td s L P) :: P)
      simp only [List.length_cons]; omega
theorem rrest_near (s : Int) (L : List Int) : ∀ (t P : List Int), NearL (rrest s L P t) → rrest s L P t = lrest s L P t
  | [], _, _ => rfl
  | a :: t, P, h => by
    rw [rrest] at h ⊢
    split
    · rename_i hc
      rw [if_pos hc] at h
      have := h _ (List.mem_singleton.2 rfl)
      omega
    · rename_i hc
      rw [if_neg hc] at h
      rw [lrest, rrest_near s L t _ (fun x hx => h x (by simp [hx]))]
theorem rrest_l0 (rest : List Int) (hr : rest.length < 1099511627) (s p : Int) (hs : 0 ≤ s ∧ s ≤ 15) (L : List Int) (hL : L.length ≤ 32) : ∀ (t q P out : List Int) (i : Int), rest = q ++ t → i = q.length → out = P.reverse → L.length ≤ P.length → P.length + t.length < 1099511627776 →
    Ev (fun k => serinetteref12_Restore.l0 k rest out i s p L) (out ++ rrest s L P t, 0) := by
  intro t
  induction t with
  | nil =>
    intro q P out i hq hi ho hP hlen
    refine succ ?_
    simp only [serinetteref12_Restore.l0]
    exact neg (by rw [hq, hi]; simp) (cst (by simp [rrest]))
  | cons a t ih =>
    intro q P out i hq hi ho hP hlen
    simp only [List.length_cons] at hlen
    have lq : rest.length = q.length + t.length + 1 := by rw [hq]; simp; omega
    have lo : out.length = P.length := by rw [ho]; simp
    refine succ ?_
    simp only [serinetteref12_Restore.l0]
    have ra : rd rest i = a := by rw [hq]; exact rd_at' _ _ _ (by simp [hi])
    have hw1 : wrap64 (i + 1) = i + 1 := w64 (by omega) (by omega)
    have ht := told_ev (x := out) (t := []) (by simpa using ho) (by omega) s p hs L hL hP
    rw [← lo] at ht
    rw [ra, hw1]
    refine pos (by omega) (pos (by omega) (bnd ht (pos (by omega) ?_)))
    simp only [Option.bind_some]
    rw [rrest]
    by_cases c1 : wrap64 (a + td s L P) > 1099511627776
    · rw [if_pos (.inl c1)]
      exact pos c1 (now _)
    refine neg c1 ?_
    by_cases c2 : wrap64 (a + td s L P) < -1099511627776
    · rw [if_pos (.inr c2)]
      exact pos c2 (now _)
    rw [if_neg (by omega)]
    refine neg c2 ?_
    have := ih (q ++ [a]) (wrap64 (a + td s L P) :: P) (out ++ [wrap64 (a + td s L P)]) (i + 1) (by simp [hq]) (by simp [hi]) (by simp [ho]) (by simp; omega) (by simp; omega)
    simpa using this
def RREST (s p : Int) (L warm rest : List Int) : List Int × Int := if okL s p L then (if warm.length = L.length then (warm ++ rrest s L warm.reverse rest, 0) else ([], 1)) else ([], 1)
theorem ref_restoreL_ev (warm rest : List Int) (hw : warm.length < 1099511627776) (hr : rest.length < 1099511627) (s p : Int) (L : List Int) (hL : L.length < 1099511627776) : Ev (fun k => serinetteref12_Restore.f k warm rest s p L) (RREST s p L warm rest) := by
  unfold serinetteref12_Restore.f RREST
  refine bnd (ref_check_ev s p L hL) ?_
  by_cases h : okL s p L
  · rw [if_pos h]
    refine pos (chk_yes h) ?_
    by_cases h2 : warm.length = L.length
    · rw [if_pos h2]
      refine pos (by omega) ?_
      simp only [Option.bind_some, List.nil_append, List.length_nil, Nat.zero_add]
      have h32 := h.2.1
      refine pos (by omega) ?_
      exact rrest_l0 rest hr s p ⟨h.2.2.2.2.1, h.2.2.2.2.2.1⟩ L h.2.1 rest [] warm.reverse warm 0 rfl rfl (by simp) (by simp; omega) (by simp; omega)
    · rw [if_neg h2]
      exact neg (by omega) (now _)
  · rw [if_neg h]
    have e := chk_no h
    exact neg (by omega) (cst (by rw [e]))
theorem LpcRestores : ∀ (l0 : List Int) (l1 : List Int) (a2_0 : Int) (a2_1 : Int) (l2_2 : List Int), l0.length ≤ maxLen → l0.length * 8 ≤ 140737488351232 → (∀ x ∈ l0, (Lit.int .i64 x).wf = true) → l1.length ≤ maxLen → l1.length * 8 ≤ 140737488351232 → (∀ x ∈ l1, (Lit.int .i64 x).wf = true) → (Lit.int .i64 a2_0).wf = true → (Lit.int .i64 a2_1).wf = true → l2_2.length ≤ maxLen → (∀ x ∈ l2_2, (Lit.int .i64 x).wf = true) → ∃ k, serinettelaw12_LpcRestores.f k l0 l1 a2_0 a2_1 l2_2 = some true := by
  intro x y s p L h1 h2 hw h3 h4 hwy ws wp hL hLw
  refine Ev.rounds ?_
  unfold serinettelaw12_LpcRestores.f
  refine bnd awake_ev (bnd (near_ev x (by omega)) (bnd (near_ev y (by omega)) ?_))
  have skip : Ev (fun k => serinettelaw12_LpcRestores.j0 k x y true true s p L) true := by
    refine succ ?_
    simp only [serinettelaw12_LpcRestores.j0]
    exact pos trivial (now _)
  by_cases hl : (x.length : Int) > 40
  · exact pos hl skip
  refine neg hl ?_
  by_cases hly : (y.length : Int) > 50
  · exact pos hly skip
  refine neg hly ?_
  by_cases hn : NearL x
  · refine pos (by simp [hn]) ?_
    by_cases hny : NearL y
    · refine pos (by simp [hny]) ?_
      by_cases hF : (L.length : Int) > 40
      · rw [decide_eq_true hF]; exact skip
      rw [decide_eq_false hF]
      refine succ ?_
      simp only [serinettelaw12_LpcRestores.j0]
      have hi := allI hLw
      have hlen : (RREST s p L x y).1.length ≤ 100 := by
        unfold RREST
        split
        · split
          · have := rrest_len s L y x.reverse
            simp only [List.length_append]; omega
          · simp
        · simp
      refine neg (by simp) (bnd (ref_restoreL_ev x y (by omega) (by omega) s p L (by omega)) (bnd (near_ev _ (by omega)) ?_))
      by_cases hnb : NearL (RREST s p L x y).1
      · refine pos (by simp [hnb]) (bnd (restoreL_ev x y (by omega) (by omega) s p L (by omega) hi) (pos trivial ?_))
        have e : REST s p L x y = RREST s p L x y := by
          unfold REST RREST
          by_cases h : okL s p L
          · rw [if_pos h, if_pos h]
            by_cases h5 : x.length = L.length
            · rw [if_pos h5, if_pos h5]
              unfold RREST at hnb
              rw [if_pos h, if_pos h5] at hnb
              rw [rrest_near s L y x.reverse (fun a ha => hnb a (by simp [ha]))]
            · rw [if_neg h5, if_neg h5]
          · rw [if_neg h, if_neg h]
        rw [e]
        exact pos rfl (bnd (ints_refl _ (by omega)) (now _))
      · exact neg (by simp [hnb]) (now _)
    · exact neg (by simp [hny]) skip
  · exact neg (by simp [hn]) skip
end Go.Proofs.Ytjiecencppahhaa.Pure
