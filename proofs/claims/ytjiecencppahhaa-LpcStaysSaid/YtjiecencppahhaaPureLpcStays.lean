/- LpcStays: a number that stays leaves nothing by a factor that is a whole; what is too wide is told. For every input (the law's own guards are in it). -/
import Derived.Test.YtjiecencppahhaaPAx23
import Derived.Test.YtjiecencppahhaaPLpcAwake
namespace Go.Proofs.Ytjiecencppahhaa.Pure
open Go.RowKit Go.Proofs.Ytjiecencppahhaa.PA Go.Proofs.YtjiecencppahhaaW.PrintWords Go.Proofs.YtjiecencppahhaaW.PrintLast Go.Proofs.Ytjiecencppahhaa.PL
set_option linter.unusedSimpArgs false
set_option linter.unusedVariables false

theorem ok1 : okL 0 2 [1] := by decide +kernel
theorem td1 (x : Int) (P : List Int) (h : -9223372036854775808 ≤ x ∧ x < 9223372036854775808) : td 0 [1] (x :: P) = x := by
  simp only [td, dot, dot_nil]
  rw [show (1 : Int) * x + 0 = x by omega, w64 h.1 h.2]
  simp
theorem stay (n : Int) (h : -9223372036854775808 ≤ n ∧ n < 9223372036854775808) : ∀ (m : Nat) (P : List Int), lres 0 [1] (n :: P) (List.replicate m n) = some (List.replicate m 0)
  | 0, P => rfl
  | m + 1, P => by
    rw [List.replicate_succ, lres, td1 n P h, show n - n = 0 by omega]
    have e : wrap64 0 = 0 := by unfold wrap64; omega
    rw [e, if_neg (by omega), stay n h m (n :: P)]
    rfl
theorem l1_ev (a b : Int) (L : List Int) (m : Nat) (R : Bool) (h : Ev (fun k => (lpc_Residual.f k [a, b] 0 2 [1]).bind fun bt258 => (if (wrap64 (b - a)) ≥ 2147483648 then (if true = true then (if ((bt258.2 == 14) == true) = true then (some true) else (some false)) else (some false)) else (if true = true then (if ((bt258.2 == 14) == (decide ((wrap64 (b - a)) ≤ (-2147483648)))) = true then (if (wrap64 (b - a)) ≤ (-2147483648) then (some true) else (if bt258.2 = 0 then ((serinetteref01_Ints.f k bt258.1 (([wrap64 (b - a)] : List Int))).bind fun t265 => (some t265)) else (some false))) else (some false)) else (some false)))) R) (hm : m < 1000) :
    ∀ d i : Nat, i + d = m → Ev (fun k => serinettelaw12_LpcStays.l1 k a b true (List.replicate m 0) (i : Int) 0 2 [1]) R := by
  intro d
  induction d with
  | zero =>
    intro i hi
    refine succ ?_
    simp only [serinettelaw12_LpcStays.l1]
    refine neg (by simp; omega) h
  | succ d ih =>
    intro i hi
    refine succ ?_
    simp only [serinettelaw12_LpcStays.l1]
    have hz : rd (List.replicate m (0 : Int)) (i : Int) = 0 := by
      rw [rd_lt (by omega) (by simp; omega)]; simp
    rw [hz, w64 (by omega) (by omega)]
    refine pos (by simp; omega) (pos (by omega) (pos rfl ?_))
    exact ih (i + 1) (by omega)
theorem l0_ev (a0 a1 a2 a3 : Int) (m : Nat) (hm : m < 60) (ha : wrap64 (Int.tmod a1 50) = m) (R : Bool) (h : Ev (fun k => (lpc_Residual.f k (List.replicate (m + 1) a0) 0 2 [1]).bind fun bt250 => (if bt250.2 = 0 then (serinettelaw12_LpcStays.j1 k a2 a3 true bt250.1 ((bt250.1.length : Int) != (wrap64 (((List.replicate (m + 1) a0).length : Int) - 1))) 0 2 [1]) else (serinettelaw12_LpcStays.j1 k a2 a3 true bt250.1 true 0 2 [1]))) R) :
    ∀ d i : Nat, i + d = m + 1 → Ev (fun k => serinettelaw12_LpcStays.l0 k a0 a1 a2 a3 true (List.replicate i a0) (i : Int) 0 2 [1]) R := by
  intro d
  induction d with
  | zero =>
    intro i hi
    obtain rfl : i = m + 1 := by omega
    refine succ ?_
    simp only [serinettelaw12_LpcStays.l0]
    rw [ha]
    exact neg (by omega) h
  | succ d ih =>
    intro i hi
    refine succ ?_
    simp only [serinettelaw12_LpcStays.l0]
    rw [ha, w64 (x := (i : Int) + 1) (by omega) (by omega)]
    refine pos (by omega) (pos (by simp; omega) ?_)
    have e : List.replicate i a0 ++ [a0] = List.replicate (i + 1) a0 := by rw [List.replicate_succ']
    rw [e]
    exact ih (i + 1) (by omega)
theorem LpcStays : serinettelaw12_LpcStays.Pure := by
  intro a0 a1 a2 a3 w0 w1 w2 w3
  have b0 := wf64 w0; have b1 := wfu8 w1; have b2 := wf64 w2; have b3 := wf64 w3
  refine Ev.rounds ?_
  unfold serinettelaw12_LpcStays.f
  refine bnd awake_ev (bnd (near_ev _ (by simp)) ?_)
  by_cases hn : NearL [a0, a2, a3]
  · refine pos (by simp [hn]) ?_
    have hm1 : 0 ≤ Int.tmod a1 50 := Int.tmod_nonneg _ b1.1
    have hm2 : Int.tmod a1 50 < 50 := Int.tmod_lt_of_pos _ (by decide)
    obtain ⟨m, hm⟩ := Int.eq_ofNat_of_zero_le hm1
    have n0 := hn a0 (by simp); have n2 := hn a2 (by simp); have n3 := hn a3 (by simp)
    refine l0_ev a0 a1 a2 a3 m (by omega) (by rw [hm, w64 (by omega) (by omega)]) true ?_ (m + 1) 0 (by omega)
    have hres := residualL_ev (List.replicate (m + 1) a0) (by rw [List.length_replicate]; omega) 0 2 [1] (by simp) (by intro a ha; simp at ha; omega)
    have e : RES 0 2 [1] (List.replicate (m + 1) a0) = (List.replicate m 0, 0) := by
      unfold RES
      rw [if_pos ok1, if_neg (by simp)]
      have e1 : (List.replicate (m + 1) a0).take [(1 : Int)].length = [a0] := by simp [List.replicate_succ]
      have e2 : (List.replicate (m + 1) a0).drop [(1 : Int)].length = List.replicate m a0 := by simp
      rw [e1, e2, List.reverse_singleton, stay a0 b0 m []]
      rfl
    rw [e] at hres
    refine bnd hres (pos rfl ?_)
    have e3 : (((List.replicate m (0 : Int)).length : Int) != wrap64 (((List.replicate (m + 1) a0).length : Int) - 1)) = false := by
      rw [bne_eq_false_iff_eq, List.length_replicate, List.length_replicate, w64 (by omega) (by omega)]; omega
    simp only [e3]
    refine succ ?_
    simp only [serinettelaw12_LpcStays.j1]
    refine neg (by simp) ?_
    refine l1_ev a2 a3 [1] m true ?_ (by omega) m 0 (by omega)
    have hr2 := residualL_ev [a2, a3] (by simp) 0 2 [1] (by simp) (by intro a ha; simp at ha; omega)
    have hw : wrap64 (a3 - a2) = a3 - a2 := w64 (by omega) (by omega)
    have e4 : RES 0 2 [1] [a2, a3] = if a3 - a2 ≤ -2147483648 ∨ a3 - a2 ≥ 2147483648 then ([], 14) else ([a3 - a2], 0) := by
      unfold RES
      rw [if_pos ok1, if_neg (by simp)]
      simp only [List.length_cons, List.length_nil, Nat.zero_add, List.take_succ_cons, List.take_zero, List.drop_succ_cons, List.drop_zero, List.reverse_singleton, lres, td1 a2 [] b2, hw]
      split <;> rfl
    by_cases c1 : a3 - a2 ≥ 2147483648
    · rw [e4, if_pos (.inr c1)] at hr2
      refine bnd hr2 ?_
      rw [hw]
      exact pos c1 (pos rfl (pos (by decide) (now _)))
    · by_cases c2 : a3 - a2 ≤ -2147483648
      · rw [e4, if_pos (.inl c2)] at hr2
        refine bnd hr2 ?_
        rw [hw]
        refine neg c1 (pos rfl (pos (by simp [c2]) (pos c2 (now _))))
      · rw [e4, if_neg (by omega)] at hr2
        refine bnd hr2 ?_
        rw [hw]
        refine neg c1 (pos rfl (pos (by simp [c2]) (neg c2 (pos rfl ?_))))
        exact bnd (ints_refl _ (by simp)) (now _)
  · exact neg (by simp [hn]) (cst rfl)
end Go.Proofs.Ytjiecencppahhaa.Pure
