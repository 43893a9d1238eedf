/- FixedSums: what is left of two, together, is left of their sum. For every input (the law's own guards are in it). -/
import Derived.Test.YtiojcihklmifgaaPAx17
import Derived.Test.YtiojcihklmifgaaPFixAwake
namespace Go.Proofs.Ytiojcihklmifgaa.Pure
open Go.RowKit Go.Proofs.Ytiojcihklmifgaa.PA Go.Proofs.YtiojcihklmifgaaW.PrintWords Go.Proofs.YtiojcihklmifgaaW.PrintLast Go.Proofs.Ytiojcihklmifgaa.PL
def sumL : List Int → List Int → List Int
  | a :: t, b :: u => wrap64 (a + b) :: sumL t u
  | _, _ => []
theorem sumL_len : ∀ (a b : List Int), a.length = b.length → (sumL a b).length = a.length
  | [], [], _ => rfl
  | a :: t, b :: u, h => by simp [sumL, sumL_len t u (by simpa using h)]
  | [], b :: u, h => by simp at h
  | a :: t, [], h => by simp at h
theorem sumL_diff : ∀ (a b : List Int), a.length = b.length → diff (sumL a b) = sumL (diff a) (diff b)
  | [], [], _ => rfl
  | [_], [_], _ => rfl
  | a :: a' :: t, b :: b' :: u, h => by
    have := sumL_diff (a' :: t) (b' :: u) (by simpa using h)
    simp only [sumL, diff] at this ⊢
    rw [this, w_sub_l, w_sub_r, w_add_l, w_add_r]
    congr 2; omega
  | [], _ :: _, h => by simp at h
  | _ :: _, [], h => by simp at h
  | [_], _ :: _ :: _, h => by simp at h
  | _ :: _ :: _, [_], h => by simp at h
theorem sumL_diffs : ∀ (n : Nat) (a b : List Int), a.length = b.length → diffs n (sumL a b) = sumL (diffs n a) (diffs n b)
  | 0, a, b, _ => rfl
  | n + 1, a, b, h => by rw [diffs, diffs, diffs, sumL_diff a b h]; exact sumL_diffs n _ _ (by rw [diff_len, diff_len, h])
theorem sumL_get : ∀ (a b : List Int) (i : Nat), a.length = b.length → i < a.length → (sumL a b).getD i 0 = wrap64 (a.getD i 0 + b.getD i 0)
  | a :: t, b :: u, 0, _, _ => by simp [sumL]
  | a :: t, b :: u, i + 1, h, hi => by
    have := sumL_get t u i (by simpa using h) (by simpa using hi)
    simpa [sumL] using this
  | [], _, i, _, hi => by simp at hi
  | a :: t, [], i, h, _ => by simp at h
theorem sums_l1 (a b : List Int) (h : a.length = b.length) (ha : a.length ≤ 100) : ∀ (d i : Nat), i + d = a.length → Ev (fun k => serinettelaw07_FixedSums.l1 k true a b (sumL a b) (i : Int)) true := by
  intro d
  have hl := sumL_len a b h
  induction d with
  | zero =>
    intro i hi
    refine succ ?_
    simp only [serinettelaw07_FixedSums.l1]
    exact neg (by omega) (now true)
  | succ d ih =>
    intro i hi
    refine succ ?_
    simp only [serinettelaw07_FixedSums.l1]
    rw [w64 (x := (i : Int) + 1) (by omega) (by omega)]
    refine pos (by omega) (pos (by omega) (pos (by omega) (pos (by omega) (pos ?_ (ih (i + 1) (by omega))))))
    rw [rd_nat, rd_nat, rd_nat]
    exact sumL_get a b i h (by omega)
theorem sums_fin (a b : List Int) (o : Int) (h : a.length = b.length) (ha : a.length ≤ 60) (ho : 0 ≤ o ∧ o ≤ 4) (f : Nat → Option Bool) (hf : ∀ k, f k = ((fixed_Residual.f k a o).bind fun bt294 => ((fixed_Residual.f k b o).bind fun bt298 => ((fixed_Residual.f k (sumL a b) o).bind fun bt302 => (if bt294.2 = bt298.2 then (if bt294.2 = bt302.2 then (if (bt294.1.length : Int) = (bt302.1.length : Int) then (serinettelaw07_FixedSums.j2 k true bt294.1 bt298.1 bt302.1 ((bt298.1.length : Int) != (bt302.1.length : Int))) else (serinettelaw07_FixedSums.j2 k true bt294.1 bt298.1 bt302.1 true)) else (serinettelaw07_FixedSums.j2 k true bt294.1 bt298.1 bt302.1 true)) else (serinettelaw07_FixedSums.j2 k true bt294.1 bt298.1 bt302.1 true)))))) : Ev f true := by
  have hl := sumL_len a b h
  have h5 : ¬ (o < 0 ∨ o > 4) := by omega
  refine Ev.congr hf (bnd (residual_ev a o (by omega)) (bnd (residual_ev b o (by omega)) (bnd (residual_ev (sumL a b) o (by omega)) ?_)))
  have key : ∃ (p q : List Int) (e : Int), resI a o = (p, e) ∧ resI b o = (q, e) ∧ resI (sumL a b) o = (sumL p q, e) ∧ p.length = q.length ∧ p.length ≤ 60 := by
    by_cases h6 : (a.length : Int) < o
    · exact ⟨[], [], 2, by rw [resI, if_neg h5, if_pos h6], by rw [resI, if_neg h5, if_pos (by omega)], by rw [resI, if_neg h5, if_pos (by omega)]; rfl, rfl, by simp⟩
    · refine ⟨diffs o.toNat a, diffs o.toNat b, 0, by rw [resI, if_neg h5, if_neg h6], by rw [resI, if_neg h5, if_neg (by omega)], by rw [resI, if_neg h5, if_neg (by omega), sumL_diffs _ _ _ h], ?_, ?_⟩
      · rw [diffs_len, diffs_len, h]
      · rw [diffs_len]; omega
  obtain ⟨p, q, e, e1, e2, e3, hpq, hp⟩ := key
  have hs := sumL_len p q hpq
  rw [e1, e2, e3]
  refine pos rfl (pos rfl (pos (by simp only []; omega) ?_))
  have e4 : ((q.length : Int) != ((sumL p q).length : Int)) = false := by simp; omega
  simp only []
  rw [e4]
  refine succ ?_
  simp only [serinettelaw07_FixedSums.j2]
  exact neg (by decide) (sums_l1 p q hpq (by omega) _ 0 (Nat.zero_add _))
theorem sums_l0 (a b : List Int) (o : Int) (h : a.length = b.length) (ha : a.length ≤ 60) (ho : 0 ≤ o ∧ o ≤ 4) : ∀ (t u p q : List Int) (i : Int), a = p ++ t → b = q ++ u → p.length = q.length → t.length = u.length → i = p.length →
    Ev (fun k => serinettelaw07_FixedSums.l0 k a b true o (sumL p q) i) true := by
  intro t
  induction t with
  | nil =>
    intro u p q i hp hq hpq htu hi
    refine succ ?_
    simp only [serinettelaw07_FixedSums.l0]
    have hu : u = [] := List.eq_nil_of_length_eq_zero (by simpa using htu.symm)
    subst hu
    rw [List.append_nil] at hp hq
    subst hp; subst hq
    exact neg (by omega) (sums_fin _ _ o h ha ho _ (fun k => rfl))
  | cons x t ih =>
    intro u p q i hp hq hpq htu hi
    cases u with
    | nil => simp at htu
    | cons y u =>
      have la : a.length = p.length + t.length + 1 := by rw [hp]; simp; omega
      refine succ ?_
      simp only [serinettelaw07_FixedSums.l0]
      have ra : rd a i = x := by rw [hp]; exact rd_at' _ _ _ hi
      have rb : rd b i = y := by rw [hq]; exact rd_at' _ _ _ (by omega)
      rw [ra, rb, w64 (x := i + 1) (by omega) (by omega)]
      refine pos (by omega) (pos (by omega) (pos (by omega) ?_))
      by_cases h1 : mx x y > 549755813888
      · exact pos h1 (now true)
      · refine neg h1 ?_
        by_cases h2 : mn x y < -549755813888
        · exact pos h2 (now true)
        · refine neg h2 ?_
          have hs : sumL p q ++ [wrap64 (x + y)] = sumL (p ++ [x]) (q ++ [y]) := by
            clear ih hp hq hi la ra rb
            induction p generalizing q with
            | nil => cases q with
              | nil => rfl
              | cons _ _ => simp at hpq
            | cons a t ih => cases q with
              | nil => simp at hpq
              | cons b u => simp only [sumL, List.cons_append]; rw [ih u (by simpa using hpq)]
          rw [hs]
          refine pos (by rw [sumL_len p q hpq]; omega) ?_
          exact ih u (p ++ [x]) (q ++ [y]) (i + 1) (by simp [hp]) (by simp [hq]) (by simp [hpq]) (by simpa using htu) (by simp [hi])
theorem FixedSums : serinettelaw07_FixedSums.Pure := by
  intro l0 l1 a2 h1 h2 hw h3 h4 hw1 hw2
  have hu := wfu8 hw2
  have ht : wrap64 (Int.tmod a2 5) = a2 % 5 := by rw [Int.tmod_eq_emod_of_nonneg hu.1, w64 (by omega) (by omega)]
  refine Ev.rounds ?_
  unfold serinettelaw07_FixedSums.f
  rw [ht]
  have out : Ev (fun k => serinettelaw07_FixedSums.j0 k l0 l1 true (a2 % 5) true) true := by
    refine succ ?_
    simp only [serinettelaw07_FixedSums.j0]
    exact pos trivial (cst rfl)
  refine bnd awake_ev ?_
  by_cases hl : (l0.length : Int) > 60
  · exact pos hl out
  · refine neg hl ?_
    by_cases he : l0.length = l1.length
    · have e : ((l1.length : Int) != (l0.length : Int)) = false := by simp; omega
      rw [e]
      refine succ ?_
      simp only [serinettelaw07_FixedSums.j0]
      exact neg (by decide) (sums_l0 l0 l1 (a2 % 5) he (by omega) (by omega) l0 l1 [] [] 0 rfl rfl rfl he rfl)
    · have e : ((l1.length : Int) != (l0.length : Int)) = true := by simp; omega
      rw [e]; exact out
end Go.Proofs.Ytiojcihklmifgaa.Pure
