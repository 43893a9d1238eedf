/- FixedSteps: what an order more leaves is how much each that an order leaves is above the one ahead of it. For every input (the law's own guards are in it). -/
import Derived.Test.YtiojcihklmifgaaPAx15
import Derived.Test.YtiojcihklmifgaaPFixAwake
namespace Go.Proofs.Ytiojcihklmifgaa.Pure
open Go.RowKit Go.Proofs.Ytiojcihklmifgaa.PA Go.Proofs.YtiojcihklmifgaaW.PrintWords Go.Proofs.YtiojcihklmifgaaW.PrintLast Go.Proofs.Ytiojcihklmifgaa.PL
theorem diff_get : ∀ (l : List Int) (i : Nat), i + 1 < l.length → (diff l).getD i 0 = wrap64 (l.getD (i + 1) 0 - l.getD i 0)
  | [], i, h => by simp at h
  | [_], i, h => by simp at h
  | a :: b :: t, 0, h => by simp [diff]
  | a :: b :: t, i + 1, h => by
    have := diff_get (b :: t) i (by simpa using h)
    simpa [diff] using this
theorem steps_l0 (a : List Int) (ha : a.length ≤ 100) : ∀ (d i : Nat), i + d = (diff a).length → Ev (fun k => serinettelaw07_FixedSteps.l0 k true a (diff a) (i : Int)) true := by
  intro d
  have hl := diff_len a
  induction d with
  | zero =>
    intro i hi
    refine succ ?_
    simp only [serinettelaw07_FixedSteps.l0]
    exact neg (by omega) (now true)
  | succ d ih =>
    intro i hi
    refine succ ?_
    simp only [serinettelaw07_FixedSteps.l0]
    rw [w64 (x := (i : Int) + 1) (by omega) (by omega)]
    refine pos (by omega) (pos (by omega) (pos (by omega) (pos (by omega) (pos (by omega) (pos ?_ (ih (i + 1) (by omega)))))))
    have e := diff_get a i (by omega)
    have e1 : ((i : Int) + 1) = ((i + 1 : Nat) : Int) := by omega
    rw [e1, rd_nat, rd_nat, rd_nat]
    exact e
theorem FixedSteps : serinettelaw07_FixedSteps.Pure := by
  intro l0 a1 h1 h2 hw hw1
  have hu := wfu8 hw1
  have ht : wrap64 (Int.tmod a1 4) = a1 % 4 := by rw [Int.tmod_eq_emod_of_nonneg hu.1, w64 (by omega) (by omega)]
  refine Ev.rounds ?_
  unfold serinettelaw07_FixedSteps.f
  rw [ht]
  have out : Ev (fun k => serinettelaw07_FixedSteps.j0 k l0 true (a1 % 4) true) true := by
    refine succ ?_
    simp only [serinettelaw07_FixedSteps.j0]
    exact pos trivial (cst rfl)
  refine bnd awake_ev (bnd (near_ev l0 (by omega)) ?_)
  by_cases hl : (l0.length : Int) > 100
  · exact pos hl out
  · refine neg hl ?_
    by_cases hn : NearL l0
    · refine pos (by simpa using hn) ?_
      by_cases h3 : (l0.length : Int) ≤ a1 % 4
      · have e : decide ((l0.length : Int) ≤ a1 % 4) = true := by simp [h3]
        rw [e]; exact out
      · have e : decide ((l0.length : Int) ≤ a1 % 4) = false := by simp; omega
        rw [e]
        refine succ ?_
        simp only [serinettelaw07_FixedSteps.j0]
        rw [w64 (x := a1 % 4 + 1) (by omega) (by omega)]
        have hr : resI l0 (a1 % 4) = (diffs (a1 % 4).toNat l0, 0) := by rw [resI, if_neg (by omega), if_neg (by omega)]
        have hr' : resI l0 (a1 % 4 + 1) = (diff (diffs (a1 % 4).toNat l0), 0) := by
          rw [resI, if_neg (by omega), if_neg (by omega), ← diffs_succ, show (a1 % 4 + 1).toNat = (a1 % 4).toNat + 1 by omega]
        refine neg (by decide) (bnd (residual_ev l0 _ (by omega)) (bnd (residual_ev l0 _ (by omega)) ?_))
        rw [hr, hr']
        refine pos rfl (pos rfl ?_)
        have hd := diffs_len (a1 % 4).toNat l0
        have hd2 := diff_len (diffs (a1 % 4).toNat l0)
        have e2 : (((diff (diffs (a1 % 4).toNat l0)).length : Int) != wrap64 (((diffs (a1 % 4).toNat l0).length : Int) - 1)) = false := by
          rw [w64 (by omega) (by omega)]
          simp; omega
        simp only []
        rw [e2]
        refine succ ?_
        simp only [serinettelaw07_FixedSteps.j1]
        exact neg (by decide) (steps_l0 _ (by omega) _ 0 (Nat.zero_add _))
    · exact neg (by simpa using hn) out
end Go.Proofs.Ytiojcihklmifgaa.Pure
