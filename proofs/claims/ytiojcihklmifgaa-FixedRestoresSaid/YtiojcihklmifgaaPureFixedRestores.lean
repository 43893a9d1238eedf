/- FixedRestores: what any numbers restore, behind any that stand ahead, or what is wrong, is as the reference says. For every input (the law's own guards are in it). -/
import Derived.Test.YtiojcihklmifgaaPAx13
import Derived.Test.YtiojcihklmifgaaPFixAwake
namespace Go.Proofs.Ytiojcihklmifgaa.Pure
open Go.RowKit Go.Proofs.Ytiojcihklmifgaa.PA Go.Proofs.YtiojcihklmifgaaW.PrintWords Go.Proofs.YtiojcihklmifgaaW.PrintLast Go.Proofs.Ytiojcihklmifgaa.PL
theorem resto_len (w r : List Int) : (resto w r).1.length ≤ w.length + r.length := by
  unfold resto; split
  · simp
  · rw [restore_len]; omega
theorem restores_l0 (a b : List Int) (ha : a.length ≤ 10) (hb : b.length ≤ 60) (hw : ∀ x ∈ b, wrap64 x = x) : ∀ (d i : Nat), i + d = b.length + 1 → Ev (fun k => serinettelaw07_FixedRestores.l0 k a b true (i : Int)) true := by
  intro d
  induction d with
  | zero =>
    intro i hi
    refine succ ?_
    simp only [serinettelaw07_FixedRestores.l0]
    refine neg (by omega) (bnd (restore_ev a b (by omega) hw) (bnd (ref_restore_ev a b (by omega)) (pos trivial (pos rfl ?_))))
    exact bnd (ints_refl _ (by have := resto_len a b; omega)) (now true)
  | succ d ih =>
    intro i hi
    refine succ ?_
    simp only [serinettelaw07_FixedRestores.l0]
    refine pos (by omega) (pos (by omega) ?_)
    have hl := resto_len a (b.take i)
    rw [List.length_take] at hl
    refine bnd (ref_restore_ev a (b.take i) (by rw [List.length_take]; omega)) (bnd (near_ev _ (by omega)) ?_)
    by_cases hn : NearL (resto a (b.take i)).1
    · refine pos (by simpa using hn) ?_
      rw [w64 (by omega) (by omega)]
      exact ih (i + 1) (by omega)
    · exact neg (by simpa using hn) (now true)
theorem FixedRestores : serinettelaw07_FixedRestores.Pure := by
  intro l0 l1 h1 h2 hw h3 h4 hw1
  refine Ev.rounds ?_
  unfold serinettelaw07_FixedRestores.f
  have out : Ev (fun k => serinettelaw07_FixedRestores.j0 k l0 l1 true true) true := by
    refine succ ?_
    simp only [serinettelaw07_FixedRestores.j0]
    exact pos trivial (cst rfl)
  refine bnd awake_ev (bnd (near_ev l0 (by omega)) (bnd (near_ev l1 (by omega)) ?_))
  by_cases hl : (l0.length : Int) > 10
  · exact pos hl out
  · refine neg hl ?_
    by_cases hm : (l1.length : Int) > 60
    · exact pos hm out
    · refine neg hm ?_
      by_cases hn : NearL l0
      · refine pos (by simpa using hn) ?_
        by_cases ho : NearL l1
        · have e : (!decide (NearL l1)) = false := by simp [ho]
          rw [e]
          refine succ ?_
          simp only [serinettelaw07_FixedRestores.j0]
          exact neg (by decide) (restores_l0 l0 l1 (by omega) (by omega) (wfc hw1) (l1.length + 1) 0 (by omega))
        · have e : (!decide (NearL l1)) = true := by simp [ho]
          rw [e]
          exact out
      · exact neg (by simpa using hn) out
end Go.Proofs.Ytiojcihklmifgaa.Pure
