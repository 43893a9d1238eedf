/- FixedBack: what is left of numbers restores them, by each order. For every input (the law's own guards are in it). -/
import Derived.Test.YtiojcihklmifgaaPAx14
import Derived.Test.YtiojcihklmifgaaPFixAwake
namespace Go.Proofs.Ytiojcihklmifgaa.Pure
open Go.RowKit Go.Proofs.Ytiojcihklmifgaa.PA Go.Proofs.YtiojcihklmifgaaW.PrintWords Go.Proofs.YtiojcihklmifgaaW.PrintLast Go.Proofs.Ytiojcihklmifgaa.PL
theorem FixedBack : serinettelaw07_FixedBack.Pure := by
  intro l0 a1 h1 h2 hw hw1
  refine Ev.rounds ?_
  unfold serinettelaw07_FixedBack.f
  have out : Ev (fun k => serinettelaw07_FixedBack.j0 k l0 a1 true true) true := by
    refine succ ?_
    simp only [serinettelaw07_FixedBack.j0]
    exact pos trivial (cst rfl)
  refine bnd awake_ev (bnd (near_ev l0 (by omega)) ?_)
  by_cases hl : (l0.length : Int) > 100
  · exact pos hl out
  · refine neg hl ?_
    by_cases hn : NearL l0
    · have e : (!decide (NearL l0)) = false := by simp [hn]
      rw [e]
      refine succ ?_
      simp only [serinettelaw07_FixedBack.j0]
      refine neg (by decide) (bnd (residual_ev l0 a1 (by omega)) ?_)
      by_cases h5 : a1 < 0 ∨ a1 > 4
      · have hr : resI l0 a1 = ([], 1) := by rw [resI, if_pos h5]
        rw [hr]
        refine neg (by decide) (pos trivial (pos rfl ?_))
        by_cases h6 : a1 < 0
        · exact pos h6 (pos (by decide) (neg (by omega) (cst (by decide))))
        · exact neg h6 (pos (by simp; omega) (pos (by omega) (neg (by omega) (cst (by decide)))))
      · by_cases h6 : (l0.length : Int) < a1
        · have hr : resI l0 a1 = ([], 2) := by rw [resI, if_neg h5, if_pos h6]
          rw [hr]
          exact neg (by decide) (pos trivial (pos rfl (neg (by omega) (pos (by simp; omega) (pos (by omega) (pos (by omega) (cst (by simp [h6]))))))))
        · have hr : resI l0 a1 = (diffs a1.toNat l0, 0) := by rw [resI, if_neg h5, if_neg h6]
          rw [hr]
          have hd := diffs_len a1.toNat l0
          refine pos rfl (pos (by rw [hd, w64 (by omega) (by omega)]; omega) (pos (by omega) (pos (by omega) ?_)))
          have hb := restore_ev (l0.take a1.toNat) (diffs a1.toNat l0) (by rw [hd, List.length_take]; omega) (diffs_c _ _ (wfc hw))
          rw [resto_diffs l0 a1.toNat (by omega) (by omega) (wfc hw)] at hb
          exact bnd hb (pos trivial (pos rfl (bnd (ints_refl l0 (by omega)) (now true))))
    · have e : (!decide (NearL l0)) = true := by simp [hn]
      rw [e]
      exact out
end Go.Proofs.Ytiojcihklmifgaa.Pure
