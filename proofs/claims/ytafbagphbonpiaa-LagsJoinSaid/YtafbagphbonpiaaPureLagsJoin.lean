/- LagsJoin: two that are far apart are as alike as each by itself, together, if both go down by as many bits. For every input (the law's own guards are in it). -/
import Derived.Test.YtafbagphbonpiaaPAx20
import Derived.Test.YtafbagphbonpiaaPLagsMore
namespace Go.Proofs.Ytafbagphbonpiaa.Pure
open Go.RowKit Go.Proofs.Ytafbagphbonpiaa.PA Go.Proofs.YtafbagphbonpiaaW.PrintWords Go.Proofs.YtafbagphbonpiaaW.PrintLast Go.Proofs.YtafbagphbonpiaaW.PrintMore Go.Proofs.Ytafbagphbonpiaa.PL
set_option linter.unusedVariables false
theorem LagsJoin : serinettelaw09_LagsJoin.Pure := by
  intro l0 l1 a2 h1 h2 hw h3 h4 hw1 hu
  have hu := wfu8 hu
  refine Ev.rounds ?_
  unfold serinettelaw09_LagsJoin.f
  have out : Ev (fun k => serinettelaw09_LagsJoin.j0 k l0 l1 a2 true true) true := by
    refine succ ?_
    simp only [serinettelaw09_LagsJoin.j0]
    exact pos trivial (cst rfl)
  refine bnd awake_ev (bnd (near_ev l0 (by omega)) (bnd (near_ev l1 (by omega)) ?_))
  by_cases hl : (l0.length : Int) > 40
  · exact pos hl out
  · refine neg hl ?_
    by_cases hm : (l1.length : Int) > 40
    · exact pos hm out
    · refine neg hm ?_
      by_cases hn : NearL l0
      · refine pos (by simpa using hn) ?_
        by_cases ho : NearL l1
        · have e : (!decide (NearL l1)) = false := by simp [ho]
          rw [e]
          refine succ ?_
          simp only [serinettelaw09_LagsJoin.j0]
          rw [tmod_u8 hu 33 (by decide) (by decide)]
          obtain ⟨n, hN⟩ : ∃ n : Nat, a2 % 33 = n := ⟨(a2 % 33).toNat, by omega⟩
          have hn32 : n ≤ 32 := by omega
          rw [hN, Int.toNat_natCast]
          have w1 : fits l0 42 = true := wf42 hw
          have w2 : fits l1 42 = true := wf42 hw1
          refine neg (by decide) (bnd (fit_ev l0 (by omega) w1) (bnd (fit_ev l1 (by omega) w2) ?_))
          by_cases hs : fitN l0 = fitN l1
          · refine pos (by omega) (bnd (of_ev l0 n (by omega) w1) (bnd (of_ev l1 n (by omega) w2) ?_))
            simp only [Option.bind_some, List.length_nil, List.nil_append, List.length_append, List.length_replicate]
            refine pos (by omega) (pos (by omega) (pos (by omega) (pos (by omega) ?_)))
            have fz : ∀ s, fits (l0 ++ List.replicate n 0 ++ l1) s = (fits l0 s && fits l1 s) := fun s => by
              rw [fits_append, fits_append, fits_zeros, Bool.and_true]
            have w3 : fits (l0 ++ List.replicate n 0 ++ l1) 42 = true := by rw [fz, w1, w2]; rfl
            obtain ⟨f1, f2, f3⟩ := fitN_spec w1
            obtain ⟨g1, g2, g3⟩ := fitN_spec w2
            have e3 : fitN (l0 ++ List.replicate n 0 ++ l1) = fitN l0 := by
              refine fitN_eq w3 (by rw [fz, f1, hs, g1]; rfl) (fun t ht => by rw [fz, f3 t ht]; rfl)
            have cc : cnt (n : Int) = n + 1 := by unfold cnt; omega
            refine bnd (of_ev _ n (by simp; omega) w3) ?_
            rw [ofL_len, ofL_len, ofL_len, cc, e3, ← hs, w64 (x := (n : Int) + 1) (by omega) (by omega)]
            have e4 : (((n + 1 : Nat) : Int) != (n : Int) + 1) = false := by simp
            rw [e4]
            refine pos (by omega) (pos (by omega) (succ ?_))
            simp only [serinettelaw09_LagsJoin.j1]
            refine neg (by decide) ?_
            have s1 := small_down f1
            have s2 : Small (downL l1 (fitN l0)) := by rw [hs]; exact small_down g1
            have key : ∀ (d i : Nat), i + d = n + 1 → Ev (fun k => serinettelaw09_LagsJoin.l0 k true (n : Int) (ofL (downL l0 (fitN l0)) (n + 1)) (ofL (downL l1 (fitN l0)) (n + 1)) (ofL (downL (l0 ++ List.replicate n 0 ++ l1) (fitN l0)) (n + 1)) (i : Int)) true := by
              intro d
              induction d with
              | zero =>
                intro i hi
                refine succ ?_
                simp only [serinettelaw09_LagsJoin.l0]
                exact neg (by omega) (now true)
              | succ d ih =>
                intro i hi
                refine succ ?_
                simp only [serinettelaw09_LagsJoin.l0]
                rw [ofL_len, ofL_len, ofL_len, rd_nat, rd_nat, rd_nat, ofL_getD _ (by omega), ofL_getD _ (by omega), ofL_getD _ (by omega), w64 (x := (i : Int) + 1) (by omega) (by omega)]
                refine pos (by omega) (pos (by omega) (pos (by omega) (pos (by omega) (pos (by omega) (pos ?_ (ih (i + 1) (by omega)))))))
                have b1 := ac_bd s1 (by simp [downL]; omega) i
                have b2 := ac_bd s2 (by simp [downL]; omega) i
                rw [w64 (by omega) (by omega), show downL (l0 ++ List.replicate n 0 ++ l1) (fitN l0) = downL l0 (fitN l0) ++ List.replicate n 0 ++ downL l1 (fitN l0) by simp [downL]]
                exact ac_join _ _ n i (by omega)
            exact key (n + 1) 0 (by omega)
          · exact neg (by omega) (now true)
        · have e : (!decide (NearL l1)) = true := by simp [ho]
          rw [e]; exact out
      · exact neg (by simpa using hn) out
end Go.Proofs.Ytafbagphbonpiaa.Pure
