/- LagsTurn: turned about numbers have the same ones, and with zeros ahead of them, or behind. For every input (the law's own guards are in it). -/
import Derived.Test.YtafbagphbonpiaaPAx17
import Derived.Test.YtafbagphbonpiaaPLagsMore
namespace Go.Proofs.Ytafbagphbonpiaa.Pure
open Go.RowKit Go.Proofs.Ytafbagphbonpiaa.PA Go.Proofs.YtafbagphbonpiaaW.PrintWords Go.Proofs.YtafbagphbonpiaaW.PrintLast Go.Proofs.YtafbagphbonpiaaW.PrintMore Go.Proofs.Ytafbagphbonpiaa.PL
set_option linter.unusedVariables false
theorem LagsTurn : serinettelaw09_LagsTurn.Pure := by
  intro l0 a1 a2 a3 h1 h2 hw hu1 hu2 hu3
  have hu1 := wfu8 hu1; have hu2 := wfu8 hu2; have hu3 := wfu8 hu3
  refine Ev.rounds ?_
  unfold serinettelaw09_LagsTurn.f
  have out : Ev (fun k => serinettelaw09_LagsTurn.j0 k l0 a1 a2 a3 true true) true := by
    refine succ ?_
    simp only [serinettelaw09_LagsTurn.j0]
    exact pos trivial (cst rfl)
  refine bnd awake_ev (bnd (near_ev l0 (by omega)) ?_)
  by_cases hl : (l0.length : Int) > 60
  · exact pos hl out
  · refine neg hl ?_
    by_cases hn : NearL l0
    · have e : (!decide (NearL l0)) = false := by simp [hn]
      rw [e]
      refine succ ?_
      simp only [serinettelaw09_LagsTurn.j0]
      refine neg (by decide) ?_
      rw [tmod_u8 hu1 33 (by decide) (by decide)]
      generalize hN : a1 % 33 = n
      have w1 : fits l0 42 = true := wf42 hw
      have w2 : fits l0.reverse 42 = true := by rw [fits_reverse]; exact w1
      have key : ∀ (t p : List Int), l0 = t ++ p.reverse → Ev (fun k => serinettelaw09_LagsTurn.l0 k l0 a2 a3 true n p ((t.length : Int) - 1)) true := by
        intro t
        generalize hm : t.length = m
        induction m generalizing t with
        | zero =>
          intro p hp
          have ht : t = [] := List.eq_nil_of_length_eq_zero hm
          subst ht
          have hpr : p = l0.reverse := by rw [hp]; simp
          subst hpr
          refine succ ?_
          simp only [serinettelaw09_LagsTurn.l0]
          refine neg (by omega) ?_
          rw [tmod_u8 hu2 20 (by decide) (by decide), tmod_u8 hu3 20 (by decide) (by decide)]
          obtain ⟨a, ha⟩ : ∃ a : Nat, a2 % 20 = a := ⟨(a2 % 20).toNat, by omega⟩
          obtain ⟨b, hb⟩ : ∃ b : Nat, a3 % 20 = b := ⟨(a3 % 20).toNat, by omega⟩
          rw [ha, hb, Int.toNat_natCast, Int.toNat_natCast]
          refine pos (by omega) (pos (by omega) ?_)
          simp only [Option.bind_some, List.length_replicate, List.length_append]
          refine pos (by omega) (pos (by omega) (pos (by omega) ?_))
          have fz : ∀ s, fits (List.replicate a 0 ++ l0 ++ List.replicate b 0) s = fits l0 s := fun s => by
            rw [fits_append, fits_append, fits_zeros, fits_zeros, Bool.true_and, Bool.and_true]
          have w3 : fits (List.replicate a 0 ++ l0 ++ List.replicate b 0) 42 = true := by rw [fz]; exact w1
          have e2 : ofL (downL l0.reverse (fitN l0.reverse)) (cnt n) = ofL (downL l0 (fitN l0)) (cnt n) := by
            rw [fitN_congr (fits_reverse l0)]
            refine ofL_congr (fun k => ?_)
            rw [show downL l0.reverse (fitN l0) = (downL l0 (fitN l0)).reverse by simp [downL], ac_rev]
          have e3 : ofL (downL (List.replicate a 0 ++ l0 ++ List.replicate b 0) (fitN (List.replicate a 0 ++ l0 ++ List.replicate b 0))) (cnt n) = ofL (downL l0 (fitN l0)) (cnt n) := by
            rw [fitN_congr fz]
            refine ofL_congr (fun k => ?_)
            rw [show downL (List.replicate a 0 ++ l0 ++ List.replicate b 0) (fitN l0) = List.replicate a 0 ++ downL l0 (fitN l0) ++ List.replicate b 0 by simp [downL], ac_pad]
          have c := cnt_le n
          have i1 : Ev (fun k => serinetteref01_Ints.f k (ofL (downL l0 (fitN l0)) (cnt n)) (ofL (downL l0 (fitN l0)) (cnt n))) true := ints_refl _ (by rw [ofL_len]; omega)
          refine bnd (of_ev l0 n (by omega) w1) (pos (by trivial) (bnd (of_ev l0.reverse n (by simp; omega) w2) ?_))
          rw [e2]
          refine bnd i1 (pos (by trivial) (bnd (of_ev _ n (by simp; omega) w3) ?_))
          rw [e3]
          exact bnd i1 (now true)
        | succ m ih =>
          intro p hp
          obtain ⟨t', x, rfl⟩ : ∃ t' x, t = t' ++ [x] := ⟨t.dropLast, t.getLast (by intro h; rw [h] at hm; simp at hm), (List.dropLast_concat_getLast _).symm⟩
          simp only [List.length_append, List.length_singleton] at hm
          have l1 := congrArg List.length hp
          simp only [List.length_append, List.length_singleton, List.length_reverse] at l1
          refine succ ?_
          simp only [serinettelaw09_LagsTurn.l0]
          have e1 : (((m + 1 : Nat) : Int) - 1) = (t'.length : Int) := by omega
          have ra : rd l0 (t'.length : Int) = x := by rw [hp, List.append_assoc]; exact rd_at _ _ _
          rw [e1, ra, w64 (x := (t'.length : Int) - 1) (by omega) (by omega)]
          refine pos (by omega) (pos (by omega) (pos (by omega) (pos (by omega) ?_)))
          have := ih t' (by omega) (p ++ [x]) (by rw [hp]; simp)
          rw [show (m : Int) = (t'.length : Int) by omega] at this
          exact this
      have := key l0 [] (by simp)
      rw [w64 (by omega) (by omega)]
      exact this
    · have e : (!decide (NearL l0)) = true := by simp [hn]
      rw [e]; exact out
end Go.Proofs.Ytafbagphbonpiaa.Pure
