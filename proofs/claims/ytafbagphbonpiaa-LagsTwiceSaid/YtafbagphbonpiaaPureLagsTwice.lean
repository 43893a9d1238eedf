/- LagsTwice: what went down, twice as far from 0, goes down by one bit more, and is as alike. For every input (the law's own guards are in it). -/
import Derived.Test.YtafbagphbonpiaaPAx18
import Derived.Test.YtafbagphbonpiaaPLagsMore
namespace Go.Proofs.Ytafbagphbonpiaa.Pure
open Go.RowKit Go.Proofs.Ytafbagphbonpiaa.PA Go.Proofs.YtafbagphbonpiaaW.PrintWords Go.Proofs.YtafbagphbonpiaaW.PrintLast Go.Proofs.YtafbagphbonpiaaW.PrintMore Go.Proofs.Ytafbagphbonpiaa.PL
def dbl (l : List Int) : List Int := l.map fun x => 2 * x
theorem dbl_div (x : Int) (s : Nat) : 2 * x / 2 ^ (s + 1) = x / 2 ^ s := by
  rw [Int.pow_succ, Int.mul_comm (2 ^ s) 2, Int.mul_ediv_mul_of_pos _ _ (by decide)]
theorem dbl_fits (l : List Int) (s : Nat) : fits (dbl l) (s + 1) = fits l s := by
  rw [Bool.eq_iff_iff, fits_iff, fits_iff]
  simp only [dbl, List.mem_map, forall_exists_index, and_imp, forall_apply_eq_imp_iff₂, dbl_div]
theorem dbl_down (l : List Int) (s : Nat) : downL (dbl l) (s + 1) = downL l s := by simp [downL, dbl, dbl_div]
theorem LagsTwice : serinettelaw09_LagsTwice.Pure := by
  intro l0 a1 h1 h2 hw hu
  have hu := wfu8 hu
  refine Ev.rounds ?_
  unfold serinettelaw09_LagsTwice.f
  refine bnd awake_ev ?_
  by_cases hl : (l0.length : Int) > 80
  · exact pos hl (now true)
  · refine neg hl ?_
    have fin : (∀ x ∈ l0, -549755813888 ≤ x ∧ x ≤ 549755813888) → Ev (fun k => serinettelaw09_LagsTwice.l0 k l0 a1 true (dbl l0) (l0.length : Int)) true := by
      intro hb
      refine succ ?_
      simp only [serinettelaw09_LagsTwice.l0]
      have w1 : fits l0 42 = true := wf42 hw
      have w2 : fits (dbl l0) 42 = true := fits_42 fun x hx => by
        simp only [dbl, List.mem_map] at hx
        obtain ⟨a, ha, rfl⟩ := hx
        have := hb a ha; omega
      have hld : (dbl l0).length ≤ 1000 := by simp [dbl]; omega
      obtain ⟨f1, f2, f3⟩ := fitN_spec w1
      rw [tmod_u8 hu 33 (by decide) (by decide)]
      refine neg (by omega) (bnd (fit_ev l0 (by omega) w1) (bnd (fit_ev (dbl l0) hld w2) ?_))
      by_cases h0 : fitN l0 = 0
      · refine pos (by omega) (pos (by trivial) ?_)
        have hs : fitN (dbl l0) = 0 ∨ fitN (dbl l0) = 1 := by
          rw [h0] at f1
          have g : fits (dbl l0) 1 = true := by rw [dbl_fits]; exact f1
          obtain ⟨g1, g2, g3⟩ := fitN_spec w2
          have : ¬ 1 < fitN (dbl l0) := fun h => by have := g3 1 h; rw [g] at this; cases this
          omega
        rcases hs with hs | hs
        · exact pos (by omega) (now true)
        · exact neg (by omega) (cst (by rw [hs]; rfl))
      · refine neg (by omega) (pos (by trivial) ?_)
        have hs : fitN (dbl l0) = fitN l0 + 1 := by
          refine fitN_eq w2 (by rw [dbl_fits]; exact f1) (fun t ht => ?_)
          cases t with
          | zero =>
            cases hz : fits (dbl l0) 0 with
            | false => rfl
            | true =>
              have := fits_succ hz
              rw [dbl_fits, f3 0 (by omega)] at this
              cases this
          | succ t => rw [dbl_fits]; exact f3 t (by omega)
        rw [w64 (by omega) (by omega)]
        refine pos (by omega) (bnd (of_ev (dbl l0) _ hld w2) (bnd (of_ev l0 _ (by omega) w1) ?_))
        rw [hs, dbl_down]
        have c := cnt_le (a1 % 33)
        exact bnd (ints_refl _ (by rw [ofL_len]; omega)) (now true)
    have key : ∀ (t p : List Int), l0 = p ++ t → (∀ x ∈ p, -549755813888 ≤ x ∧ x ≤ 549755813888) → Ev (fun k => serinettelaw09_LagsTwice.l0 k l0 a1 true (dbl p) (p.length : Int)) true := by
      intro t
      induction t with
      | nil =>
        intro p hp hb
        rw [List.append_nil] at hp
        subst hp
        exact fin hb
      | cons x t ih =>
        intro p hp hb
        have l1 := congrArg List.length hp
        simp only [List.length_append, List.length_cons] at l1
        refine succ ?_
        simp only [serinettelaw09_LagsTwice.l0]
        have ra : rd l0 (p.length : Int) = x := by rw [hp]; exact rd_at _ _ _
        rw [ra, w64 (x := (p.length : Int) + 1) (by omega) (by omega)]
        refine pos (by omega) (pos (by omega) ?_)
        by_cases c1 : x < -549755813888
        · exact pos c1 (now true)
        · refine neg c1 ?_
          by_cases c2 : x > 549755813888
          · exact pos c2 (now true)
          · refine neg c2 (pos (by simp [dbl]; omega) ?_)
            rw [w64 (x := 2 * x) (by omega) (by omega)]
            have := ih (p ++ [x]) (by simp [hp]) (fun z hz => by
              simp only [List.mem_append, List.mem_singleton] at hz
              rcases hz with hz | rfl
              · exact hb z hz
              · omega)
            simpa [dbl] using this
    exact key l0 [] rfl (fun x hx => by simp at hx)
end Go.Proofs.Ytafbagphbonpiaa.Pure
