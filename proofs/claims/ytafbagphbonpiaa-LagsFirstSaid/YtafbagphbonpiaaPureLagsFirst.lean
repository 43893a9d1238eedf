/- LagsFirst: none is further from 0 than the first one, which is above 0, if one of the numbers, as they went down, isn't 0. For every input (the law's own guards are in it). -/
import Derived.Test.YtafbagphbonpiaaPAx16
import Derived.Test.YtafbagphbonpiaaPLagsMore
namespace Go.Proofs.Ytafbagphbonpiaa.Pure
open Go.RowKit Go.Proofs.Ytafbagphbonpiaa.PA Go.Proofs.YtafbagphbonpiaaW.PrintWords Go.Proofs.YtafbagphbonpiaaW.PrintLast Go.Proofs.YtafbagphbonpiaaW.PrintMore Go.Proofs.Ytafbagphbonpiaa.PL
set_option linter.unusedVariables false
theorem first_l1 (x y : List Int) (n : Nat) (b : Bool) (hx : x.length = y.length) (hy : Small y) (hl : y.length ≤ 80) (hn : 0 < n) (hn3 : n ≤ 33) (hb : b = decide (0 < ac y 0)) : ∀ (d i : Nat), i + d = n → Ev (fun k => serinettelaw09_LagsFirst.l1 k x true (ofL y n) b (i : Int)) true := by
  have r0 : rd (ofL y n) 0 = ac y 0 := by
    have := rd_nat (ofL y n) 0
    rw [ofL_getD y hn] at this
    exact this
  intro d
  induction d with
  | zero =>
    intro i hi
    refine succ ?_
    simp only [serinettelaw09_LagsFirst.l1]
    rw [r0, ofL_len]
    refine neg (by omega) (pos trivial (pos (by omega) (cst ?_)))
    rw [hb]; simp
  | succ d ih =>
    intro i hi
    refine succ ?_
    simp only [serinettelaw09_LagsFirst.l1]
    have ha := ac_abs y i
    have hbd := ac_bd hy (by omega) i
    rw [r0, ofL_len, rd_nat, ofL_getD y (by omega), w64 (x := (i : Int) + 1) (by omega) (by omega), w64 (x := -(ac y i)) (by omega) (by omega)]
    refine pos (by omega) (pos (by omega) (pos (by omega) (neg (by unfold mx; split <;> omega) ?_)))
    by_cases h : (i : Int) ≥ (x.length : Int)
    · exact pos h (pos (ac_zero (by omega)) (ih (i + 1) (by omega)))
    · exact neg h (ih (i + 1) (by omega))
theorem LagsFirst : serinettelaw09_LagsFirst.Pure := by
  intro l0 a1 h1 h2 hw hu
  have hu := wfu8 hu
  refine Ev.rounds ?_
  unfold serinettelaw09_LagsFirst.f
  have out : Ev (fun k => serinettelaw09_LagsFirst.j0 k l0 a1 true true) true := by
    refine succ ?_
    simp only [serinettelaw09_LagsFirst.j0]
    exact pos trivial (cst rfl)
  refine bnd awake_ev (bnd (near_ev l0 (by omega)) ?_)
  by_cases hl : (l0.length : Int) > 80
  · exact pos hl out
  · refine neg hl ?_
    by_cases hn : NearL l0
    · have e : (!decide (NearL l0)) = false := by simp [hn]
      rw [e]
      refine succ ?_
      simp only [serinettelaw09_LagsFirst.j0]
      rw [tmod_u8 hu 33 (by decide) (by decide)]
      have w1 : fits l0 42 = true := wf42 hw
      obtain ⟨f1, f2, f3⟩ := fitN_spec w1
      have c := cnt_le (a1 % 33)
      have c2 : (cnt (a1 % 33) : Int) = 1 + a1 % 33 := by unfold cnt; omega
      refine neg (by decide) (bnd (of_ev l0 _ (by omega) w1) (pos (by rw [ofL_len, w64 (by omega) (by omega)]; exact c2) (bnd (fit_ev l0 (by omega) w1) ?_)))
      have l1 := first_l1 l0 (downL l0 (fitN l0)) (cnt (a1 % 33)) (decide (0 < ac (downL l0 (fitN l0)) 0)) (by simp [downL]) (small_down f1) (by simp [downL]; omega) (by omega) (by omega) rfl (cnt (a1 % 33)) 0 (Nat.zero_add _)
      have key : ∀ (t p : List Int) (b : Bool), l0 = p ++ t → b = decide (∃ x ∈ downL p (fitN l0), x ≠ 0) → Ev (fun k => serinettelaw09_LagsFirst.l0 k l0 true (ofL (downL l0 (fitN l0)) (cnt (a1 % 33))) (fitN l0 : Int) b (p.length : Int)) true := by
        intro t
        induction t with
        | nil =>
          intro p b hp hb
          rw [List.append_nil] at hp
          refine succ ?_
          simp only [serinettelaw09_LagsFirst.l0]
          refine neg (by rw [← hp]; omega) ?_
          have : b = decide (0 < ac (downL l0 (fitN l0)) 0) := by
            rw [hb, ← hp]; exact decide_eq_decide.2 (ac_pos _).symm
          rw [this]
          exact l1
        | cons x t ih =>
          intro p b hp hb
          have l2 := congrArg List.length hp
          simp only [List.length_append, List.length_cons] at l2
          refine succ ?_
          simp only [serinettelaw09_LagsFirst.l0]
          have ra : rd l0 (p.length : Int) = x := by rw [hp]; exact rd_at _ _ _
          rw [ra, shr_eq x (show fitN l0 ≤ 64 by omega), w64 (x := (p.length : Int) + 1) (by omega) (by omega)]
          refine pos (by omega) ?_
          have hs : ∀ b' : Bool, b' = decide (∃ z ∈ downL (p ++ [x]) (fitN l0), z ≠ 0) → Ev (fun k => serinettelaw09_LagsFirst.l0 k l0 true (ofL (downL l0 (fitN l0)) (cnt (a1 % 33))) (fitN l0 : Int) b' ((p.length : Int) + 1)) true := fun b' hb' => by
            have := ih (p ++ [x]) b' (by simp [hp]) hb'
            simpa using this
          have e2 : (∃ z ∈ downL (p ++ [x]) (fitN l0), z ≠ 0) ↔ (∃ z ∈ downL p (fitN l0), z ≠ 0) ∨ x / 2 ^ fitN l0 ≠ 0 := by
            simp only [downL, List.map_append, List.mem_append, List.map_cons, List.map_nil, List.mem_singleton]
            constructor
            · rintro ⟨z, hz | rfl, h⟩
              · exact .inl ⟨z, hz, h⟩
              · exact .inr h
            · rintro (⟨z, hz, h⟩ | h)
              · exact ⟨z, .inl hz, h⟩
              · exact ⟨_, .inr rfl, h⟩
          by_cases hbt : b = true
          · refine pos hbt (hs true ?_)
            rw [hbt] at hb
            exact (decide_eq_true (e2.2 (.inl (of_decide_eq_true hb.symm)))).symm
          · refine neg hbt (pos (by omega) (pos (by omega) (hs _ ?_)))
            have hb0 : b = false := by simpa using hbt
            rw [hb0] at hb
            have nb := of_decide_eq_false hb.symm
            by_cases hz : x / 2 ^ fitN l0 = 0
            · rw [bne_eq_false_iff_eq.2 hz]
              exact (decide_eq_false (fun h => (e2.1 h).elim nb (fun g => g hz))).symm
            · rw [bne_iff_ne.2 hz]
              exact (decide_eq_true (e2.2 (.inr hz))).symm
      exact key l0 [] false rfl (by simp [downL])
    · have e : (!decide (NearL l0)) = true := by simp [hn]
      rw [e]; exact out
end Go.Proofs.Ytafbagphbonpiaa.Pure
