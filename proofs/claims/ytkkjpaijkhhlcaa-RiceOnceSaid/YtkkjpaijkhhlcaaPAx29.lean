/- Each Go function named below comes to what the plain Lean function of its name answers, wherever that answers (rounds enough, no panic, no row too long); texts by a program of this session by way of the kit's print.py, what that does not take by hand. Condition: what is read lies in memory as each theorem says. -/
import Derived.Test.YtkkjpaijkhhlcaaPAx0
import Derived.Test.YtkkjpaijkhhlcaaPAx5
import Derived.Test.YtkkjpaijkhhlcaaPAx13
import Derived.Test.YtkkjpaijkhhlcaaPAx25
namespace Go.Proofs.Ytkkjpaijkhhlcaa.PA
open Go.RowKit Go.Proofs.YtkkjpaijkhhlcaaW.PrintWords Go.Proofs.YtkkjpaijkhhlcaaW.PrintLast Go.Proofs.YtkkjpaijkhhlcaaW.PrintMore
attribute [local go_sem] max2_int min2_int max_two min_two max_three min_three max_four min_four   -- for this text's walks alone
set_option linter.unusedVariables false
set_option linter.unusedSimpArgs false

/-! ### serinettelaw02_RiceOnce: function 6 -/
def serinettelaw02_RiceOnce.f (k : Nat) (a0 : Int) (a1 : Int) (a2 : Int) : Option (Bool) := (serinettelaw02_awake.f k).bind fun t236 => (if t236 = true then ((rice_Fold.f a0).bind fun t237 => ((rice_Unfold.f t237).bind fun t238 => (if t238 = a0 then ((rice_Unfold.f a2).bind fun t239 => ((rice_Fold.f t239).bind fun t240 => (if t240 = a2 then ((rice_Fold.f a0).bind fun t241 => ((rice_Fold.f a1).bind fun t242 => (if ((t241 == t242) == (a0 == a1)) = true then ((rice_Fold.f a0).bind fun t243 => (some (((Int.tmod t243 2) == 1) == (decide (a0 < 0))))) else (some false)))) else (some false)))) else (some false)))) else (some false))
theorem serinettelaw02_RiceOnce.mono : ∀ a0 a1 a2 k, LeO (serinettelaw02_RiceOnce.f k a0 a1 a2) (serinettelaw02_RiceOnce.f (k + 1) a0 a1 a2) := by
  intro a0 a1 a2 k
  unfold serinettelaw02_RiceOnce.f
  repeat' first
      | (with_reducible exact serinettelaw02_awake.mono _)
      | (with_reducible exact LeO.refl _)
      | (with_reducible exact LeO.none _)
      | (with_reducible refine LeO.ite ?_ ?_)
      | (with_reducible refine LeO.bind ?_ (fun _ => ?_))
      | exact serinettelaw02_awake.mono _
      | exact LeO.none _
      | refine LeO.ite ?_ ?_
      | refine LeO.bind ?_ (fun _ => ?_)
set_option maxHeartbeats 8000000 in
set_option maxRecDepth 100000 in
theorem serinettelaw02_RiceOnce.calls (k : Nat) (a0 : Int) (a1 : Int) (a2 : Int) (r : Bool) (w : World) (h : serinettelaw02_RiceOnce.f k a0 a1 a2 = some r) :
    Calls Try.prog 6 #[.int .i64 a0, .int .i64 a1, .int .u64 a2] w fun e w' => e = .returned (.bool r) ∧ Below w.heap.size w w' := by
  have HB := Aside0.mk (Below.refl w.heap.size w)
  have H : ((serinettelaw02_awake.f k).bind fun t236 => (if t236 = true then ((rice_Fold.f a0).bind fun t237 => ((rice_Unfold.f t237).bind fun t238 => (if t238 = a0 then ((rice_Unfold.f a2).bind fun t239 => ((rice_Fold.f t239).bind fun t240 => (if t240 = a2 then ((rice_Fold.f a0).bind fun t241 => ((rice_Fold.f a1).bind fun t242 => (if ((t241 == t242) == (a0 == a1)) = true then ((rice_Fold.f a0).bind fun t243 => (some (((Int.tmod t243 2) == 1) == (decide (a0 < 0))))) else (some false)))) else (some false)))) else (some false)))) else (some false))) = some r := h
  clear h
  replace H := Option.bind_eq_some_iff.mp H
  obtain ⟨t236, A40, H⟩ := H
  replace H : (if t236 = true then ((rice_Fold.f a0).bind fun t237 => ((rice_Unfold.f t237).bind fun t238 => (if t238 = a0 then ((rice_Unfold.f a2).bind fun t239 => ((rice_Fold.f t239).bind fun t240 => (if t240 = a2 then ((rice_Fold.f a0).bind fun t241 => ((rice_Fold.f a1).bind fun t242 => (if ((t241 == t242) == (a0 == a1)) = true then ((rice_Fold.f a0).bind fun t243 => (some (((Int.tmod t243 2) == 1) == (decide (a0 < 0))))) else (some false)))) else (some false)))) else (some false)))) else (some false)) = some r := H
  have A4 := Aside0.mk A40
  clear A40
  by_cases c5 : t236 = true
  · subst c5
    have H1 : ((rice_Fold.f a0).bind fun t237 => ((rice_Unfold.f t237).bind fun t238 => (if t238 = a0 then ((rice_Unfold.f a2).bind fun t239 => ((rice_Fold.f t239).bind fun t240 => (if t240 = a2 then ((rice_Fold.f a0).bind fun t241 => ((rice_Fold.f a1).bind fun t242 => (if ((t241 == t242) == (a0 == a1)) = true then ((rice_Fold.f a0).bind fun t243 => (some (((Int.tmod t243 2) == 1) == (decide (a0 < 0))))) else (some false)))) else (some false)))) else (some false)))) = some r := by rw [if_pos rfl] at H; exact H
    clear H
    have H := H1
    clear H1
    replace H := Option.bind_eq_some_iff.mp H
    obtain ⟨t237, A60, H⟩ := H
    replace H : ((rice_Unfold.f t237).bind fun t238 => (if t238 = a0 then ((rice_Unfold.f a2).bind fun t239 => ((rice_Fold.f t239).bind fun t240 => (if t240 = a2 then ((rice_Fold.f a0).bind fun t241 => ((rice_Fold.f a1).bind fun t242 => (if ((t241 == t242) == (a0 == a1)) = true then ((rice_Fold.f a0).bind fun t243 => (some (((Int.tmod t243 2) == 1) == (decide (a0 < 0))))) else (some false)))) else (some false)))) else (some false))) = some r := H
    have A6 := Aside0.mk A60
    clear A60
    replace H := Option.bind_eq_some_iff.mp H
    obtain ⟨t238, A70, H⟩ := H
    replace H : (if t238 = a0 then ((rice_Unfold.f a2).bind fun t239 => ((rice_Fold.f t239).bind fun t240 => (if t240 = a2 then ((rice_Fold.f a0).bind fun t241 => ((rice_Fold.f a1).bind fun t242 => (if ((t241 == t242) == (a0 == a1)) = true then ((rice_Fold.f a0).bind fun t243 => (some (((Int.tmod t243 2) == 1) == (decide (a0 < 0))))) else (some false)))) else (some false)))) else (some false)) = some r := H
    have A7 := Aside0.mk A70
    clear A70
    by_cases c8 : t238 = a0
    · rw [if_pos c8] at H
      have c8b0 : (t238 == a0) = true := beq_iff_eq.mpr c8
      have c8b1 : (t238 != a0) = false := bne_eq_false_iff_eq.mpr c8
      clear c8
      replace H := Option.bind_eq_some_iff.mp H
      obtain ⟨t239, A90, H⟩ := H
      replace H : ((rice_Fold.f t239).bind fun t240 => (if t240 = a2 then ((rice_Fold.f a0).bind fun t241 => ((rice_Fold.f a1).bind fun t242 => (if ((t241 == t242) == (a0 == a1)) = true then ((rice_Fold.f a0).bind fun t243 => (some (((Int.tmod t243 2) == 1) == (decide (a0 < 0))))) else (some false)))) else (some false))) = some r := H
      have A9 := Aside0.mk A90
      clear A90
      replace H := Option.bind_eq_some_iff.mp H
      obtain ⟨t240, A100, H⟩ := H
      replace H : (if t240 = a2 then ((rice_Fold.f a0).bind fun t241 => ((rice_Fold.f a1).bind fun t242 => (if ((t241 == t242) == (a0 == a1)) = true then ((rice_Fold.f a0).bind fun t243 => (some (((Int.tmod t243 2) == 1) == (decide (a0 < 0))))) else (some false)))) else (some false)) = some r := H
      have A10 := Aside0.mk A100
      clear A100
      by_cases c11 : t240 = a2
      · rw [if_pos c11] at H
        have c11b0 : (t240 == a2) = true := beq_iff_eq.mpr c11
        have c11b1 : (t240 != a2) = false := bne_eq_false_iff_eq.mpr c11
        clear c11
        replace H := Option.bind_eq_some_iff.mp H
        obtain ⟨t241, A120, H⟩ := H
        replace H : ((rice_Fold.f a1).bind fun t242 => (if ((t241 == t242) == (a0 == a1)) = true then ((rice_Fold.f a0).bind fun t243 => (some (((Int.tmod t243 2) == 1) == (decide (a0 < 0))))) else (some false))) = some r := H
        have A12 := Aside0.mk A120
        clear A120
        replace H := Option.bind_eq_some_iff.mp H
        obtain ⟨t242, A130, H⟩ := H
        replace H : (if ((t241 == t242) == (a0 == a1)) = true then ((rice_Fold.f a0).bind fun t243 => (some (((Int.tmod t243 2) == 1) == (decide (a0 < 0))))) else (some false)) = some r := H
        have A13 := Aside0.mk A130
        clear A130
        by_cases c14 : ((t241 == t242) == (a0 == a1)) = true
        · rw [if_pos c14] at H
          have c14b0 : ((t241 == t242) == (a0 == a1)) = true := c14
          (try (have c14x := c14b0; rw [show t241 = t237 from Option.some.inj (A12.out.symm.trans A6.out)] at c14x))
          (try (have c14b1 : decide ((t241 == t242) = (a0 == a1)) = true := by simpa using c14))
          (try (have c14b2 : ((t241 == t242) == (a0 == a1)) = true := by simpa using c14))
          clear c14
          replace H := Option.bind_eq_some_iff.mp H
          obtain ⟨t243, A150, H⟩ := H
          replace H : (some (((Int.tmod t243 2) == 1) == (decide (a0 < 0)))) = some r := H
          have A15 := Aside0.mk A150
          clear A150
          rw [show t243 = t237 from Option.some.inj (A15.out.symm.trans A6.out)] at H
          obtain rfl := Option.some.inj H
          go_enter Try.func6, Try.ntmps6
          go_wp2_with (first | ((with_reducible refine gate_callee (f := 8) rfl ?_); refine goesL_ (some 8) rfl rfl Try.func8 (by kernel_rfl) rfl #[] rfl (by (try simp only [List.map_toArray, List.map_cons, List.map_nil]); first | done | rfl | (simp only [List.length_drop, List.length_take]; rfl)) ?_; (with_reducible refine (serinettelaw02_awake.calls k  true _ A4.out).mono ?_); rintro e w16 ⟨rfl, hb⟩; refine ⟨_, rfl, ?_⟩; have n0_ := Aside0.mk (below_step (by repeat (first | (with_reducible first | exact HB.out | apply below_alloc | apply pw_below_drewN | apply below_drew1) | exact HB.out)) hb); clear HB; have HB := n0_; clear n0_; (try clear hb); (try clear hb2); (try clear hk); (try clear hi)) | (go_at_call 22; (with_reducible refine (rice_Fold.calls a0 t237 _ A6.out).mono ?_); rintro e w' ⟨rfl, ⟨nd, rfl⟩⟩) | (go_at_call 24; (with_reducible refine (rice_Unfold.calls t237 t238 _ A7.out).mono ?_); rintro e w' ⟨rfl, ⟨nd, rfl⟩⟩) | (go_at_call 24; (with_reducible refine (rice_Unfold.calls a2 t239 _ A9.out).mono ?_); rintro e w' ⟨rfl, ⟨nd, rfl⟩⟩) | (go_at_call 22; (with_reducible refine (rice_Fold.calls t239 t240 _ A10.out).mono ?_); rintro e w' ⟨rfl, ⟨nd, rfl⟩⟩) | (go_at_call 22; (with_reducible refine (rice_Fold.calls a0 t241 _ A12.out).mono ?_); rintro e w' ⟨rfl, ⟨nd, rfl⟩⟩) | (go_at_call 22; (with_reducible refine (rice_Fold.calls a1 t242 _ A13.out).mono ?_); rintro e w' ⟨rfl, ⟨nd, rfl⟩⟩) | (go_at_call 22; (with_reducible refine (rice_Fold.calls a0 t243 _ A15.out).mono ?_); rintro e w' ⟨rfl, ⟨nd, rfl⟩⟩))
          go_ret
          exact ⟨by first | rfl | (simp [errW_none, errW_some] <;> rfl) | (simp [*, errW_none, errW_some] <;> rfl), by repeat (first | (with_reducible first | exact HB.out | apply below_alloc | apply pw_below_drewN | apply below_drew1) | exact HB.out)⟩
        · rw [if_neg c14] at H
          have c14b0 : ((t241 == t242) == (a0 == a1)) = false := by simpa using c14
          (try (have c14x := c14b0; rw [show t241 = t237 from Option.some.inj (A12.out.symm.trans A6.out)] at c14x))
          (try (have c14b1 : decide ((t241 == t242) = (a0 == a1)) = false := by simpa using c14))
          (try (have c14b2 : ((t241 == t242) == (a0 == a1)) = false := by simpa using c14))
          (try (have c14b3 : ¬ ((t241 == t242) = (a0 == a1)) := by simpa using c14))
          clear c14
          obtain rfl := Option.some.inj H
          go_enter Try.func6, Try.ntmps6
          go_wp2_with (first | ((with_reducible refine gate_callee (f := 8) rfl ?_); refine goesL_ (some 8) rfl rfl Try.func8 (by kernel_rfl) rfl #[] rfl (by (try simp only [List.map_toArray, List.map_cons, List.map_nil]); first | done | rfl | (simp only [List.length_drop, List.length_take]; rfl)) ?_; (with_reducible refine (serinettelaw02_awake.calls k  true _ A4.out).mono ?_); rintro e w17 ⟨rfl, hb⟩; refine ⟨_, rfl, ?_⟩; have n0_ := Aside0.mk (below_step (by repeat (first | (with_reducible first | exact HB.out | apply below_alloc | apply pw_below_drewN | apply below_drew1) | exact HB.out)) hb); clear HB; have HB := n0_; clear n0_; (try clear hb); (try clear hb2); (try clear hk); (try clear hi)) | (go_at_call 22; (with_reducible refine (rice_Fold.calls a0 t237 _ A6.out).mono ?_); rintro e w' ⟨rfl, ⟨nd, rfl⟩⟩) | (go_at_call 24; (with_reducible refine (rice_Unfold.calls t237 t238 _ A7.out).mono ?_); rintro e w' ⟨rfl, ⟨nd, rfl⟩⟩) | (go_at_call 24; (with_reducible refine (rice_Unfold.calls a2 t239 _ A9.out).mono ?_); rintro e w' ⟨rfl, ⟨nd, rfl⟩⟩) | (go_at_call 22; (with_reducible refine (rice_Fold.calls t239 t240 _ A10.out).mono ?_); rintro e w' ⟨rfl, ⟨nd, rfl⟩⟩) | (go_at_call 22; (with_reducible refine (rice_Fold.calls a0 t241 _ A12.out).mono ?_); rintro e w' ⟨rfl, ⟨nd, rfl⟩⟩) | (go_at_call 22; (with_reducible refine (rice_Fold.calls a1 t242 _ A13.out).mono ?_); rintro e w' ⟨rfl, ⟨nd, rfl⟩⟩))
          go_ret
          exact ⟨by first | rfl | (simp [errW_none, errW_some] <;> rfl) | (simp [*, errW_none, errW_some] <;> rfl), by repeat (first | (with_reducible first | exact HB.out | apply below_alloc | apply pw_below_drewN | apply below_drew1) | exact HB.out)⟩
      · rw [if_neg c11] at H
        have c11b0 : (t240 == a2) = false := beq_eq_false_iff_ne.mpr c11
        have c11b1 : (t240 != a2) = true := bne_iff_ne.mpr c11
        obtain rfl := Option.some.inj H
        go_enter Try.func6, Try.ntmps6
        go_wp2_with (first | ((with_reducible refine gate_callee (f := 8) rfl ?_); refine goesL_ (some 8) rfl rfl Try.func8 (by kernel_rfl) rfl #[] rfl (by (try simp only [List.map_toArray, List.map_cons, List.map_nil]); first | done | rfl | (simp only [List.length_drop, List.length_take]; rfl)) ?_; (with_reducible refine (serinettelaw02_awake.calls k  true _ A4.out).mono ?_); rintro e w18 ⟨rfl, hb⟩; refine ⟨_, rfl, ?_⟩; have n0_ := Aside0.mk (below_step (by repeat (first | (with_reducible first | exact HB.out | apply below_alloc | apply pw_below_drewN | apply below_drew1) | exact HB.out)) hb); clear HB; have HB := n0_; clear n0_; (try clear hb); (try clear hb2); (try clear hk); (try clear hi)) | (go_at_call 22; (with_reducible refine (rice_Fold.calls a0 t237 _ A6.out).mono ?_); rintro e w' ⟨rfl, ⟨nd, rfl⟩⟩) | (go_at_call 24; (with_reducible refine (rice_Unfold.calls t237 t238 _ A7.out).mono ?_); rintro e w' ⟨rfl, ⟨nd, rfl⟩⟩) | (go_at_call 24; (with_reducible refine (rice_Unfold.calls a2 t239 _ A9.out).mono ?_); rintro e w' ⟨rfl, ⟨nd, rfl⟩⟩) | (go_at_call 22; (with_reducible refine (rice_Fold.calls t239 t240 _ A10.out).mono ?_); rintro e w' ⟨rfl, ⟨nd, rfl⟩⟩))
        go_ret
        exact ⟨by first | rfl | (simp [errW_none, errW_some] <;> rfl) | (simp [*, errW_none, errW_some] <;> rfl), by repeat (first | (with_reducible first | exact HB.out | apply below_alloc | apply pw_below_drewN | apply below_drew1) | exact HB.out)⟩
    · rw [if_neg c8] at H
      have c8b0 : (t238 == a0) = false := beq_eq_false_iff_ne.mpr c8
      have c8b1 : (t238 != a0) = true := bne_iff_ne.mpr c8
      obtain rfl := Option.some.inj H
      go_enter Try.func6, Try.ntmps6
      go_wp2_with (first | ((with_reducible refine gate_callee (f := 8) rfl ?_); refine goesL_ (some 8) rfl rfl Try.func8 (by kernel_rfl) rfl #[] rfl (by (try simp only [List.map_toArray, List.map_cons, List.map_nil]); first | done | rfl | (simp only [List.length_drop, List.length_take]; rfl)) ?_; (with_reducible refine (serinettelaw02_awake.calls k  true _ A4.out).mono ?_); rintro e w19 ⟨rfl, hb⟩; refine ⟨_, rfl, ?_⟩; have n0_ := Aside0.mk (below_step (by repeat (first | (with_reducible first | exact HB.out | apply below_alloc | apply pw_below_drewN | apply below_drew1) | exact HB.out)) hb); clear HB; have HB := n0_; clear n0_; (try clear hb); (try clear hb2); (try clear hk); (try clear hi)) | (go_at_call 22; (with_reducible refine (rice_Fold.calls a0 t237 _ A6.out).mono ?_); rintro e w' ⟨rfl, ⟨nd, rfl⟩⟩) | (go_at_call 24; (with_reducible refine (rice_Unfold.calls t237 t238 _ A7.out).mono ?_); rintro e w' ⟨rfl, ⟨nd, rfl⟩⟩))
      go_ret
      exact ⟨by first | rfl | (simp [errW_none, errW_some] <;> rfl) | (simp [*, errW_none, errW_some] <;> rfl), by repeat (first | (with_reducible first | exact HB.out | apply below_alloc | apply pw_below_drewN | apply below_drew1) | exact HB.out)⟩
  · replace c5 := Bool.eq_false_iff.mpr c5
    subst c5
    have H1 : (some false) = some r := by rw [if_neg (show ¬ (false = true) by decide)] at H; exact H
    clear H
    have H := H1
    clear H1
    obtain rfl := Option.some.inj H
    go_enter Try.func6, Try.ntmps6
    go_wp2_with (first | ((with_reducible refine gate_callee (f := 8) rfl ?_); refine goesL_ (some 8) rfl rfl Try.func8 (by kernel_rfl) rfl #[] rfl (by (try simp only [List.map_toArray, List.map_cons, List.map_nil]); first | done | rfl | (simp only [List.length_drop, List.length_take]; rfl)) ?_; (with_reducible refine (serinettelaw02_awake.calls k  false _ A4.out).mono ?_); rintro e w20 ⟨rfl, hb⟩; refine ⟨_, rfl, ?_⟩; have n0_ := Aside0.mk (below_step (by repeat (first | (with_reducible first | exact HB.out | apply below_alloc | apply pw_below_drewN | apply below_drew1) | exact HB.out)) hb); clear HB; have HB := n0_; clear n0_; (try clear hb); (try clear hb2); (try clear hk); (try clear hi)))
    go_ret
    exact ⟨by first | rfl | (simp [errW_none, errW_some] <;> rfl) | (simp [*, errW_none, errW_some] <;> rfl), by repeat (first | (with_reducible first | exact HB.out | apply below_alloc | apply pw_below_drewN | apply below_drew1) | exact HB.out)⟩

/-- THE ONE PURE STATEMENT of serinettelaw02_RiceOnce: yours. -/
def serinettelaw02_RiceOnce.Pure : Prop := ∀ (a0 : Int) (a1 : Int) (a2 : Int), (Lit.int .i64 a0).wf = true → (Lit.int .i64 a1).wf = true → (Lit.int .u64 a2).wf = true → ∃ k, serinettelaw02_RiceOnce.f k a0 a1 a2 = some true
theorem serinettelaw02_RiceOnce.walk (P : serinettelaw02_RiceOnce.Pure) (a0 : Int) (a1 : Int) (a2 : Int) (w : World) (w0 : (Lit.int .i64 a0).wf = true) (w1 : (Lit.int .i64 a1).wf = true) (w2 : (Lit.int .u64 a2).wf = true) :
    Calls Try.prog 6 #[.int .i64 a0, .int .i64 a1, .int .u64 a2] w fun e w' => e = .returned (.bool true) ∧ Below w.heap.size w w' := by
  obtain ⟨k, h⟩ := P a0 a1 a2 w0 w1 w2
  refine (serinettelaw02_RiceOnce.calls k a0 a1 a2 true w h).mono ?_
  rintro e w' ⟨rfl, hd⟩
  exact ⟨rfl, hd⟩

end Go.Proofs.Ytkkjpaijkhhlcaa.PA
