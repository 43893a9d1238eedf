/- Each Go function named below comes to what the plain Lean function of its name answers, wherever that answers (rounds enough, no panic, no row too long); texts by a program of this session by way of the kit's print.py, what that does not take by hand. Condition: what is read lies in memory as each theorem says. -/
import Derived.Test.YtkkjpaijkhhlcaaPAx0
import Derived.Test.YtkkjpaijkhhlcaaPAx3
import Derived.Test.YtkkjpaijkhhlcaaPAx4
import Derived.Test.YtkkjpaijkhhlcaaPAx5
import Derived.Test.YtkkjpaijkhhlcaaPAx10
namespace Go.Proofs.Ytkkjpaijkhhlcaa.PA
open Go.RowKit Go.Proofs.YtkkjpaijkhhlcaaW.PrintWords Go.Proofs.YtkkjpaijkhhlcaaW.PrintLast Go.Proofs.YtkkjpaijkhhlcaaW.PrintMore
attribute [local go_sem] max2_int min2_int max_two min_two max_three min_three max_four min_four   -- for this text's walks alone
set_option linter.unusedVariables false
set_option linter.unusedSimpArgs false

/-! ### serinettelaw02_RiceOnce: function 6 -/
def serinettelaw02_RiceOnce.f (k : Nat) (a0 : Int) (a1 : Int) (a2 : Int) : Option (Bool) := (serinettelaw02_awake.f k).bind fun t236 => (if t236 = true then ((rice_Fold.f a0).bind fun t237 => ((rice_Unfold.f t237).bind fun t238 => (if t238 = a0 then ((rice_Unfold.f a2).bind fun t239 => ((rice_Fold.f t239).bind fun t240 => (if t240 = a2 then ((rice_Fold.f a0).bind fun t241 => ((rice_Fold.f a1).bind fun t242 => (if ((t241 == t242) == (a0 == a1)) = true then ((rice_Fold.f a0).bind fun t243 => (some (((Int.tmod t243 2) == 1) == (decide (a0 < 0))))) else (some false)))) else (some false)))) else (some false)))) else (some false))
theorem serinettelaw02_RiceOnce.mono : ∀ a0 a1 a2 k, LeO (serinettelaw02_RiceOnce.f k a0 a1 a2) (serinettelaw02_RiceOnce.f (k + 1) a0 a1 a2) := by
  intro a0 a1 a2 k
  unfold serinettelaw02_RiceOnce.f
  repeat' first
      | (with_reducible exact serinettelaw02_awake.mono _)
      | (with_reducible exact LeO.refl _)
      | (with_reducible exact LeO.none _)
      | (with_reducible refine LeO.ite ?_ ?_)
      | (with_reducible refine LeO.bind ?_ (fun _ => ?_))
      | exact serinettelaw02_awake.mono _
      | exact LeO.none _
      | refine LeO.ite ?_ ?_
      | refine LeO.bind ?_ (fun _ => ?_)
set_option maxHeartbeats 8000000 in
set_option maxRecDepth 100000 in
theorem serinettelaw02_RiceOnce.calls (k : Nat) (a0 : Int) (a1 : Int) (a2 : Int) (r : Bool) (w : World) (h : serinettelaw02_RiceOnce.f k a0 a1 a2 = some r) :
    Calls Try.prog 6 #[.int .i64 a0, .int .i64 a1, .int .u64 a2] w fun e w' => e = .returned (.bool r) ∧ Below w.heap.size w w' := by
  have HB := Aside0.mk (Below.refl w.heap.size w)
  have H : ((serinettelaw02_awake.f k).bind fun t236 => (if t236 = true then ((rice_Fold.f a0).bind fun t237 => ((rice_Unfold.f t237).bind fun t238 => (if t238 = a0 then ((rice_Unfold.f a2).bind fun t239 => ((rice_Fold.f t239).bind fun t240 => (if t240 = a2 then ((rice_Fold.f a0).bind fun t241 => ((rice_Fold.f a1).bind fun t242 => (if ((t241 == t242) == (a0 == a1)) = true then ((rice_Fold.f a0).bind fun t243 => (some (((Int.tmod t243 2) == 1) == (decide (a0 < 0))))) else (some false)))) else (some false)))) else (some false)))) else (some false))) = some r := h
  clear h
  replace H := Option.bind_eq_some_iff.mp H
  obtain ⟨t236, A40, H⟩ := H
  replace H : (if t236 = true then ((rice_Fold.f a0).bind fun t237 => ((rice_Unfold.f t237).bind fun t238 => (if t238 = a0 then ((rice_Unfold.f a2).bind fun t239 => ((rice_Fold.f t239).bind fun t240 => (if t240 = a2 then ((rice_Fold.f a0).bind fun t241 => ((rice_Fold.f a1).bind fun t242 => (if ((t241 == t242) == (a0 == a1)) = true then ((rice_Fold.f a0).bind fun t243 => (some (((Int.tmod t243 2) == 1) == (decide (a0 < 0))))) else (some false)))) else (some false)))) else (some false)))) else (some false)) = some r := H
  have A4 := Aside0.mk A40
  clear A40
  by_cases c5 : t236 = true
  · subst c5
    have H1 : ((rice_Fold.f a0).bind fun t237 => ((rice_Unfold.f t237).bind fun t238 => (if t238 = a0 then ((rice_Unfold.f a2).bind fun t239 => ((rice_Fold.f t239).bind fun t240 => (if t240 = a2 then ((rice_Fold.f a0).bind fun t241 => ((rice_Fold.f a1).bind fun t242 => (if ((t241 == t242) == (a0 == a1)) = true then ((rice_Fold.f a0).bind fun t243 => (some (((Int.tmod t243 2) == 1) == (decide (a0 < 0))))) else (some false)))) else (some false)))) else (some false)))) = some r := by rw [if_pos rfl] at H; exact H
    clear H
    have H := H1
    clear H1
    replace H := Option.bind_eq_some_iff.mp H
    obtain ⟨t237, A60, H⟩ := H
    replace H : ((rice_Unfold.f t237).bind fun t238 => (if t238 = a0 then ((rice_Unfold.f a2).bind fun t239 => ((rice_Fold.f t239).bind fun t240 => (if t240 = a2 then ((rice_Fold.f a0).bind fun t241 => ((rice_Fold.f a1).bind fun t242 => (if ((t241 == t242) == (a0 == a1)) = true then ((rice_Fold.f a0).bind fun t243 => (some (((Int.tmod t243 2) == 1) == (decide (a0 < 0))))) else (some false)))) else (some false)))) else (some false))) = some r := H
    have A6 := Aside0.mk A60
    clear A60
    replace H := Option.bind_eq_some_iff.mp H
    obtain ⟨t238, A70, H⟩ := H
    replace H : (if t238 = a0 then ((rice_Unfold.f a2).bind fun t239 => ((rice_Fold.f t239).bind fun t240 => (if t240 = a2 then ((rice_Fold.f a0).bind fun t241 => ((rice_Fold.f a1).bind fun t242 => (if ((t241 == t242) == (a0 == a1)) = true then ((rice_Fold.f a0).bind fun t243 => (some (((Int.tmod t243 2) == 1) == (decide (a0 < 0))))) else (some false)))) else (some false)))) else (some false)) = some r := H
    have A7 := Aside0.mk A70
    clear A70
    by_cases c8 : t238 = a0
    · rw [if_pos c8] at H
      have c8b0 : (t238 == a0) = true := beq_iff_eq.mpr c8
      have c8b1 : (t238 != a0) = false := bne_eq_false_iff_eq.mpr c8
      clear c8
      replace H := Option.bind_eq_some_iff.mp H
      obtain ⟨t239, A90, H⟩ := H
      replace H : ((rice_Fold.f t239).bind fun t240 => (if t240 = a2 then ((rice_Fold.f a0).bind fun t241 => ((rice_Fold.f a1).bind fun t242 => (if ((t241 == t242) == (a0 == a1)) = true then ((rice_Fold.f a0).bind fun t243 => (some (((Int.tmod t243 2) == 1) == (decide (a0 < 0))))) else (some false)))) else (some false))) = some r := H
      have A9 := Aside0.mk A90
      clear A90
      replace H := Option.bind_eq_some_iff.mp H
      obtain ⟨t240, A100, H⟩ := H
      replace H : (if t240 = a2 then ((rice_Fold.f a0).bind fun t241 => ((rice_Fold.f a1).bind fun t242 => (if ((t241 == t242) == (a0 == a1)) = true then ((rice_Fold.f a0).bind fun t243 => (some (((Int.tmod t243 2) == 1) == (decide (a0 < 0))))) else (some false)))) else (some false)) = some r := H
      have A10 := Aside0.mk A100
      clear A100
      by_cases c11 : t240 = a2
      · rw [if_pos c11] at H
        have c11b0 : (t240 == a2) = true := beq_iff_eq.mpr c11
        have c11b1 : (t240 != a2) = false := bne_eq_false_iff_eq.mpr c11
        clear c11
        replace H := Option.bind_eq_some_iff.mp H
        obtain ⟨t241, A120, H⟩ := H
        replace H : ((rice_Fold.f a1).bind fun t242 => (if ((t241 == t242) == (a0 == a1)) = true then ((rice_Fold.f a0).bind fun t243 => (some (((Int.tmod t243 2) == 1) == (decide (a0 < 0))))) else (some false))) = some r := H
        have A12 := Aside0.mk A120
        clear A120
        replace H := Option.bind_eq_some_iff.mp H
        obtain ⟨t242, A130, H⟩ := H
        replace H : (if ((t241 == t242) == (a0 == a1)) = true then ((rice_Fold.f a0).bind fun t243 => (some (((Int.tmod t243 2) == 1) == (decide (a0 < 0))))) else (some false)) = some r := H
        have A13 := Aside0.mk A130
        clear A130
        by_cases c14 : ((t241 == t242) == (a0 == a1)) = true
        · rw [if_pos c14] at H
          have c14b0 : ((t241 == t242) == (a0 == a1)) = true := c14
          (try (have c14x := c14b0; rw [show t241 = t237 from Option.some.inj (A12.out.symm.trans A6.out)] at c14x))
          (try (have c14b1 : decide ((t241 == t242) = (a0 == a1)) = true := by simpa using c14))
          (try (have c14b2 : ((t241 == t242) == (a0 == a1)) = true := by simpa using c14))
          clear c14
          replace H := Option.bind_eq_some_iff.mp H
          obtain ⟨t243, A150, H⟩ := H
          replace H : (some (((Int.tmod t243 2) == 1) == (decide (a0 < 0)))) = some r := H
          have A15 := Aside0.mk A150
          clear A150
          rw [show t243 = t237 from Option.some.inj (A15.out.symm.trans A6.out)] at H
          obtain rfl := Option.some.inj H
          go_enter Try.func6, Try.ntmps6
          go_wp2_with (first | ((with_reducible refine gate_callee (f := 8) rfl ?_); refine goesL_ (some 8) rfl rfl Try.func8 (by kernel_rfl) rfl #[] rfl (by (try simp only [List.map_toArray, List.map_cons, List.map_nil]); first | done | rfl | (simp only [List.length_drop, List.length_take]; rfl)) ?_; (with_reducible refine (serinettelaw02_awake.calls k  true _ A4.out).mono ?_); rintro e w16 ⟨rfl, hb⟩; refine ⟨_, rfl, ?_⟩; have n0_ := Aside0.mk (below_step (by repeat (first | (with_reducible first | exact HB.out | apply below_alloc | apply pw_below_drewN | apply below_drew1) | exact HB.out)) hb); clear HB; have HB := n0_; clear n0_; (try clear hb); (try clear hb2); (try clear hk); (try clear hi)) | (go_at_call 22; (with_reducible refine (rice_Fold.calls a0 t237 _ A6.out).mono ?_); rintro e w' ⟨rfl, ⟨nd, rfl⟩⟩) | (go_at_call 24; (with_reducible refine (rice_Unfold.calls t237 t238 _ A7.out).mono ?_); rintro e w' ⟨rfl, ⟨nd, rfl⟩⟩) | (go_at_call 24; (with_reducible refine (rice_Unfold.calls a2 t239 _ A9.out).mono ?_); rintro e w' ⟨rfl, ⟨nd, rfl⟩⟩) | (go_at_call 22; (with_reducible refine (rice_Fold.calls t239 t240 _ A10.out).mono ?_); rintro e w' ⟨rfl, ⟨nd, rfl⟩⟩) | (go_at_call 22; (with_reducible refine (rice_Fold.calls a0 t241 _ A12.out).mono ?_); rintro e w' ⟨rfl, ⟨nd, rfl⟩⟩) | (go_at_call 22; (with_reducible refine (rice_Fold.calls a1 t242 _ A13.out).mono ?_); rintro e w' ⟨rfl, ⟨nd, rfl⟩⟩) | (go_at_call 22; (with_reducible refine (rice_Fold.calls a0 t243 _ A15.out).mono ?_); rintro e w' ⟨rfl, ⟨nd, rfl⟩⟩))
          go_ret
          exact ⟨by first | rfl | (simp [errW_none, errW_some] <;> rfl) | (simp [*, errW_none, errW_some] <;> rfl), by repeat (first | (with_reducible first | exact HB.out | apply below_alloc | apply pw_below_drewN | apply below_drew1) | exact HB.out)⟩
        · rw [if_neg c14] at H
          have c14b0 : ((t241 == t242) == (a0 == a1)) = false := by simpa using c14
          (try (have c14x := c14b0; rw [show t241 = t237 from Option.some.inj (A12.out.symm.trans A6.out)] at c14x))
          (try (have c14b1 : decide ((t241 == t242) = (a0 == a1)) = false := by simpa using c14))
          (try (have c14b2 : ((t241 == t242) == (a0 == a1)) = false := by simpa using c14))
          (try (have c14b3 : ¬ ((t241 == t242) = (a0 == a1)) := by simpa using c14))
          clear c14
          obtain rfl := Option.some.inj H
          go_enter Try.func6, Try.ntmps6
          go_wp2_with (first | ((with_reducible refine gate_callee (f := 8) rfl ?_); refine goesL_ (some 8) rfl rfl Try.func8 (by kernel_rfl) rfl #[] rfl (by (try simp only [List.map_toArray, List.map_cons, List.map_nil]); first | done | rfl | (simp only [List.length_drop, List.length_take]; rfl)) ?_; (with_reducible refine (serinettelaw02_awake.calls k  true _ A4.out).mono ?_); rintro e w17 ⟨rfl, hb⟩; refine ⟨_, rfl, ?_⟩; have n0_ := Aside0.mk (below_step (by repeat (first | (with_reducible first | exact HB.out | apply below_alloc | apply pw_below_drewN | apply below_drew1) | exact HB.out)) hb); clear HB; have HB := n0_; clear n0_; (try clear hb); (try clear hb2); (try clear hk); (try clear hi)) | (go_at_call 22; (with_reducible refine (rice_Fold.calls a0 t237 _ A6.out).mono ?_); rintro e w' ⟨rfl, ⟨nd, rfl⟩⟩) | (go_at_call 24; (with_reducible refine (rice_Unfold.calls t237 t238 _ A7.out).mono ?_); rintro e w' ⟨rfl, ⟨nd, rfl⟩⟩) | (go_at_call 24; (with_reducible refine (rice_Unfold.calls a2 t239 _ A9.out).mono ?_); rintro e w' ⟨rfl, ⟨nd, rfl⟩⟩) | (go_at_call 22; (with_reducible refine (rice_Fold.calls t239 t240 _ A10.out).mono ?_); rintro e w' ⟨rfl, ⟨nd, rfl⟩⟩) | (go_at_call 22; (with_reducible refine (rice_Fold.calls a0 t241 _ A12.out).mono ?_); rintro e w' ⟨rfl, ⟨nd, rfl⟩⟩) | (go_at_call 22; (with_reducible refine (rice_Fold.calls a1 t242 _ A13.out).mono ?_); rintro e w' ⟨rfl, ⟨nd, rfl⟩⟩))
          go_ret
          exact ⟨by first | rfl | (simp [errW_none, errW_some] <;> rfl) | (simp [*, errW_none, errW_some] <;> rfl), by repeat (first | (with_reducible first | exact HB.out | apply below_alloc | apply pw_below_drewN | apply below_drew1) | exact HB.out)⟩
      · rw [if_neg c11] at H
        have c11b0 : (t240 == a2) = false := beq_eq_false_iff_ne.mpr c11
        have c11b1 : (t240 != a2) = true := bne_iff_ne.mpr c11
        obtain rfl := Option.some.inj H
        go_enter Try.func6, Try.ntmps6
        go_wp2_with (first | ((with_reducible refine gate_callee (f := 8) rfl ?_); refine goesL_ (some 8) rfl rfl Try.func8 (by kernel_rfl) rfl #[] rfl (by (try simp only [List.map_toArray, List.map_cons, List.map_nil]); first | done | rfl | (simp only [List.length_drop, List.length_take]; rfl)) ?_; (with_reducible refine (serinettelaw02_awake.calls k  true _ A4.out).mono ?_); rintro e w18 ⟨rfl, hb⟩; refine ⟨_, rfl, ?_⟩; have n0_ := Aside0.mk (below_step (by repeat (first | (with_reducible first | exact HB.out | apply below_alloc | apply pw_below_drewN | apply below_drew1) | exact HB.out)) hb); clear HB; have HB := n0_; clear n0_; (try clear hb); (try clear hb2); (try clear hk); (try clear hi)) | (go_at_call 22; (with_reducible refine (rice_Fold.calls a0 t237 _ A6.out).mono ?_); rintro e w' ⟨rfl, ⟨nd, rfl⟩⟩) | (go_at_call 24; (with_reducible refine (rice_Unfold.calls t237 t238 _ A7.out).mono ?_); rintro e w' ⟨rfl, ⟨nd, rfl⟩⟩) | (go_at_call 24; (with_reducible refine (rice_Unfold.calls a2 t239 _ A9.out).mono ?_); rintro e w' ⟨rfl, ⟨nd, rfl⟩⟩) | (go_at_call 22; (with_reducible refine (rice_Fold.calls t239 t240 _ A10.out).mono ?_); rintro e w' ⟨rfl, ⟨nd, rfl⟩⟩))
        go_ret
        exact ⟨by first | rfl | (simp [errW_none, errW_some] <;> rfl) | (simp [*, errW_none, errW_some] <;> rfl), by repeat (first | (with_reducible first | exact HB.out | apply below_alloc | apply pw_below_drewN | apply below_drew1) | exact HB.out)⟩
    · rw [if_neg c8] at H
      have c8b0 : (t238 == a0) = false := beq_eq_false_iff_ne.mpr c8
      have c8b1 : (t238 != a0) = true := bne_iff_ne.mpr c8
      obtain rfl := Option.some.inj H
      go_enter Try.func6, Try.ntmps6
      go_wp2_with (first | ((with_reducible refine gate_callee (f := 8) rfl ?_); refine goesL_ (some 8) rfl rfl Try.func8 (by kernel_rfl) rfl #[] rfl (by (try simp only [List.map_toArray, List.map_cons, List.map_nil]); first | done | rfl | (simp only [List.length_drop, List.length_take]; rfl)) ?_; (with_reducible refine (serinettelaw02_awake.calls k  true _ A4.out).mono ?_); rintro e w19 ⟨rfl, hb⟩; refine ⟨_, rfl, ?_⟩; have n0_ := Aside0.mk (below_step (by repeat (first | (with_reducible first | exact HB.out | apply below_alloc | apply pw_below_drewN | apply below_drew1) | exact HB.out)) hb); clear HB; have HB := n0_; clear n0_; (try clear hb); (try clear hb2); (try clear hk); (try clear hi)) | (go_at_call 22; (with_reducible refine (rice_Fold.calls a0 t237 _ A6.out).mono ?_); rintro e w' ⟨rfl, ⟨nd, rfl⟩⟩) | (go_at_call 24; (with_reducible refine (rice_Unfold.calls t237 t238 _ A7.out).mono ?_); rintro e w' ⟨rfl, ⟨nd, rfl⟩⟩))
      go_ret
      exact ⟨by first | rfl | (simp [errW_none, errW_some] <;> rfl) | (simp [*, errW_none, errW_some] <;> rfl), by repeat (first | (with_reducible first | exact HB.out | apply below_alloc | apply pw_below_drewN | apply below_drew1) | exact HB.out)⟩
  · replace c5 := Bool.eq_false_iff.mpr c5
    subst c5
    have H1 : (some false) = some r := by rw [if_neg (show ¬ (false = true) by decide)] at H; exact H
    clear H
    have H := H1
    clear H1
    obtain rfl := Option.some.inj H
    go_enter Try.func6, Try.ntmps6
    go_wp2_with (first | ((with_reducible refine gate_callee (f := 8) rfl ?_); refine goesL_ (some 8) rfl rfl Try.func8 (by kernel_rfl) rfl #[] rfl (by (try simp only [List.map_toArray, List.map_cons, List.map_nil]); first | done | rfl | (simp only [List.length_drop, List.length_take]; rfl)) ?_; (with_reducible refine (serinettelaw02_awake.calls k  false _ A4.out).mono ?_); rintro e w20 ⟨rfl, hb⟩; refine ⟨_, rfl, ?_⟩; have n0_ := Aside0.mk (below_step (by repeat (first | (with_reducible first | exact HB.out | apply below_alloc | apply pw_below_drewN | apply below_drew1) | exact HB.out)) hb); clear HB; have HB := n0_; clear n0_; (try clear hb); (try clear hb2); (try clear hk); (try clear hi)))
    go_ret
    exact ⟨by first | rfl | (simp [errW_none, errW_some] <;> rfl) | (simp [*, errW_none, errW_some] <;> rfl), by repeat (first | (with_reducible first | exact HB.out | apply below_alloc | apply pw_below_drewN | apply below_drew1) | exact HB.out)⟩

/-- THE ONE PURE STATEMENT of serinettelaw02_RiceOnce: yours. -/
def serinettelaw02_RiceOnce.Pure : Prop := ∀ (a0 : Int) (a1 : Int) (a2 : Int), (Lit.int .i64 a0).wf = true → (Lit.int .i64 a1).wf = true → (Lit.int .u64 a2).wf = true → ∃ k, serinettelaw02_RiceOnce.f k a0 a1 a2 = some true
theorem serinettelaw02_RiceOnce.walk (P : serinettelaw02_RiceOnce.Pure) (a0 : Int) (a1 : Int) (a2 : Int) (w : World) (w0 : (Lit.int .i64 a0).wf = true) (w1 : (Lit.int .i64 a1).wf = true) (w2 : (Lit.int .u64 a2).wf = true) :
    Calls Try.prog 6 #[.int .i64 a0, .int .i64 a1, .int .u64 a2] w fun e w' => e = .returned (.bool true) ∧ Below w.heap.size w w' := by
  obtain ⟨k, h⟩ := P a0 a1 a2 w0 w1 w2
  refine (serinettelaw02_RiceOnce.calls k a0 a1 a2 true w h).mono ?_
  rintro e w' ⟨rfl, hd⟩
  exact ⟨rfl, hd⟩

/-- Another block than a Reader's, and no row of bytes. -/
def OffS61 (W : World) (g : Nat) (row : Option Nat) : Prop := some g ≠ row ∧ ∀ r cs, W.heap[r]? = some (.cells cs 5 (0, 0)) → some r ≠ row
/-- A Reader at block g of W: its bytes lie in a row of its own, made since w0. -/
def IsS61 (w0 W : World) (g : Nat) (f0 : List Int) (f1 : Int) (f2 : Int) : Prop := ∃ A0 c0, W.heap[g]? = some (.cells #[.slice A0 f0.length c0, .int .i64 f1, .int .i64 f2] 61 (0, 0)) ∧ w0.heap.size ≤ g ∧ Kd.R (Kd.int .u8) 5 W w0.heap.size (fun _ => True) (.slice A0 f0.length c0) f0
theorem IsS61.grown {w0 W : World} {g : Nat} {f0 : List Int} {f1 : Int} {f2 : Int} {W1 : World} {row : Option Nat} (h : IsS61 w0 W g f0 f1 f2) (hw : W.grownBy W1 row) (hne : OffS61 W g row) : IsS61 w0 W1 g f0 f1 f2 := by
  obtain ⟨A0, c0, hb, hg, hr⟩ := h
  exact ⟨A0, c0, blk_grown hb hw hne.1, hg, Kd.R_mono (Kd.R_grown (Kd.R_bound hr) hw (fun k hk => by
    obtain ⟨_, _, _, q, hq, cs, hc⟩ := hk
    obtain rfl : q = 5 := by simpa [Kd.int, Kd.scalar] using hq
    exact hne.2 k cs hc)) (fun _ _ => trivial)⟩
theorem IsS61.own_neN {w0 W : World} {g : Nat} {f0 : List Int} {f1 : Int} {f2 : Int} {α : Type} {d : Kd α} {e : Nat} {base : Nat} {ok : Nat → Prop} {v : Value} {xs : List α} (h : IsS61 w0 W g f0 f1 f2) (ho : Kd.N d e W base ok v xs) (ht : e ≠ 61 ∧ e ≠ 5) : OffS61 W g v.ownBlock := by
  obtain ⟨A0, c0, hb, hg, hr⟩ := h
  exact ⟨Kd.N_ne ho hb ht.1, fun r cs hr => Kd.N_ne ho hr ht.2⟩
theorem IsS61.own_ne {w0 W : World} {g : Nat} {f0 : List Int} {f1 : Int} {f2 : Int} {α : Type} {d : Kd α} {e : Nat} {base : Nat} {ok : Nat → Prop} {v : Value} {xs : List α} (h : IsS61 w0 W g f0 f1 f2) (ho : d.R e W base ok v xs) (ht : e ≠ 61 ∧ e ≠ 5) : OffS61 W g v.ownBlock := by
  obtain ⟨A0, c0, hb, hg, hr⟩ := h
  exact ⟨Kd.R_ne ho hb ht.1, fun r cs hr => Kd.R_ne ho hr ht.2⟩
theorem IsS61.own_neQ {w0 W : World} {g : Nat} {f0 : List Int} {f1 : Int} {f2 : Int} {α : Type} {d : Kd α} {e : Nat} {base : Nat} {ok : Nat → Prop} {v : Value} {xs : List α} (h : IsS61 w0 W g f0 f1 f2) (ho : d.Q e W base ok v xs) (ht : e ≠ 61 ∧ e ≠ 5) : OffS61 W g v.ownBlock := by
  obtain ⟨A0, c0, hb, hg, hr⟩ := h
  exact ⟨Kd.Q_ne ho hb ht.1, fun r cs hr => Kd.Q_ne ho hr ht.2⟩
theorem IsS61.own_neS {w0 W : World} {g : Nat} {f0 : List Int} {f1 : Int} {f2 : Int} {α : Type} {d : Kd α} {e : Nat} {base : Nat} {ok : Nat → Prop} {v : Value} {xs : List α} (h : IsS61 w0 W g f0 f1 f2) (ho : d.S e W base ok v xs) (ht : e ≠ 61 ∧ e ≠ 5) : OffS61 W g v.ownBlock := by
  obtain ⟨A0, c0, hb, hg, hr⟩ := h
  exact ⟨Kd.S_ne ho hb ht.1, fun r cs hr => Kd.S_ne ho hr ht.2⟩
theorem IsS61.fresh {w0 W : World} {g : Nat} {f0 : List Int} {f1 : Int} {f2 : Int} (h : IsS61 w0 W g f0 f1 f2) : ∀ k, W.heap.size ≤ k → k ≠ g := by
  obtain ⟨A0, c0, hb, hg, hr⟩ := h
  exact Kd.freshB hb
theorem IsS61.below {w0 W : World} {g : Nat} {f0 : List Int} {f1 : Int} {f2 : Int} {W1 : World} (h : IsS61 w0 W g f0 f1 f2) (hw : Below W.heap.size W W1) : IsS61 w0 W1 g f0 f1 f2 := h.grown (grown_of_below hw none) ⟨by simp, fun _ _ _ => by simp⟩
theorem IsS61.alloc {w0 W : World} {g : Nat} {f0 : List Int} {f1 : Int} {f2 : Int} (h : IsS61 w0 W g f0 f1 f2) (o : Obj) : IsS61 w0 (W.alloc o) g f0 f1 f2 := h.below (below_alloc (Below.refl _ _) o)
theorem IsS61.drewN {w0 W : World} {g : Nat} {f0 : List Int} {f1 : Int} {f2 : Int} (h : IsS61 w0 W g f0 f1 f2) (m : Nat) : IsS61 w0 (W.drewN m) g f0 f1 f2 := h
theorem IsS61.drew {w0 W : World} {g : Nat} {f0 : List Int} {f1 : Int} {f2 : Int} (h : IsS61 w0 W g f0 f1 f2) : IsS61 w0 W.drew g f0 f1 f2 := h
theorem IsS61.at_ {w0 W : World} {g : Nat} {f0 : List Int} {f1 : Int} {f2 : Int} {w' : World} {m : Nat} (hq : W.drewN m = w') (h : IsS61 w0 W g f0 f1 f2) : IsS61 w0 w' g f0 f1 f2 := by subst hq; exact IsS61.drewN h m
theorem IsS61.apart {w0 W : World} {g : Nat} {f0 : List Int} {f1 : Int} {f2 : Int} {α : Type} {d : Kd α} {e : Nat} {base : Nat} {ok : Nat → Prop} {v : Value} {xs : List α} (h : IsS61 w0 W g f0 f1 f2) (ho : d.R e W base ok v xs) (ht : ∀ q, q ∈ e :: d.E → q ≠ 61) : d.R e W base (fun k => ok k ∧ k ≠ g) v xs := by
  obtain ⟨A0, c0, hb, hg, hr⟩ := h
  exact Kd.R_types ho hb ht
theorem IsS61.apartQ {w0 W : World} {g : Nat} {f0 : List Int} {f1 : Int} {f2 : Int} {α : Type} {d : Kd α} {e : Nat} {base : Nat} {ok : Nat → Prop} {v : Value} {xs : List α} (h : IsS61 w0 W g f0 f1 f2) (ho : d.Q e W base ok v xs) (ht : ∀ q, q ∈ e :: d.E → q ≠ 61) : d.Q e W base (fun k => ok k ∧ k ≠ g) v xs := by
  obtain ⟨A0, c0, hb, hg, hr⟩ := h
  exact Kd.Q_types ho hb ht
theorem IsS61.apartS {w0 W : World} {g : Nat} {f0 : List Int} {f1 : Int} {f2 : Int} {α : Type} {d : Kd α} {e : Nat} {base : Nat} {ok : Nat → Prop} {v : Value} {xs : List α} (h : IsS61 w0 W g f0 f1 f2) (ho : d.S e W base ok v xs) (ht : ∀ q, q ∈ e :: d.E → q ≠ 61) : d.S e W base (fun k => ok k ∧ k ≠ g) v xs := by
  obtain ⟨A0, c0, hb, hg, hr⟩ := h
  exact Kd.S_types ho hb ht
theorem IsS61.lt {w0 W : World} {g : Nat} {f0 : List Int} {f1 : Int} {f2 : Int} (h : IsS61 w0 W g f0 f1 f2) : g < W.heap.size := by
  obtain ⟨A0, c0, hb, hg, hr⟩ := h
  exact blk_lt hb
theorem IsS61.ge {w0 W : World} {g : Nat} {f0 : List Int} {f1 : Int} {f2 : Int} (h : IsS61 w0 W g f0 f1 f2) : w0.heap.size ≤ g := by
  obtain ⟨A0, c0, hb, hg, hr⟩ := h
  exact hg
theorem IsS61.ne_blk {w0 W : World} {g : Nat} {f0 : List Int} {f1 : Int} {f2 : Int} {a : Nat} {cs : Array Value} {t : TypeId} {fr : Nat × Nat} (h : IsS61 w0 W g f0 f1 f2) (hb2 : W.heap[a]? = some (.cells cs t fr)) (ht : t ≠ 61) : g ≠ a := by
  obtain ⟨A0, c0, hb, hg, hr⟩ := h
  rintro rfl
  rw [hb] at hb2
  injection hb2 with hb2
  injection hb2 with _ ht2
  exact ht ht2.symm
theorem IsS61.far {w0 W : World} {g : Nat} {f0 : List Int} {f1 : Int} {f2 : Int} {p : Addr} (h : IsS61 w0 W g f0 f1 f2) (hne : OffS61 W g (some p.block)) (u : Value) : IsS61 w0 (W.setCell p u) g f0 f1 f2 := by
  obtain ⟨A0, c0, hb, hg, hr⟩ := h
  exact ⟨A0, c0, blk_far hb (fun e => hne.1 (by rw [e])) u, hg, Kd.R_mono (Kd.R_far (Kd.R_bound hr) (fun k hk => by
    obtain ⟨_, _, _, q, hq, cs, hc⟩ := hk
    obtain rfl : q = 5 := by simpa [Kd.int, Kd.scalar] using hq
    exact fun e => hne.2 k cs hc (by rw [e])) u) (fun _ _ => trivial)⟩
theorem IsS61.set_1 {w0 W : World} {g : Nat} {f0 : List Int} {f1 : Int} {f2 : Int} (h : IsS61 w0 W g f0 f1 f2) (x : Int) : IsS61 w0 (W.setCell ⟨g, 1, none⟩ (.int .i64 x)) g f0 x f2 := by
  obtain ⟨A0, c0, hb, hg, hr⟩ := h
  exact ⟨A0, c0, by simpa using blk_set hb 1 (.int .i64 x), hg, Kd.R_mono (Kd.R_far (Kd.R_types hr hb (by simp [Kd.int, Kd.scalar])) (fun k hk => hk.2) _) (fun _ _ => trivial)⟩
theorem IsS61.set_2 {w0 W : World} {g : Nat} {f0 : List Int} {f1 : Int} {f2 : Int} (h : IsS61 w0 W g f0 f1 f2) (x : Int) : IsS61 w0 (W.setCell ⟨g, 2, none⟩ (.int .i64 x)) g f0 f1 x := by
  obtain ⟨A0, c0, hb, hg, hr⟩ := h
  exact ⟨A0, c0, by simpa using blk_set hb 2 (.int .i64 x), hg, Kd.R_mono (Kd.R_far (Kd.R_types hr hb (by simp [Kd.int, Kd.scalar])) (fun k hk => hk.2) _) (fun _ _ => trivial)⟩
theorem cellS61_0 {W : World} {g : Nat} {A0 : Option Addr} {c0 : Nat} {f0 : List Int} {f1 : Int} {f2 : Int} (h : W.heap[g]? = some (.cells #[.slice A0 f0.length c0, .int .i64 f1, .int .i64 f2] 61 (0, 0))) : W.cell? ⟨g, 0, none⟩ = some (.slice A0 f0.length c0) := (blk_cell h 0).trans rfl
theorem cellS61_1 {W : World} {g : Nat} {A0 : Option Addr} {c0 : Nat} {f0 : List Int} {f1 : Int} {f2 : Int} (h : W.heap[g]? = some (.cells #[.slice A0 f0.length c0, .int .i64 f1, .int .i64 f2] 61 (0, 0))) : W.cell? ⟨g, 1, none⟩ = some (.int .i64 f1) := (blk_cell h 1).trans rfl
theorem cellS61_2 {W : World} {g : Nat} {A0 : Option Addr} {c0 : Nat} {f0 : List Int} {f1 : Int} {f2 : Int} (h : W.heap[g]? = some (.cells #[.slice A0 f0.length c0, .int .i64 f1, .int .i64 f2] 61 (0, 0))) : W.cell? ⟨g, 2, none⟩ = some (.int .i64 f2) := (blk_cell h 2).trans rfl
theorem IsS61.blk {w0 W : World} {g : Nat} {f0 : List Int} {f1 : Int} {f2 : Int} (h : IsS61 w0 W g f0 f1 f2) : ∃ cs, W.heap[g]? = some (.cells cs 61 (0, 0)) := by
  obtain ⟨A0, c0, hb, _⟩ := h
  exact ⟨_, hb⟩
theorem IsS61.keepG {w0 W : World} {g : Nat} {f0 : List Int} {f1 : Int} {f2 : Int} {W1 : World} {g' : Nat} {cs : Array Value} {t : TypeId} (h : IsS61 w0 W g f0 f1 f2) (hb' : W.heap[g']? = some (.cells cs t (0, 0))) (ht : t ≠ 61 ∧ t ≠ 5) (hk : KeepBut W W1 g' none) : IsS61 w0 W1 g f0 f1 f2 := by
  obtain ⟨A0, c0, hb, hg, hr⟩ := h
  exact ⟨A0, c0, hk.blk hb (blk_ne hb hb' (Ne.symm ht.1)) (by simp), hg, Kd.R_mono (Kd.R_keep (Kd.R_types hr hb' (by simp [Kd.int, Kd.scalar]; exact Ne.symm ht.2)) hk (fun _ hk => hk.2)) (fun _ _ => trivial)⟩

/-! ### bits_Open: function 27 -/
def bits_Open.f (l0 : List Int) : Option (List Int × Int × Int) := (bytes_Clone.f l0).map fun r => (r, 0, 0)
set_option maxRecDepth 100000 in
theorem bits_Open.calls (A0 : Option Addr) (c0 : Nat) (l0 : List Int) (r1 : List Int) (r2 : Int) (r3 : Int) (w0 w : World) (hB : Below w0.heap.size w0 w) (hr0 : Kd.C (Kd.int .u8) w A0 l0.length l0) (hc0 : l0.length ≤ c0) (h : bits_Open.f l0 = some (r1, r2, r3)) :
    Calls Try.prog 27 #[.slice A0 l0.length c0] w fun e w' => ∃ g_ : Nat, e = .returned (.pointer (some ⟨g_, 0, none⟩)) ∧ IsS61 w0 w' g_ r1 r2 r3 ∧ Below w0.heap.size w0 w' ∧ Below w.heap.size w w' := by
  have hu := Try.underlying61
  have HW0 := Aside0.mk hB.size
  have HB := Aside0.mk hB
  clear hB
  obtain ⟨r, hc, he⟩ := Option.map_eq_some_iff.1 h
  simp only [Prod.mk.injEq] at he
  obtain ⟨rfl, rfl, rfl⟩ := he
  clear h
  have HC := Aside0.mk (bytes_Clone.calls A0 c0 l0 r w hr0 hc0 hc)
  clear hr0 hc0 hc
  go_enter Try.func27, Try.ntmps27
  go_wp2_with (first | (go_at_call 35; (with_reducible refine HC.out.mono ?_); rintro e w1 ⟨v0, rfl, ho, hb⟩; obtain ⟨A, c, eA⟩ := Kd.R_slice ho; subst eA; have HO := Aside0.mk ho; have HBB := Aside0.mk hb; clear ho hb) | ((with_reducible refine gate_dst (N := 6) rfl ?_); refine box_event ?hg (N := 6) ?hd (cs := #[.slice A r.length c, .int .i64 0, .int .i64 0]) (t := 61) ?hr ?_; (case hd => rfl); (case hg => rfl); (case hr => first | (go_simp; done) | (go_simp; rfl)); intro gb101 hg w2 hbox hb; have HBX := Aside0.mk hbox; have HB2 := Aside0.mk hb; have HG := Aside0.mk (show w0.heap.size ≤ gb101 from Nat.le_trans HW0.out (Nat.le_trans HBB.out.size (by rw [hg]; exact Nat.le_refl _))); clear hbox hb hg))
  go_ret
  exact ⟨_, rfl, ⟨A, c, HBX.out, HG.out, Kd.R_lower (Kd.R_below HO.out HB2.out) HW0.out⟩, below_step (below_step HB.out HBB.out) HB2.out, below_step HBB.out HB2.out⟩


/-! ### bits_Reader_Fail: function 30 -/
def bits_Reader_Fail.f (s0_0 : List Int) (s0_1 : Int) (s0_2 : Int) : Option (Int × Int × Int) := some (s0_2, s0_1, s0_2)
set_option maxHeartbeats 8000000 in
set_option maxRecDepth 100000 in
theorem bits_Reader_Fail.calls (g : Nat) (s0_0 : List Int) (s0_1 : Int) (s0_2 : Int) (r1 : Int) (r2 : Int) (r3 : Int) (w0 w : World) (hI : IsS61 w0 w g s0_0 s0_1 s0_2) (hB : Below w0.heap.size w0 w) (h : bits_Reader_Fail.f s0_0 s0_1 s0_2 = some (r1, r2, r3)) :
    Calls Try.prog 30 #[.pointer (some ⟨g, 0, none⟩)] w fun e w' => e = .returned (.int .i64 r1) ∧ IsS61 w0 w' g s0_0 r2 r3 ∧ Below w0.heap.size w0 w' ∧ KeepBut w w' g none := by
  have HI0 := Aside0.mk hI
  have HK := Aside0.mk (KeepBut.refl w g none)
  have HL := Aside0.mk hB.size
  clear hI
  have HW0 := Aside0.mk hB.size
  have HB := Aside0.mk hB
  clear hB
  have H : (some (s0_2, s0_1, s0_2)) = some (r1, r2, r3) := h
  clear h
  simp only [Option.some.injEq, Prod.mk.injEq] at H
  obtain ⟨rfl, rfl, rfl⟩ := H
  obtain ⟨ASz2_0, cSz2_0, HGz2, hgz2, HSz2_0⟩ := HI0.out
  have hcz2_0 := cellS61_0 HGz2
  have hcz2_1 := cellS61_1 HGz2
  have hcz2_2 := cellS61_2 HGz2
  have hfz2_1 := blk_frozen HGz2 1
  have hfz2_2 := blk_frozen HGz2 2
  clear HGz2 hgz2
  go_enter Try.func30, Try.ntmps30
  go_wp2
  go_ret
  exact ⟨by first | rfl | (simp [errW_none, errW_some] <;> rfl) | (simp [*, errW_none, errW_some] <;> rfl), by repeat (first | (with_reducible first | exact HI0.out | apply IsS61.alloc | apply IsS61.drewN | apply IsS61.drew | apply IsS61.set_1 | apply IsS61.set_2) | exact HI0.out), by repeat (first | (with_reducible first | exact HB.out | apply below_alloc | apply pw_below_drewN | apply below_drew1 | refine below_set ?_ (IsS61.ge HI0.out)) | exact HB.out), by repeat (first | (with_reducible first | exact HK.out | apply KeepBut.set_ | apply keep_drewN | apply keep_drew | apply keep_alloc) | exact HK.out)⟩

/-! ### bits_Reader_Left: function 38 -/
def bits_Reader_Left.f (s0_0 : List Int) (s0_1 : Int) (s0_2 : Int) : Option (Int × Int × Int) := some (wrap64 ((wrap64 (8 * (s0_0.length : Int))) - s0_1), s0_1, s0_2)
set_option maxHeartbeats 8000000 in
set_option maxRecDepth 100000 in
theorem bits_Reader_Left.calls (g : Nat) (s0_0 : List Int) (s0_1 : Int) (s0_2 : Int) (r1 : Int) (r2 : Int) (r3 : Int) (w0 w : World) (hI : IsS61 w0 w g s0_0 s0_1 s0_2) (hB : Below w0.heap.size w0 w) (h : bits_Reader_Left.f s0_0 s0_1 s0_2 = some (r1, r2, r3)) :
    Calls Try.prog 38 #[.pointer (some ⟨g, 0, none⟩)] w fun e w' => e = .returned (.int .i64 r1) ∧ IsS61 w0 w' g s0_0 r2 r3 ∧ Below w0.heap.size w0 w' ∧ KeepBut w w' g none := by
  have HI0 := Aside0.mk hI
  have HK := Aside0.mk (KeepBut.refl w g none)
  have HL := Aside0.mk hB.size
  clear hI
  have HW0 := Aside0.mk hB.size
  have HB := Aside0.mk hB
  clear hB
  have H : (some (wrap64 ((wrap64 (8 * (s0_0.length : Int))) - s0_1), s0_1, s0_2)) = some (r1, r2, r3) := h
  clear h
  simp only [Option.some.injEq, Prod.mk.injEq] at H
  obtain ⟨rfl, rfl, rfl⟩ := H
  obtain ⟨ASz2_0, cSz2_0, HGz2, hgz2, HSz2_0⟩ := HI0.out
  have hcz2_0 := cellS61_0 HGz2
  have hcz2_1 := cellS61_1 HGz2
  have hcz2_2 := cellS61_2 HGz2
  have hfz2_1 := blk_frozen HGz2 1
  have hfz2_2 := blk_frozen HGz2 2
  clear HGz2 hgz2
  go_enter Try.func38, Try.ntmps38
  go_wp2
  repeat (go_quiet (fail); try go_wp2)
  go_ret
  exact ⟨by first | rfl | (simp [errW_none, errW_some] <;> rfl) | (simp [*, errW_none, errW_some] <;> rfl), by repeat (first | (with_reducible first | exact HI0.out | apply IsS61.alloc | apply IsS61.drewN | apply IsS61.drew | apply IsS61.set_1 | apply IsS61.set_2) | exact HI0.out), by repeat (first | (with_reducible first | exact HB.out | apply below_alloc | apply pw_below_drewN | apply below_drew1 | refine below_set ?_ (IsS61.ge HI0.out)) | exact HB.out), by repeat (first | (with_reducible first | exact HK.out | apply KeepBut.set_ | apply keep_drewN | apply keep_drew | apply keep_alloc) | exact HK.out)⟩

end Go.Proofs.Ytkkjpaijkhhlcaa.PA
