/- Each Go function named below comes to what the plain Lean function of its name answers, wherever that answers (rounds enough, no panic, no row too long); texts by a program of this session by way of the kit's print.py, what that does not take by hand. Condition: what is read lies in memory as each theorem says. -/
import Derived.Test.YtfjefocjplljcaaPAx0
import Derived.Test.YtfjefocjplljcaaPAx1
import Derived.Test.YtfjefocjplljcaaPAx3
namespace Go.Proofs.Ytfjefocjplljcaa.PA
open Go.RowKit Go.Proofs.YtfjefocjplljcaaW.PrintWords Go.Proofs.YtfjefocjplljcaaW.PrintLast Go.Proofs.YtfjefocjplljcaaW.PrintMore
attribute [local go_sem] max2_int min2_int max_two min_two max_three min_three max_four min_four   -- for this text's walks alone
set_option linter.unusedVariables false
set_option linter.unusedSimpArgs false

/-! ### serinettelaw06_PcmDepths: function 4 -/
def serinettelaw06_PcmDepths.j0 : Nat → Int → Bool → Int → Bool → Option (Bool)
  | 0, _, _, _, _ => none
  | k + 1, x0, x5, x6, x34 => if x34 = true then (some false) else (if 0 ≤ (wrap64 (x6 - 1)) then (if x5 = true then ((pcm_In.f (wrap64 ((shl .i64 1 (wrap64 (x6 - 1))) - 1)) x6).bind fun t154 => (if t154 = true then ((pcm_In.f (shl .i64 1 (wrap64 (x6 - 1))) x6).bind fun t155 => (if t155 = true then (some false) else ((pcm_In.f (wrap64 (-(shl .i64 1 (wrap64 (x6 - 1))))) x6).bind fun t156 => (if t156 = true then ((pcm_In.f (wrap64 ((wrap64 (-(shl .i64 1 (wrap64 (x6 - 1))))) - 1)) x6).bind fun t157 => (if t157 = true then (some false) else ((pcm_In.f x0 x6).bind fun t158 => (if t158 = true then (some true) else (some (x0 != 0)))))) else (some false))))) else (some false))) else (some false)) else (none))
def serinettelaw06_PcmDepths.f (k : Nat) (a0 : Int) (a1 : Int) : Option (Bool) := (serinettelaw06_awake.f k).bind fun t149 => ((pcm_In.f a0 (wrap64 (2 + (wrap64 (Int.tmod a1 60))))).bind fun t150 => (if t150 = true then ((pcm_In.f a0 (wrap64 ((wrap64 (2 + (wrap64 (Int.tmod a1 60)))) + 1))).bind fun t151 => (if t151 = true then ((pcm_In.f (wrap64 (Int.tdiv a0 2)) (wrap64 ((wrap64 (2 + (wrap64 (Int.tmod a1 60)))) - 1))).bind fun t152 => (serinettelaw06_PcmDepths.j0 k a0 t149 (wrap64 (2 + (wrap64 (Int.tmod a1 60)))) (!t152))) else (if (wrap64 (2 + (wrap64 (Int.tmod a1 60)))) < 62 then (serinettelaw06_PcmDepths.j0 k a0 t149 (wrap64 (2 + (wrap64 (Int.tmod a1 60)))) true) else ((pcm_In.f (wrap64 (Int.tdiv a0 2)) (wrap64 ((wrap64 (2 + (wrap64 (Int.tmod a1 60)))) - 1))).bind fun t153 => (serinettelaw06_PcmDepths.j0 k a0 t149 (wrap64 (2 + (wrap64 (Int.tmod a1 60)))) (!t153)))))) else (serinettelaw06_PcmDepths.j0 k a0 t149 (wrap64 (2 + (wrap64 (Int.tmod a1 60)))) false)))
theorem serinettelaw06_PcmDepths.mono_l : ∀ k, (∀ y0 y1 y2 y3, LeO (serinettelaw06_PcmDepths.j0 k y0 y1 y2 y3) (serinettelaw06_PcmDepths.j0 (k + 1) y0 y1 y2 y3))
  | 0 => fun _ _ _ _ r h => by simp [serinettelaw06_PcmDepths.j0] at h
  | k + 1 => by
    have ih0 := serinettelaw06_PcmDepths.mono_l k
    · intro y0 y1 y2 y3
      unfold serinettelaw06_PcmDepths.j0
      repeat' first
      | (with_reducible exact ih0 _ _ _ _)
      | (with_reducible exact serinettelaw06_awake.mono _)
      | (with_reducible exact LeO.refl _)
      | (with_reducible exact LeO.none _)
      | (with_reducible refine LeO.ite ?_ ?_)
      | (with_reducible refine LeO.bind ?_ (fun _ => ?_))
      | exact ih0 _ _ _ _
      | exact serinettelaw06_awake.mono _
      | exact LeO.none _
      | refine LeO.ite ?_ ?_
      | refine LeO.bind ?_ (fun _ => ?_)
theorem serinettelaw06_PcmDepths.mono : ∀ a0 a1 k, LeO (serinettelaw06_PcmDepths.f k a0 a1) (serinettelaw06_PcmDepths.f (k + 1) a0 a1) := by
  intro a0 a1 k
  have ih0 := serinettelaw06_PcmDepths.mono_l k
  unfold serinettelaw06_PcmDepths.f
  repeat' first
      | (with_reducible exact ih0 _ _ _ _)
      | (with_reducible exact serinettelaw06_awake.mono _)
      | (with_reducible exact LeO.refl _)
      | (with_reducible exact LeO.none _)
      | (with_reducible refine LeO.ite ?_ ?_)
      | (with_reducible refine LeO.bind ?_ (fun _ => ?_))
      | exact ih0 _ _ _ _
      | exact serinettelaw06_awake.mono _
      | exact LeO.none _
      | refine LeO.ite ?_ ?_
      | refine LeO.bind ?_ (fun _ => ?_)
set_option maxHeartbeats 8000000 in
set_option maxRecDepth 100000 in
theorem serinettelaw06_PcmDepths.calls (k : Nat) (a0 : Int) (a1 : Int) (r : Bool) (w : World) (h : serinettelaw06_PcmDepths.f k a0 a1 = some r) :
    Calls Try.prog 4 #[.int .i64 a0, .int .u8 a1] w fun e w' => e = .returned (.bool r) ∧ Below w.heap.size w w' := by
  have HB := Aside0.mk (Below.refl w.heap.size w)
  have H : ((serinettelaw06_awake.f k).bind fun t149 => ((pcm_In.f a0 (wrap64 (2 + (wrap64 (Int.tmod a1 60))))).bind fun t150 => (if t150 = true then ((pcm_In.f a0 (wrap64 ((wrap64 (2 + (wrap64 (Int.tmod a1 60)))) + 1))).bind fun t151 => (if t151 = true then ((pcm_In.f (wrap64 (Int.tdiv a0 2)) (wrap64 ((wrap64 (2 + (wrap64 (Int.tmod a1 60)))) - 1))).bind fun t152 => (serinettelaw06_PcmDepths.j0 k a0 t149 (wrap64 (2 + (wrap64 (Int.tmod a1 60)))) (!t152))) else (if (wrap64 (2 + (wrap64 (Int.tmod a1 60)))) < 62 then (serinettelaw06_PcmDepths.j0 k a0 t149 (wrap64 (2 + (wrap64 (Int.tmod a1 60)))) true) else ((pcm_In.f (wrap64 (Int.tdiv a0 2)) (wrap64 ((wrap64 (2 + (wrap64 (Int.tmod a1 60)))) - 1))).bind fun t153 => (serinettelaw06_PcmDepths.j0 k a0 t149 (wrap64 (2 + (wrap64 (Int.tmod a1 60)))) (!t153)))))) else (serinettelaw06_PcmDepths.j0 k a0 t149 (wrap64 (2 + (wrap64 (Int.tmod a1 60)))) false)))) = some r := h
  clear h
  replace H := Option.bind_eq_some_iff.mp H
  obtain ⟨t149, A30, H⟩ := H
  replace H : ((pcm_In.f a0 (wrap64 (2 + (wrap64 (Int.tmod a1 60))))).bind fun t150 => (if t150 = true then ((pcm_In.f a0 (wrap64 ((wrap64 (2 + (wrap64 (Int.tmod a1 60)))) + 1))).bind fun t151 => (if t151 = true then ((pcm_In.f (wrap64 (Int.tdiv a0 2)) (wrap64 ((wrap64 (2 + (wrap64 (Int.tmod a1 60)))) - 1))).bind fun t152 => (serinettelaw06_PcmDepths.j0 k a0 t149 (wrap64 (2 + (wrap64 (Int.tmod a1 60)))) (!t152))) else (if (wrap64 (2 + (wrap64 (Int.tmod a1 60)))) < 62 then (serinettelaw06_PcmDepths.j0 k a0 t149 (wrap64 (2 + (wrap64 (Int.tmod a1 60)))) true) else ((pcm_In.f (wrap64 (Int.tdiv a0 2)) (wrap64 ((wrap64 (2 + (wrap64 (Int.tmod a1 60)))) - 1))).bind fun t153 => (serinettelaw06_PcmDepths.j0 k a0 t149 (wrap64 (2 + (wrap64 (Int.tmod a1 60)))) (!t153)))))) else (serinettelaw06_PcmDepths.j0 k a0 t149 (wrap64 (2 + (wrap64 (Int.tmod a1 60)))) false))) = some r := H
  have A3 := Aside0.mk A30
  clear A30
  have HC4 := Aside0.mk H
  clear H
  go_enter Try.func4, Try.ntmps4
  go_upto_region 3 with (first | ((with_reducible refine gate_callee (f := 9) rfl ?_); refine goesL_ (some 8) rfl rfl Try.func9 (by kernel_rfl) rfl #[] rfl (by (try simp only [List.map_toArray, List.map_cons, List.map_nil]); first | done | rfl | (simp only [List.length_drop, List.length_take]; rfl)) ?_; (with_reducible refine (serinettelaw06_awake.calls k  t149 _ A3.out).mono ?_); rintro e w5 ⟨rfl, hb⟩; refine ⟨_, rfl, ?_⟩; have n0_ := Aside0.mk (below_step (by repeat (first | (with_reducible first | exact HB.out | apply below_alloc | apply pw_below_drewN | apply below_drew1) | exact HB.out)) hb); clear HB; have HB := n0_; clear n0_; (try clear hb); (try clear hb2); (try clear hk); (try clear hi)))
  (try simp only [Act.put, List.setIfInBounds_toArray, List.set_cons_zero, List.set_cons_succ])
  go_cut [34] (fun v34 wc => ∃ (kq : Nat) (x34_3 : Bool), v34 = .bool x34_3 ∧ Aside0 (serinettelaw06_PcmDepths.j0 kq a0 t149 (wrap64 (2 + (wrap64 (Int.tmod a1 60)))) x34_3 = some r) ∧ Aside0 (kq ≤ k) ∧ Aside0 (Below w.heap.size w wc))
  case first =>
    have H := HC4.out
    clear HC4
    replace H := Option.bind_eq_some_iff.mp H
    obtain ⟨t150, A60, H⟩ := H
    replace H : (if t150 = true then ((pcm_In.f a0 (wrap64 ((wrap64 (2 + (wrap64 (Int.tmod a1 60)))) + 1))).bind fun t151 => (if t151 = true then ((pcm_In.f (wrap64 (Int.tdiv a0 2)) (wrap64 ((wrap64 (2 + (wrap64 (Int.tmod a1 60)))) - 1))).bind fun t152 => (serinettelaw06_PcmDepths.j0 k a0 t149 (wrap64 (2 + (wrap64 (Int.tmod a1 60)))) (!t152))) else (if (wrap64 (2 + (wrap64 (Int.tmod a1 60)))) < 62 then (serinettelaw06_PcmDepths.j0 k a0 t149 (wrap64 (2 + (wrap64 (Int.tmod a1 60)))) true) else ((pcm_In.f (wrap64 (Int.tdiv a0 2)) (wrap64 ((wrap64 (2 + (wrap64 (Int.tmod a1 60)))) - 1))).bind fun t153 => (serinettelaw06_PcmDepths.j0 k a0 t149 (wrap64 (2 + (wrap64 (Int.tmod a1 60)))) (!t153)))))) else (serinettelaw06_PcmDepths.j0 k a0 t149 (wrap64 (2 + (wrap64 (Int.tmod a1 60)))) false)) = some r := H
    have A6 := Aside0.mk A60
    clear A60
    by_cases c7 : t150 = true
    · subst c7
      have H1 : ((pcm_In.f a0 (wrap64 ((wrap64 (2 + (wrap64 (Int.tmod a1 60)))) + 1))).bind fun t151 => (if t151 = true then ((pcm_In.f (wrap64 (Int.tdiv a0 2)) (wrap64 ((wrap64 (2 + (wrap64 (Int.tmod a1 60)))) - 1))).bind fun t152 => (serinettelaw06_PcmDepths.j0 k a0 t149 (wrap64 (2 + (wrap64 (Int.tmod a1 60)))) (!t152))) else (if (wrap64 (2 + (wrap64 (Int.tmod a1 60)))) < 62 then (serinettelaw06_PcmDepths.j0 k a0 t149 (wrap64 (2 + (wrap64 (Int.tmod a1 60)))) true) else ((pcm_In.f (wrap64 (Int.tdiv a0 2)) (wrap64 ((wrap64 (2 + (wrap64 (Int.tmod a1 60)))) - 1))).bind fun t153 => (serinettelaw06_PcmDepths.j0 k a0 t149 (wrap64 (2 + (wrap64 (Int.tmod a1 60)))) (!t153)))))) = some r := by rw [if_pos rfl] at H; exact H
      clear H
      have H := H1
      clear H1
      replace H := Option.bind_eq_some_iff.mp H
      obtain ⟨t151, A80, H⟩ := H
      replace H : (if t151 = true then ((pcm_In.f (wrap64 (Int.tdiv a0 2)) (wrap64 ((wrap64 (2 + (wrap64 (Int.tmod a1 60)))) - 1))).bind fun t152 => (serinettelaw06_PcmDepths.j0 k a0 t149 (wrap64 (2 + (wrap64 (Int.tmod a1 60)))) (!t152))) else (if (wrap64 (2 + (wrap64 (Int.tmod a1 60)))) < 62 then (serinettelaw06_PcmDepths.j0 k a0 t149 (wrap64 (2 + (wrap64 (Int.tmod a1 60)))) true) else ((pcm_In.f (wrap64 (Int.tdiv a0 2)) (wrap64 ((wrap64 (2 + (wrap64 (Int.tmod a1 60)))) - 1))).bind fun t153 => (serinettelaw06_PcmDepths.j0 k a0 t149 (wrap64 (2 + (wrap64 (Int.tmod a1 60)))) (!t153))))) = some r := H
      have A8 := Aside0.mk A80
      clear A80
      by_cases c9 : t151 = true
      · subst c9
        have H1 : ((pcm_In.f (wrap64 (Int.tdiv a0 2)) (wrap64 ((wrap64 (2 + (wrap64 (Int.tmod a1 60)))) - 1))).bind fun t152 => (serinettelaw06_PcmDepths.j0 k a0 t149 (wrap64 (2 + (wrap64 (Int.tmod a1 60)))) (!t152))) = some r := by rw [if_pos rfl] at H; exact H
        clear H
        have H := H1
        clear H1
        replace H := Option.bind_eq_some_iff.mp H
        obtain ⟨t152, A100, H⟩ := H
        replace H : (serinettelaw06_PcmDepths.j0 k a0 t149 (wrap64 (2 + (wrap64 (Int.tmod a1 60)))) (!t152)) = some r := H
        have A10 := Aside0.mk A100
        clear A100
        have H' := Aside0.mk H
        clear H
        go_wp2_with (first | ((with_reducible refine gate_callee (f := 15) rfl ?_); refine goesL_ (some 15) rfl rfl Try.func15 (by kernel_rfl) rfl #[.int .i64 a0, .int .i64 (wrap64 (2 + (wrap64 (Int.tmod a1 60))))] rfl (by (try simp only [List.map_toArray, List.map_cons, List.map_nil]); first | done | rfl | (simp only [List.length_drop, List.length_take]; rfl)) ?_; (with_reducible refine (pcm_In.calls a0 (wrap64 (2 + (wrap64 (Int.tmod a1 60)))) true _ A6.out).mono ?_); rintro e w' ⟨rfl, ⟨nd, rfl⟩⟩; refine ⟨_, rfl, ?_⟩) | (go_at_call 15; (with_reducible refine (pcm_In.calls a0 (wrap64 ((wrap64 (2 + (wrap64 (Int.tmod a1 60)))) + 1)) true _ A8.out).mono ?_); rintro e w' ⟨rfl, ⟨nd, rfl⟩⟩) | (go_at_call 15; (with_reducible refine (pcm_In.calls (wrap64 (Int.tdiv a0 2)) (wrap64 ((wrap64 (2 + (wrap64 (Int.tmod a1 60)))) - 1)) t152 _ A10.out).mono ?_); rintro e w' ⟨rfl, ⟨nd, rfl⟩⟩))
        go_meet
        case rel => exact ⟨_, (!t152), (by first | rfl | (simp; done) | (simp only [i64_w, i32_w]; done) | (simp [*]; done) | (simp only [i64_w, i32_w]; first | rfl | (simp; done) | (simp [*]; done))), H', ⟨by first | omega | exact Nat.le_refl _⟩, ⟨by repeat (first | (with_reducible first | exact HB.out | apply below_alloc | apply pw_below_drewN | apply below_drew1) | exact HB.out)⟩⟩
      · replace c9 := Bool.eq_false_iff.mpr c9
        subst c9
        have H1 : (if (wrap64 (2 + (wrap64 (Int.tmod a1 60)))) < 62 then (serinettelaw06_PcmDepths.j0 k a0 t149 (wrap64 (2 + (wrap64 (Int.tmod a1 60)))) true) else ((pcm_In.f (wrap64 (Int.tdiv a0 2)) (wrap64 ((wrap64 (2 + (wrap64 (Int.tmod a1 60)))) - 1))).bind fun t153 => (serinettelaw06_PcmDepths.j0 k a0 t149 (wrap64 (2 + (wrap64 (Int.tmod a1 60)))) (!t153)))) = some r := by rw [if_neg (show ¬ (false = true) by decide)] at H; exact H
        clear H
        have H := H1
        clear H1
        by_cases c11 : (wrap64 (2 + (wrap64 (Int.tmod a1 60)))) < 62
        · rw [if_pos c11] at H
          have c11b0 : decide ((wrap64 (2 + (wrap64 (Int.tmod a1 60)))) < 62) = true := decide_eq_true c11
          clear c11
          (first | rw [c11b0] | (simp only [i64_w, i32_w]; rw [c11b0]) | skip)
          have H' := Aside0.mk H
          clear H
          go_wp2_with (first | ((with_reducible refine gate_callee (f := 15) rfl ?_); refine goesL_ (some 15) rfl rfl Try.func15 (by kernel_rfl) rfl #[.int .i64 a0, .int .i64 (wrap64 (2 + (wrap64 (Int.tmod a1 60))))] rfl (by (try simp only [List.map_toArray, List.map_cons, List.map_nil]); first | done | rfl | (simp only [List.length_drop, List.length_take]; rfl)) ?_; (with_reducible refine (pcm_In.calls a0 (wrap64 (2 + (wrap64 (Int.tmod a1 60)))) true _ A6.out).mono ?_); rintro e w' ⟨rfl, ⟨nd, rfl⟩⟩; refine ⟨_, rfl, ?_⟩) | (go_at_call 15; (with_reducible refine (pcm_In.calls a0 (wrap64 ((wrap64 (2 + (wrap64 (Int.tmod a1 60)))) + 1)) false _ A8.out).mono ?_); rintro e w' ⟨rfl, ⟨nd, rfl⟩⟩))
          go_meet
          case rel => exact ⟨_, (true), (by first | rfl | (simp; done) | (simp only [i64_w, i32_w]; done) | (simp [*]; done) | (simp only [i64_w, i32_w]; first | rfl | (simp; done) | (simp [*]; done))), H', ⟨by first | omega | exact Nat.le_refl _⟩, ⟨by repeat (first | (with_reducible first | exact HB.out | apply below_alloc | apply pw_below_drewN | apply below_drew1) | exact HB.out)⟩⟩
        · rw [if_neg c11] at H
          have c11b0 : decide ((wrap64 (2 + (wrap64 (Int.tmod a1 60)))) < 62) = false := decide_eq_false c11
          clear c11
          (first | rw [c11b0] | (simp only [i64_w, i32_w]; rw [c11b0]) | skip)
          replace H := Option.bind_eq_some_iff.mp H
          obtain ⟨t153, A120, H⟩ := H
          replace H : (serinettelaw06_PcmDepths.j0 k a0 t149 (wrap64 (2 + (wrap64 (Int.tmod a1 60)))) (!t153)) = some r := H
          have A12 := Aside0.mk A120
          clear A120
          have H' := Aside0.mk H
          clear H
          go_wp2_with (first | ((with_reducible refine gate_callee (f := 15) rfl ?_); refine goesL_ (some 15) rfl rfl Try.func15 (by kernel_rfl) rfl #[.int .i64 a0, .int .i64 (wrap64 (2 + (wrap64 (Int.tmod a1 60))))] rfl (by (try simp only [List.map_toArray, List.map_cons, List.map_nil]); first | done | rfl | (simp only [List.length_drop, List.length_take]; rfl)) ?_; (with_reducible refine (pcm_In.calls a0 (wrap64 (2 + (wrap64 (Int.tmod a1 60)))) true _ A6.out).mono ?_); rintro e w' ⟨rfl, ⟨nd, rfl⟩⟩; refine ⟨_, rfl, ?_⟩) | (go_at_call 15; (with_reducible refine (pcm_In.calls a0 (wrap64 ((wrap64 (2 + (wrap64 (Int.tmod a1 60)))) + 1)) false _ A8.out).mono ?_); rintro e w' ⟨rfl, ⟨nd, rfl⟩⟩) | (go_at_call 15; (with_reducible refine (pcm_In.calls (wrap64 (Int.tdiv a0 2)) (wrap64 ((wrap64 (2 + (wrap64 (Int.tmod a1 60)))) - 1)) t153 _ A12.out).mono ?_); rintro e w' ⟨rfl, ⟨nd, rfl⟩⟩))
          go_meet
          case rel => exact ⟨_, (!t153), (by first | rfl | (simp; done) | (simp only [i64_w, i32_w]; done) | (simp [*]; done) | (simp only [i64_w, i32_w]; first | rfl | (simp; done) | (simp [*]; done))), H', ⟨by first | omega | exact Nat.le_refl _⟩, ⟨by repeat (first | (with_reducible first | exact HB.out | apply below_alloc | apply pw_below_drewN | apply below_drew1) | exact HB.out)⟩⟩
    · replace c7 := Bool.eq_false_iff.mpr c7
      subst c7
      have H1 : (serinettelaw06_PcmDepths.j0 k a0 t149 (wrap64 (2 + (wrap64 (Int.tmod a1 60)))) false) = some r := by rw [if_neg (show ¬ (false = true) by decide)] at H; exact H
      clear H
      have H := H1
      clear H1
      have H' := Aside0.mk H
      clear H
      go_wp2_with (first | ((with_reducible refine gate_callee (f := 15) rfl ?_); refine goesL_ (some 15) rfl rfl Try.func15 (by kernel_rfl) rfl #[.int .i64 a0, .int .i64 (wrap64 (2 + (wrap64 (Int.tmod a1 60))))] rfl (by (try simp only [List.map_toArray, List.map_cons, List.map_nil]); first | done | rfl | (simp only [List.length_drop, List.length_take]; rfl)) ?_; (with_reducible refine (pcm_In.calls a0 (wrap64 (2 + (wrap64 (Int.tmod a1 60)))) false _ A6.out).mono ?_); rintro e w' ⟨rfl, ⟨nd, rfl⟩⟩; refine ⟨_, rfl, ?_⟩))
      go_meet
      case rel => exact ⟨_, (false), (by first | rfl | (simp; done) | (simp only [i64_w, i32_w]; done) | (simp [*]; done) | (simp only [i64_w, i32_w]; first | rfl | (simp; done) | (simp [*]; done))), H', ⟨by first | omega | exact Nat.le_refl _⟩, ⟨by repeat (first | (with_reducible first | exact HB.out | apply below_alloc | apply pw_below_drewN | apply below_drew1) | exact HB.out)⟩⟩
  case rest =>
    clear HC4
    try clear c1
    try clear p2
    try clear c4
    try clear p6
    try clear c7
    try clear c9
    try clear c11
    try clear c11b0
    obtain ⟨kq, x34_3, rfl, HA, HJ3, HB⟩ := hcut
    cases kq with
    | zero => exact absurd HA.out (by simp [serinettelaw06_PcmDepths.j0])
    | succ kj3 =>
      have H := HA.out
      clear HA
      simp only [serinettelaw06_PcmDepths.j0] at H
      by_cases c13 : x34_3 = true
      · subst c13
        have H1 : (some false) = some r := by rw [if_pos rfl] at H; exact H
        clear H
        have H := H1
        clear H1
        obtain rfl := Option.some.inj H
        go_wp2
        go_ret
        exact ⟨by first | rfl | (simp [errW_none, errW_some] <;> rfl) | (simp [*, errW_none, errW_some] <;> rfl), by repeat (first | (with_reducible first | exact HB.out | apply below_alloc | apply pw_below_drewN | apply below_drew1) | exact HB.out)⟩
      · replace c13 := Bool.eq_false_iff.mpr c13
        subst c13
        have H1 : (if 0 ≤ (wrap64 ((wrap64 (2 + (wrap64 (Int.tmod a1 60)))) - 1)) then (if t149 = true then ((pcm_In.f (wrap64 ((shl .i64 1 (wrap64 ((wrap64 (2 + (wrap64 (Int.tmod a1 60)))) - 1))) - 1)) (wrap64 (2 + (wrap64 (Int.tmod a1 60))))).bind fun t154 => (if t154 = true then ((pcm_In.f (shl .i64 1 (wrap64 ((wrap64 (2 + (wrap64 (Int.tmod a1 60)))) - 1))) (wrap64 (2 + (wrap64 (Int.tmod a1 60))))).bind fun t155 => (if t155 = true then (some false) else ((pcm_In.f (wrap64 (-(shl .i64 1 (wrap64 ((wrap64 (2 + (wrap64 (Int.tmod a1 60)))) - 1))))) (wrap64 (2 + (wrap64 (Int.tmod a1 60))))).bind fun t156 => (if t156 = true then ((pcm_In.f (wrap64 ((wrap64 (-(shl .i64 1 (wrap64 ((wrap64 (2 + (wrap64 (Int.tmod a1 60)))) - 1))))) - 1)) (wrap64 (2 + (wrap64 (Int.tmod a1 60))))).bind fun t157 => (if t157 = true then (some false) else ((pcm_In.f a0 (wrap64 (2 + (wrap64 (Int.tmod a1 60))))).bind fun t158 => (if t158 = true then (some true) else (some (a0 != 0)))))) else (some false))))) else (some false))) else (some false)) else (none)) = some r := by rw [if_neg (show ¬ (false = true) by decide)] at H; exact H
        clear H
        have H := H1
        clear H1
        obtain ⟨ji14, hji14⟩ : ∃ j_ : Int, (wrap64 ((wrap64 (2 + (wrap64 (Int.tmod a1 60)))) - 1)) = j_ := ⟨_, rfl⟩
        replace H : (if 0 ≤ (ji14) then (if t149 = true then ((pcm_In.f (wrap64 ((shl .i64 1 (ji14)) - 1)) (wrap64 (2 + (wrap64 (Int.tmod a1 60))))).bind fun t154 => (if t154 = true then ((pcm_In.f (shl .i64 1 (ji14)) (wrap64 (2 + (wrap64 (Int.tmod a1 60))))).bind fun t155 => (if t155 = true then (some false) else ((pcm_In.f (wrap64 (-(shl .i64 1 (ji14)))) (wrap64 (2 + (wrap64 (Int.tmod a1 60))))).bind fun t156 => (if t156 = true then ((pcm_In.f (wrap64 ((wrap64 (-(shl .i64 1 (ji14)))) - 1)) (wrap64 (2 + (wrap64 (Int.tmod a1 60))))).bind fun t157 => (if t157 = true then (some false) else ((pcm_In.f a0 (wrap64 (2 + (wrap64 (Int.tmod a1 60))))).bind fun t158 => (if t158 = true then (some true) else (some (a0 != 0)))))) else (some false))))) else (some false))) else (some false)) else (none)) = some r := by first | (rw [hji14] at H; exact H) | (simp only [hji14] at H ⊢; exact H)
        have hji14w : (IntKind.i64.wrap ((wrap64 (2 + (wrap64 (Int.tmod a1 60)))) - 1)) = ji14 := (i64_w _).trans hji14
        by_cases c15 : 0 ≤ (ji14)
        · rw [if_pos c15] at H
          have c15b0 := eq_true c15
          have c15b1 : decide (0 ≤ (ji14)) = true := decide_eq_true c15
          clear c15
          obtain ⟨ji16, hji16⟩ : ∃ j_ : Int, (shl .i64 1 (ji14)) = j_ := ⟨_, rfl⟩
          replace H : (if t149 = true then ((pcm_In.f (wrap64 ((ji16) - 1)) (wrap64 (2 + (wrap64 (Int.tmod a1 60))))).bind fun t154 => (if t154 = true then ((pcm_In.f (ji16) (wrap64 (2 + (wrap64 (Int.tmod a1 60))))).bind fun t155 => (if t155 = true then (some false) else ((pcm_In.f (wrap64 (-(ji16))) (wrap64 (2 + (wrap64 (Int.tmod a1 60))))).bind fun t156 => (if t156 = true then ((pcm_In.f (wrap64 ((wrap64 (-(ji16))) - 1)) (wrap64 (2 + (wrap64 (Int.tmod a1 60))))).bind fun t157 => (if t157 = true then (some false) else ((pcm_In.f a0 (wrap64 (2 + (wrap64 (Int.tmod a1 60))))).bind fun t158 => (if t158 = true then (some true) else (some (a0 != 0)))))) else (some false))))) else (some false))) else (some false)) = some r := by first | (rw [hji16] at H; exact H) | (simp only [hji16] at H ⊢; exact H)
          have hji16_ : (IntKind.i64.wrap (1 * 2 ^ min (ji14).toNat 64)) = ji16 := hji16
          have hji16z : (ji14) ≤ 64 → (IntKind.i64.wrap (1 * 2 ^ (ji14).toNat)) = ji16 := shl_small hji16
          have hji16u : (IntKind.i64.wrap (2 ^ min (ji14).toNat 64)) = ji16 := by have h_ := hji16_; rw [Int.one_mul] at h_; exact h_
          have hji16v : (ji14) ≤ 64 → (IntKind.i64.wrap (2 ^ (ji14).toNat)) = ji16 := fun hle_ => by have h_ := hji16z hle_; rw [Int.one_mul] at h_; exact h_
          have hji16y : (wrap64 (1 * 2 ^ min (ji14).toNat 64)) = ji16 := (i64_w _).symm.trans hji16_
          have hji16x : (ji14) ≤ 64 → (wrap64 (1 * 2 ^ (ji14).toNat)) = ji16 := fun h_ => (i64_w _).symm.trans (hji16z h_)
          by_cases c17 : t149 = true
          · subst c17
            have H1 : ((pcm_In.f (wrap64 ((ji16) - 1)) (wrap64 (2 + (wrap64 (Int.tmod a1 60))))).bind fun t154 => (if t154 = true then ((pcm_In.f (ji16) (wrap64 (2 + (wrap64 (Int.tmod a1 60))))).bind fun t155 => (if t155 = true then (some false) else ((pcm_In.f (wrap64 (-(ji16))) (wrap64 (2 + (wrap64 (Int.tmod a1 60))))).bind fun t156 => (if t156 = true then ((pcm_In.f (wrap64 ((wrap64 (-(ji16))) - 1)) (wrap64 (2 + (wrap64 (Int.tmod a1 60))))).bind fun t157 => (if t157 = true then (some false) else ((pcm_In.f a0 (wrap64 (2 + (wrap64 (Int.tmod a1 60))))).bind fun t158 => (if t158 = true then (some true) else (some (a0 != 0)))))) else (some false))))) else (some false))) = some r := by rw [if_pos rfl] at H; exact H
            clear H
            have H := H1
            clear H1
            replace H := Option.bind_eq_some_iff.mp H
            obtain ⟨t154, A180, H⟩ := H
            replace H : (if t154 = true then ((pcm_In.f (ji16) (wrap64 (2 + (wrap64 (Int.tmod a1 60))))).bind fun t155 => (if t155 = true then (some false) else ((pcm_In.f (wrap64 (-(ji16))) (wrap64 (2 + (wrap64 (Int.tmod a1 60))))).bind fun t156 => (if t156 = true then ((pcm_In.f (wrap64 ((wrap64 (-(ji16))) - 1)) (wrap64 (2 + (wrap64 (Int.tmod a1 60))))).bind fun t157 => (if t157 = true then (some false) else ((pcm_In.f a0 (wrap64 (2 + (wrap64 (Int.tmod a1 60))))).bind fun t158 => (if t158 = true then (some true) else (some (a0 != 0)))))) else (some false))))) else (some false)) = some r := H
            have A18 := Aside0.mk A180
            clear A180
            by_cases c19 : t154 = true
            · subst c19
              have H1 : ((pcm_In.f (ji16) (wrap64 (2 + (wrap64 (Int.tmod a1 60))))).bind fun t155 => (if t155 = true then (some false) else ((pcm_In.f (wrap64 (-(ji16))) (wrap64 (2 + (wrap64 (Int.tmod a1 60))))).bind fun t156 => (if t156 = true then ((pcm_In.f (wrap64 ((wrap64 (-(ji16))) - 1)) (wrap64 (2 + (wrap64 (Int.tmod a1 60))))).bind fun t157 => (if t157 = true then (some false) else ((pcm_In.f a0 (wrap64 (2 + (wrap64 (Int.tmod a1 60))))).bind fun t158 => (if t158 = true then (some true) else (some (a0 != 0)))))) else (some false))))) = some r := by rw [if_pos rfl] at H; exact H
              clear H
              have H := H1
              clear H1
              replace H := Option.bind_eq_some_iff.mp H
              obtain ⟨t155, A200, H⟩ := H
              replace H : (if t155 = true then (some false) else ((pcm_In.f (wrap64 (-(ji16))) (wrap64 (2 + (wrap64 (Int.tmod a1 60))))).bind fun t156 => (if t156 = true then ((pcm_In.f (wrap64 ((wrap64 (-(ji16))) - 1)) (wrap64 (2 + (wrap64 (Int.tmod a1 60))))).bind fun t157 => (if t157 = true then (some false) else ((pcm_In.f a0 (wrap64 (2 + (wrap64 (Int.tmod a1 60))))).bind fun t158 => (if t158 = true then (some true) else (some (a0 != 0)))))) else (some false)))) = some r := H
              have A20 := Aside0.mk A200
              clear A200
              by_cases c21 : t155 = true
              · subst c21
                have H1 : (some false) = some r := by rw [if_pos rfl] at H; exact H
                clear H
                have H := H1
                clear H1
                obtain rfl := Option.some.inj H
                go_wp2_with (first | (go_at_call 15; (with_reducible refine (pcm_In.calls (wrap64 ((ji16) - 1)) (wrap64 (2 + (wrap64 (Int.tmod a1 60)))) true _ A18.out).mono ?_); rintro e w' ⟨rfl, ⟨nd, rfl⟩⟩) | (go_at_call 15; (with_reducible refine (pcm_In.calls ji16 (wrap64 (2 + (wrap64 (Int.tmod a1 60)))) true _ A20.out).mono ?_); rintro e w' ⟨rfl, ⟨nd, rfl⟩⟩))
                go_ret
                exact ⟨by first | rfl | (simp [errW_none, errW_some] <;> rfl) | (simp only [← hji14, ← hji16]; first | rfl | (simp [errW_none, errW_some] <;> rfl)) | (simp [*, errW_none, errW_some] <;> rfl), by repeat (first | (with_reducible first | exact HB.out | apply below_alloc | apply pw_below_drewN | apply below_drew1) | exact HB.out)⟩
              · replace c21 := Bool.eq_false_iff.mpr c21
                subst c21
                have H1 : ((pcm_In.f (wrap64 (-(ji16))) (wrap64 (2 + (wrap64 (Int.tmod a1 60))))).bind fun t156 => (if t156 = true then ((pcm_In.f (wrap64 ((wrap64 (-(ji16))) - 1)) (wrap64 (2 + (wrap64 (Int.tmod a1 60))))).bind fun t157 => (if t157 = true then (some false) else ((pcm_In.f a0 (wrap64 (2 + (wrap64 (Int.tmod a1 60))))).bind fun t158 => (if t158 = true then (some true) else (some (a0 != 0)))))) else (some false))) = some r := by rw [if_neg (show ¬ (false = true) by decide)] at H; exact H
                clear H
                have H := H1
                clear H1
                replace H := Option.bind_eq_some_iff.mp H
                obtain ⟨t156, A220, H⟩ := H
                replace H : (if t156 = true then ((pcm_In.f (wrap64 ((wrap64 (-(ji16))) - 1)) (wrap64 (2 + (wrap64 (Int.tmod a1 60))))).bind fun t157 => (if t157 = true then (some false) else ((pcm_In.f a0 (wrap64 (2 + (wrap64 (Int.tmod a1 60))))).bind fun t158 => (if t158 = true then (some true) else (some (a0 != 0)))))) else (some false)) = some r := H
                have A22 := Aside0.mk A220
                clear A220
                by_cases c23 : t156 = true
                · subst c23
                  have H1 : ((pcm_In.f (wrap64 ((wrap64 (-(ji16))) - 1)) (wrap64 (2 + (wrap64 (Int.tmod a1 60))))).bind fun t157 => (if t157 = true then (some false) else ((pcm_In.f a0 (wrap64 (2 + (wrap64 (Int.tmod a1 60))))).bind fun t158 => (if t158 = true then (some true) else (some (a0 != 0)))))) = some r := by rw [if_pos rfl] at H; exact H
                  clear H
                  have H := H1
                  clear H1
                  replace H := Option.bind_eq_some_iff.mp H
                  obtain ⟨t157, A240, H⟩ := H
                  replace H : (if t157 = true then (some false) else ((pcm_In.f a0 (wrap64 (2 + (wrap64 (Int.tmod a1 60))))).bind fun t158 => (if t158 = true then (some true) else (some (a0 != 0))))) = some r := H
                  have A24 := Aside0.mk A240
                  clear A240
                  by_cases c25 : t157 = true
                  · subst c25
                    have H1 : (some false) = some r := by rw [if_pos rfl] at H; exact H
                    clear H
                    have H := H1
                    clear H1
                    obtain rfl := Option.some.inj H
                    go_wp2_with (first | (go_at_call 15; (with_reducible refine (pcm_In.calls (wrap64 ((ji16) - 1)) (wrap64 (2 + (wrap64 (Int.tmod a1 60)))) true _ A18.out).mono ?_); rintro e w' ⟨rfl, ⟨nd, rfl⟩⟩) | (go_at_call 15; (with_reducible refine (pcm_In.calls ji16 (wrap64 (2 + (wrap64 (Int.tmod a1 60)))) false _ A20.out).mono ?_); rintro e w' ⟨rfl, ⟨nd, rfl⟩⟩) | (go_at_call 15; (with_reducible refine (pcm_In.calls (wrap64 (-(ji16))) (wrap64 (2 + (wrap64 (Int.tmod a1 60)))) true _ A22.out).mono ?_); rintro e w' ⟨rfl, ⟨nd, rfl⟩⟩) | (go_at_call 15; (with_reducible refine (pcm_In.calls (wrap64 ((wrap64 (-(ji16))) - 1)) (wrap64 (2 + (wrap64 (Int.tmod a1 60)))) true _ A24.out).mono ?_); rintro e w' ⟨rfl, ⟨nd, rfl⟩⟩))
                    go_ret
                    exact ⟨by first | rfl | (simp [errW_none, errW_some] <;> rfl) | (simp only [← hji14, ← hji16]; first | rfl | (simp [errW_none, errW_some] <;> rfl)) | (simp [*, errW_none, errW_some] <;> rfl), by repeat (first | (with_reducible first | exact HB.out | apply below_alloc | apply pw_below_drewN | apply below_drew1) | exact HB.out)⟩
                  · replace c25 := Bool.eq_false_iff.mpr c25
                    subst c25
                    have H1 : ((pcm_In.f a0 (wrap64 (2 + (wrap64 (Int.tmod a1 60))))).bind fun t158 => (if t158 = true then (some true) else (some (a0 != 0)))) = some r := by rw [if_neg (show ¬ (false = true) by decide)] at H; exact H
                    clear H
                    have H := H1
                    clear H1
                    replace H := Option.bind_eq_some_iff.mp H
                    obtain ⟨t158, A260, H⟩ := H
                    replace H : (if t158 = true then (some true) else (some (a0 != 0))) = some r := H
                    have A26 := Aside0.mk A260
                    clear A260
                    by_cases c27 : t158 = true
                    · subst c27
                      have H1 : (some true) = some r := by rw [if_pos rfl] at H; exact H
                      clear H
                      have H := H1
                      clear H1
                      obtain rfl := Option.some.inj H
                      go_wp2_with (first | (go_at_call 15; (with_reducible refine (pcm_In.calls (wrap64 ((ji16) - 1)) (wrap64 (2 + (wrap64 (Int.tmod a1 60)))) true _ A18.out).mono ?_); rintro e w' ⟨rfl, ⟨nd, rfl⟩⟩) | (go_at_call 15; (with_reducible refine (pcm_In.calls ji16 (wrap64 (2 + (wrap64 (Int.tmod a1 60)))) false _ A20.out).mono ?_); rintro e w' ⟨rfl, ⟨nd, rfl⟩⟩) | (go_at_call 15; (with_reducible refine (pcm_In.calls (wrap64 (-(ji16))) (wrap64 (2 + (wrap64 (Int.tmod a1 60)))) true _ A22.out).mono ?_); rintro e w' ⟨rfl, ⟨nd, rfl⟩⟩) | (go_at_call 15; (with_reducible refine (pcm_In.calls (wrap64 ((wrap64 (-(ji16))) - 1)) (wrap64 (2 + (wrap64 (Int.tmod a1 60)))) false _ A24.out).mono ?_); rintro e w' ⟨rfl, ⟨nd, rfl⟩⟩) | (go_at_call 15; (with_reducible refine (pcm_In.calls a0 (wrap64 (2 + (wrap64 (Int.tmod a1 60)))) true _ A26.out).mono ?_); rintro e w' ⟨rfl, ⟨nd, rfl⟩⟩))
                      go_ret
                      exact ⟨by first | rfl | (simp [errW_none, errW_some] <;> rfl) | (simp only [← hji14, ← hji16]; first | rfl | (simp [errW_none, errW_some] <;> rfl)) | (simp [*, errW_none, errW_some] <;> rfl), by repeat (first | (with_reducible first | exact HB.out | apply below_alloc | apply pw_below_drewN | apply below_drew1) | exact HB.out)⟩
                    · replace c27 := Bool.eq_false_iff.mpr c27
                      subst c27
                      have H1 : (some (a0 != 0)) = some r := by rw [if_neg (show ¬ (false = true) by decide)] at H; exact H
                      clear H
                      have H := H1
                      clear H1
                      obtain rfl := Option.some.inj H
                      go_wp2_with (first | (go_at_call 15; (with_reducible refine (pcm_In.calls (wrap64 ((ji16) - 1)) (wrap64 (2 + (wrap64 (Int.tmod a1 60)))) true _ A18.out).mono ?_); rintro e w' ⟨rfl, ⟨nd, rfl⟩⟩) | (go_at_call 15; (with_reducible refine (pcm_In.calls ji16 (wrap64 (2 + (wrap64 (Int.tmod a1 60)))) false _ A20.out).mono ?_); rintro e w' ⟨rfl, ⟨nd, rfl⟩⟩) | (go_at_call 15; (with_reducible refine (pcm_In.calls (wrap64 (-(ji16))) (wrap64 (2 + (wrap64 (Int.tmod a1 60)))) true _ A22.out).mono ?_); rintro e w' ⟨rfl, ⟨nd, rfl⟩⟩) | (go_at_call 15; (with_reducible refine (pcm_In.calls (wrap64 ((wrap64 (-(ji16))) - 1)) (wrap64 (2 + (wrap64 (Int.tmod a1 60)))) false _ A24.out).mono ?_); rintro e w' ⟨rfl, ⟨nd, rfl⟩⟩) | (go_at_call 15; (with_reducible refine (pcm_In.calls a0 (wrap64 (2 + (wrap64 (Int.tmod a1 60)))) false _ A26.out).mono ?_); rintro e w' ⟨rfl, ⟨nd, rfl⟩⟩))
                      go_ret
                      exact ⟨by first | rfl | (simp [errW_none, errW_some] <;> rfl) | (simp only [← hji14, ← hji16]; first | rfl | (simp [errW_none, errW_some] <;> rfl)) | (simp [*, errW_none, errW_some] <;> rfl), by repeat (first | (with_reducible first | exact HB.out | apply below_alloc | apply pw_below_drewN | apply below_drew1) | exact HB.out)⟩
                · replace c23 := Bool.eq_false_iff.mpr c23
                  subst c23
                  have H1 : (some false) = some r := by rw [if_neg (show ¬ (false = true) by decide)] at H; exact H
                  clear H
                  have H := H1
                  clear H1
                  obtain rfl := Option.some.inj H
                  go_wp2_with (first | (go_at_call 15; (with_reducible refine (pcm_In.calls (wrap64 ((ji16) - 1)) (wrap64 (2 + (wrap64 (Int.tmod a1 60)))) true _ A18.out).mono ?_); rintro e w' ⟨rfl, ⟨nd, rfl⟩⟩) | (go_at_call 15; (with_reducible refine (pcm_In.calls ji16 (wrap64 (2 + (wrap64 (Int.tmod a1 60)))) false _ A20.out).mono ?_); rintro e w' ⟨rfl, ⟨nd, rfl⟩⟩) | (go_at_call 15; (with_reducible refine (pcm_In.calls (wrap64 (-(ji16))) (wrap64 (2 + (wrap64 (Int.tmod a1 60)))) false _ A22.out).mono ?_); rintro e w' ⟨rfl, ⟨nd, rfl⟩⟩))
                  go_ret
                  exact ⟨by first | rfl | (simp [errW_none, errW_some] <;> rfl) | (simp only [← hji14, ← hji16]; first | rfl | (simp [errW_none, errW_some] <;> rfl)) | (simp [*, errW_none, errW_some] <;> rfl), by repeat (first | (with_reducible first | exact HB.out | apply below_alloc | apply pw_below_drewN | apply below_drew1) | exact HB.out)⟩
            · replace c19 := Bool.eq_false_iff.mpr c19
              subst c19
              have H1 : (some false) = some r := by rw [if_neg (show ¬ (false = true) by decide)] at H; exact H
              clear H
              have H := H1
              clear H1
              obtain rfl := Option.some.inj H
              go_wp2_with (first | (go_at_call 15; (with_reducible refine (pcm_In.calls (wrap64 ((ji16) - 1)) (wrap64 (2 + (wrap64 (Int.tmod a1 60)))) false _ A18.out).mono ?_); rintro e w' ⟨rfl, ⟨nd, rfl⟩⟩))
              go_ret
              exact ⟨by first | rfl | (simp [errW_none, errW_some] <;> rfl) | (simp only [← hji14, ← hji16]; first | rfl | (simp [errW_none, errW_some] <;> rfl)) | (simp [*, errW_none, errW_some] <;> rfl), by repeat (first | (with_reducible first | exact HB.out | apply below_alloc | apply pw_below_drewN | apply below_drew1) | exact HB.out)⟩
          · replace c17 := Bool.eq_false_iff.mpr c17
            subst c17
            have H1 : (some false) = some r := by rw [if_neg (show ¬ (false = true) by decide)] at H; exact H
            clear H
            have H := H1
            clear H1
            obtain rfl := Option.some.inj H
            go_wp2
            go_ret
            exact ⟨by first | rfl | (simp [errW_none, errW_some] <;> rfl) | (simp only [← hji14, ← hji16]; first | rfl | (simp [errW_none, errW_some] <;> rfl)) | (simp [*, errW_none, errW_some] <;> rfl), by repeat (first | (with_reducible first | exact HB.out | apply below_alloc | apply pw_below_drewN | apply below_drew1) | exact HB.out)⟩
        · rw [if_neg c15] at H
          exact absurd H (by simp)

/-- THE ONE PURE STATEMENT of serinettelaw06_PcmDepths: yours. -/
def serinettelaw06_PcmDepths.Pure : Prop := ∀ (a0 : Int) (a1 : Int), (Lit.int .i64 a0).wf = true → (Lit.int .u8 a1).wf = true → ∃ k, serinettelaw06_PcmDepths.f k a0 a1 = some true
theorem serinettelaw06_PcmDepths.walk (P : serinettelaw06_PcmDepths.Pure) (a0 : Int) (a1 : Int) (w : World) (w0 : (Lit.int .i64 a0).wf = true) (w1 : (Lit.int .u8 a1).wf = true) :
    Calls Try.prog 4 #[.int .i64 a0, .int .u8 a1] w fun e w' => e = .returned (.bool true) ∧ Below w.heap.size w w' := by
  obtain ⟨k, h⟩ := P a0 a1 w0 w1
  refine (serinettelaw06_PcmDepths.calls k a0 a1 true w h).mono ?_
  rintro e w' ⟨rfl, hd⟩
  exact ⟨rfl, hd⟩

/-! ### pcm_sample: function 35 -/
def pcm_sample.l0 : Nat → List Int → Int → List Int → Int → Int → Option (Int)
  | 0, _, _, _, _, _ => none
  | k + 1, x0, x3, x7, x8, x9 => if x9 < x8 then (if 0 ≤ x9 then (if x9 < (x7.length : Int) then (if 0 ≤ (wrap64 (8 * x9)) then (pcm_sample.l0 k x0 (Go.bits .or .i64 x3 (shl .i64 (wrap64 (rd x7 x9)) (wrap64 (8 * x9)))) x7 x8 (wrap64 (x9 + 1))) else (none)) else (none)) else (none)) else (if 0 ≤ (wrap64 (64 - (wrap64 (8 * (x0.length : Int))))) then (some (shr .i64 (shl .i64 x3 (wrap64 (64 - (wrap64 (8 * (x0.length : Int)))))) (wrap64 (64 - (wrap64 (8 * (x0.length : Int))))))) else (none))
def pcm_sample.f (k : Nat) (l0 : List Int) : Option (Int) := pcm_sample.l0 k l0 0 l0 (l0.length : Int) 0
theorem pcm_sample.mono_l : ∀ k, (∀ y0 y1 y2 y3 y4, LeO (pcm_sample.l0 k y0 y1 y2 y3 y4) (pcm_sample.l0 (k + 1) y0 y1 y2 y3 y4))
  | 0 => fun _ _ _ _ _ r h => by simp [pcm_sample.l0] at h
  | k + 1 => by
    have ih0 := pcm_sample.mono_l k
    · intro y0 y1 y2 y3 y4
      unfold pcm_sample.l0
      repeat' first
      | (with_reducible exact ih0 _ _ _ _ _)
      | (with_reducible exact LeO.refl _)
      | (with_reducible exact LeO.none _)
      | (with_reducible refine LeO.ite ?_ ?_)
      | (with_reducible refine LeO.bind ?_ (fun _ => ?_))
      | exact ih0 _ _ _ _ _
      | exact LeO.none _
      | refine LeO.ite ?_ ?_
      | refine LeO.bind ?_ (fun _ => ?_)
theorem pcm_sample.mono : ∀ a0 k, LeO (pcm_sample.f k a0) (pcm_sample.f (k + 1) a0) := by
  intro a0 k
  have ih0 := pcm_sample.mono_l k
  unfold pcm_sample.f
  repeat' first
      | (with_reducible exact ih0 _ _ _ _ _)
      | (with_reducible exact LeO.refl _)
      | (with_reducible exact LeO.none _)
      | (with_reducible refine LeO.ite ?_ ?_)
      | (with_reducible refine LeO.bind ?_ (fun _ => ?_))
      | exact ih0 _ _ _ _ _
      | exact LeO.none _
      | refine LeO.ite ?_ ?_
      | refine LeO.bind ?_ (fun _ => ?_)
set_option maxHeartbeats 8000000 in
set_option maxRecDepth 100000 in
theorem pcm_sample.calls (k : Nat) (A0 : Option Addr) (c0 : Nat) (l0 : List Int) (r : Int) (w : World) (hr0 : Kd.C (Kd.int .u8) w A0 l0.length l0) (hc0 : l0.length ≤ c0) (h : pcm_sample.f k l0 = some r) :
    Calls Try.prog 35 #[.slice A0 l0.length c0] w fun e w' => e = .returned (.int .i64 r) ∧ Drawn0 w w' := by
  have HR0 := Aside0.mk hr0
  have HC0 := Aside0.mk hc0
  clear hr0 hc0
  have H : (pcm_sample.l0 k l0 0 l0 (l0.length : Int) 0) = some r := h
  clear h
  have H' := Aside0.mk H
  clear H
  go_enter Try.func35, Try.ntmps35
  go_wp2
  go_loopg [3, 9] k (fun kq v3 v9 w' => ∃ (x3_1 : Int) (x9_1 : Int), v3 = .int .i64 x3_1 ∧ v9 = .int .i64 x9_1 ∧ Aside0 (pcm_sample.l0 kq l0 x3_1 l0 (l0.length : Int) x9_1 = some r) ∧ Aside0 (kq ≤ k) ∧ Drawn0 w w')
  case atStart => exact ⟨(0), (0), (by first | rfl | (simp; done) | (simp only [i64_w, i32_w]; done) | (simp [*]; done) | (simp only [i64_w, i32_w]; first | rfl | (simp; done) | (simp [*]; done))), (by first | rfl | (simp; done) | (simp only [i64_w, i32_w]; done) | (simp [*]; done) | (simp only [i64_w, i32_w]; first | rfl | (simp; done) | (simp [*]; done))), H', ⟨Nat.le_refl _⟩, by repeat (first | exact Drawn0.refl _ | apply Drawn0.step)⟩
  case round =>
    clear H'
    obtain ⟨x3_1, x9_1, rfl, rfl, HA, HK1, ⟨m1, rfl⟩⟩ := hrel
    cases gk with
    | zero => exact absurd HA.out (by simp [pcm_sample.l0])
    | succ k1 =>
      have H := HA.out
      clear HA
      simp only [pcm_sample.l0] at H
      by_cases c2 : x9_1 < (l0.length : Int)
      · rw [if_pos c2] at H
        have c2b0 : decide (x9_1 < (l0.length : Int)) = true := decide_eq_true c2
        clear c2
        by_cases c3 : 0 ≤ x9_1
        · rw [if_pos c3] at H
          have c3b0 : decide (0 ≤ x9_1) = true := decide_eq_true c3
          clear c3
          by_cases c4 : x9_1 < (l0.length : Int)
          · rw [if_pos c4] at H
            have c4b0 : decide (x9_1 < (l0.length : Int)) = true := decide_eq_true c4
            clear c4
            obtain ⟨ji5, hji5⟩ : ∃ j_ : Int, (wrap64 (8 * x9_1)) = j_ := ⟨_, rfl⟩
            replace H : (if 0 ≤ (ji5) then (pcm_sample.l0 k1 l0 (Go.bits .or .i64 x3_1 (shl .i64 (wrap64 (rd l0 x9_1)) (ji5))) l0 (l0.length : Int) (wrap64 (x9_1 + 1))) else (none)) = some r := by first | (rw [hji5] at H; exact H) | (simp only [hji5] at H ⊢; exact H)
            have hji5w : (IntKind.i64.wrap (8 * x9_1)) = ji5 := (i64_w _).trans hji5
            by_cases c6 : 0 ≤ (ji5)
            · rw [if_pos c6] at H
              have c6b0 := eq_true c6
              have c6b1 : decide (0 ≤ (ji5)) = true := decide_eq_true c6
              clear c6
              obtain ⟨ji7, hji7⟩ : ∃ j_ : Int, (shl .i64 (wrap64 (rd l0 x9_1)) (ji5)) = j_ := ⟨_, rfl⟩
              replace H : (pcm_sample.l0 k1 l0 (Go.bits .or .i64 x3_1 (ji7)) l0 (l0.length : Int) (wrap64 (x9_1 + 1))) = some r := by first | (rw [hji7] at H; exact H) | (simp only [hji7] at H ⊢; exact H)
              have hji7_ : (IntKind.i64.wrap ((wrap64 (rd l0 x9_1)) * 2 ^ min (ji5).toNat 64)) = ji7 := hji7
              have hji7z : (ji5) ≤ 64 → (IntKind.i64.wrap ((wrap64 (rd l0 x9_1)) * 2 ^ (ji5).toNat)) = ji7 := shl_small hji7
              have hji7y : (wrap64 ((wrap64 (rd l0 x9_1)) * 2 ^ min (ji5).toNat 64)) = ji7 := (i64_w _).symm.trans hji7_
              have hji7x : (ji5) ≤ 64 → (wrap64 ((wrap64 (rd l0 x9_1)) * 2 ^ (ji5).toNat)) = ji7 := fun h_ => (i64_w _).symm.trans (hji7z h_)
              have H' := Aside0.mk H
              clear H
              have p159 : 0 ≤ (x9_1 : Int) := of_decide_eq_true (by first | (with_reducible assumption) | assumption)
              have q159 : x9_1 < (l0.length : Int) := of_decide_eq_true (by first | (with_reducible assumption) | assumption)
              obtain ⟨ad159, e159, hx159_0⟩ := Kd.at_int HR0.out x9_1 p159 q159
              cases e159
              replace p159 := eq_true p159
              replace q159 := eq_true q159
              go_wp2
              go_roundg k1
              case measure => have := HK1.out; omega
              case rel => exact ⟨(Go.bits .or .i64 x3_1 (ji7)), (wrap64 (x9_1 + 1)), (by first | rfl | (simp; done) | (simp only [← hji7] <;> (first | rfl | simp)) | (simp [*]; done)), (by first | rfl | (simp; done) | (simp only [i64_w, i32_w]; done) | (simp [*]; done) | (simp only [i64_w, i32_w]; first | rfl | (simp; done) | (simp [*]; done))), H', ⟨by have := HK1.out; omega⟩, by repeat (first | exact Drawn0.refl _ | apply Drawn0.step)⟩
            · rw [if_neg c6] at H
              exact absurd H (by simp)
          · rw [if_neg c4] at H
            exact absurd H (by simp)
        · rw [if_neg c3] at H
          exact absurd H (by simp)
      · rw [if_neg c2] at H
        have c2b0 : decide (x9_1 < (l0.length : Int)) = false := decide_eq_false c2
        clear c2
        obtain ⟨ji8, hji8⟩ : ∃ j_ : Int, (wrap64 (64 - (wrap64 (8 * (l0.length : Int))))) = j_ := ⟨_, rfl⟩
        replace H : (if 0 ≤ (ji8) then (some (shr .i64 (shl .i64 x3_1 (ji8)) (ji8))) else (none)) = some r := by first | (rw [hji8] at H; exact H) | (simp only [hji8] at H ⊢; exact H)
        have hji8w : (IntKind.i64.wrap (64 - (wrap64 (8 * (l0.length : Int))))) = ji8 := (i64_w _).trans hji8
        by_cases c9 : 0 ≤ (ji8)
        · rw [if_pos c9] at H
          have c9b0 := eq_true c9
          have c9b1 : decide (0 ≤ (ji8)) = true := decide_eq_true c9
          clear c9
          obtain ⟨ji10, hji10⟩ : ∃ j_ : Int, (shl .i64 x3_1 (ji8)) = j_ := ⟨_, rfl⟩
          replace H : (some (shr .i64 (ji10) (ji8))) = some r := by first | (rw [hji10] at H; exact H) | (simp only [hji10] at H ⊢; exact H)
          have hji10_ : (IntKind.i64.wrap (x3_1 * 2 ^ min (ji8).toNat 64)) = ji10 := hji10
          have hji10z : (ji8) ≤ 64 → (IntKind.i64.wrap (x3_1 * 2 ^ (ji8).toNat)) = ji10 := shl_small hji10
          have hji10y : (wrap64 (x3_1 * 2 ^ min (ji8).toNat 64)) = ji10 := (i64_w _).symm.trans hji10_
          have hji10x : (ji8) ≤ 64 → (wrap64 (x3_1 * 2 ^ (ji8).toNat)) = ji10 := fun h_ => (i64_w _).symm.trans (hji10z h_)
          have c11b0 := eq_true (of_decide_eq_true (by first | (with_reducible assumption) | assumption) : 0 ≤ (ji8))
          obtain ⟨ji12, hji12⟩ : ∃ j_ : Int, (shr .i64 (ji10) (ji8)) = j_ := ⟨_, rfl⟩
          replace H : (some ji12) = some r := by first | (rw [hji12] at H; exact H) | (simp only [hji12] at H ⊢; exact H)
          have hji12_ : ((ji10) / 2 ^ min (ji8).toNat 64) = ji12 := hji12
          have hji12z : (ji8) ≤ 64 → ((ji10) / 2 ^ (ji8).toNat) = ji12 := shr_small hji12
          obtain rfl := Option.some.inj H
          go_wp2
          go_ret
          exact ⟨by first | rfl | (simp; done) | (simp only [← hji8, ← hji10, ← hji12] <;> (first | rfl | simp)) | (simp [*]; done), by repeat (first | exact Drawn0.refl _ | apply Drawn0.step)⟩
        · rw [if_neg c9] at H
          exact absurd H (by simp)

end Go.Proofs.Ytfjefocjplljcaa.PA
