/- Each Go function named below comes to what the plain Lean function of its name answers, wherever that answers (rounds enough, no panic, no row too long); texts by a program of this session by way of the kit's print.py, what that does not take by hand. Condition: what is read lies in memory as each theorem says. -/
import Derived.Test.YtkkjpaijkhhlcaaPAx0
import Derived.Test.YtkkjpaijkhhlcaaPAx3
import Derived.Test.YtkkjpaijkhhlcaaPAx4
import Derived.Test.YtkkjpaijkhhlcaaPAx5
namespace Go.Proofs.Ytkkjpaijkhhlcaa.PA
open Go.RowKit Go.Proofs.YtkkjpaijkhhlcaaW.PrintWords Go.Proofs.YtkkjpaijkhhlcaaW.PrintLast Go.Proofs.YtkkjpaijkhhlcaaW.PrintMore
attribute [local go_sem] max2_int min2_int max_two min_two max_three min_three max_four min_four   -- for this text's walks alone
set_option linter.unusedVariables false
set_option linter.unusedSimpArgs false

/-! ### serinettelaw02_RiceNearer: function 4 -/
mutual
def serinettelaw02_RiceNearer.j0 : Nat → Int → Int → Int → Bool → Bool → Option (Bool)
  | 0, _, _, _, _, _ => none
  | k + 1, x0, x1, x2, x7, x20 => if x20 = true then (some x7) else (if (mx x0 (wrap64 ((wrap64 (-x0)) - 1))) < (mx x1 (wrap64 ((wrap64 (-x1)) - 1))) then ((rice_Size.f x0 (wrap64 (Int.tmod x2 30))).bind fun t220 => ((rice_Size.f x1 (wrap64 (Int.tmod x2 30))).bind fun t221 => (serinettelaw02_RiceNearer.j1 k x0 x7 (wrap64 (Int.tmod x2 30)) (decide (t220 > t221))))) else (serinettelaw02_RiceNearer.j1 k x0 x7 (wrap64 (Int.tmod x2 30)) false))
def serinettelaw02_RiceNearer.j1 : Nat → Int → Bool → Int → Bool → Option (Bool)
  | 0, _, _, _, _ => none
  | k + 1, x0, x7, x8, x46 => if x46 = true then (some false) else ((rice_Size.f x0 x8).bind fun t222 => (if x7 = true then (if (wrap64 ((wrap64 (t222 - 1)) - x8)) ≥ 0 then ((rice_Size.f x0 (wrap64 (x8 + 1))).bind fun t223 => (some (t223 == (wrap64 ((wrap64 ((wrap64 (Int.tdiv (wrap64 ((wrap64 (t222 - 1)) - x8)) 2)) + 2)) + x8))))) else (some false)) else (some false)))
end
def serinettelaw02_RiceNearer.f (k : Nat) (a0 : Int) (a1 : Int) (a2 : Int) : Option (Bool) := (serinettelaw02_awake.f k).bind fun t217 => ((rice_Near.f a0).bind fun t218 => (if t218 = true then ((rice_Near.f a1).bind fun t219 => (serinettelaw02_RiceNearer.j0 k a0 a1 a2 t217 (!t219))) else (serinettelaw02_RiceNearer.j0 k a0 a1 a2 t217 true)))
theorem serinettelaw02_RiceNearer.mono_l : ∀ k, (∀ y0 y1 y2 y3 y4, LeO (serinettelaw02_RiceNearer.j0 k y0 y1 y2 y3 y4) (serinettelaw02_RiceNearer.j0 (k + 1) y0 y1 y2 y3 y4)) ∧ (∀ y0 y1 y2 y3, LeO (serinettelaw02_RiceNearer.j1 k y0 y1 y2 y3) (serinettelaw02_RiceNearer.j1 (k + 1) y0 y1 y2 y3))
  | 0 => ⟨fun _ _ _ _ _ r h => by simp [serinettelaw02_RiceNearer.j0] at h, fun _ _ _ _ r h => by simp [serinettelaw02_RiceNearer.j1] at h⟩
  | k + 1 => by
    obtain ⟨ih0, ih1⟩ := serinettelaw02_RiceNearer.mono_l k
    refine ⟨?_, ?_⟩
    · intro y0 y1 y2 y3 y4
      unfold serinettelaw02_RiceNearer.j0
      repeat' first
      | (with_reducible exact ih0 _ _ _ _ _)
      | (with_reducible exact ih1 _ _ _ _)
      | (with_reducible exact serinettelaw02_awake.mono _)
      | (with_reducible exact LeO.refl _)
      | (with_reducible exact LeO.none _)
      | (with_reducible refine LeO.ite ?_ ?_)
      | (with_reducible refine LeO.bind ?_ (fun _ => ?_))
      | exact ih0 _ _ _ _ _
      | exact ih1 _ _ _ _
      | exact serinettelaw02_awake.mono _
      | exact LeO.none _
      | refine LeO.ite ?_ ?_
      | refine LeO.bind ?_ (fun _ => ?_)
    · intro y0 y1 y2 y3
      unfold serinettelaw02_RiceNearer.j1
      repeat' first
      | (with_reducible exact ih0 _ _ _ _ _)
      | (with_reducible exact ih1 _ _ _ _)
      | (with_reducible exact serinettelaw02_awake.mono _)
      | (with_reducible exact LeO.refl _)
      | (with_reducible exact LeO.none _)
      | (with_reducible refine LeO.ite ?_ ?_)
      | (with_reducible refine LeO.bind ?_ (fun _ => ?_))
      | exact ih0 _ _ _ _ _
      | exact ih1 _ _ _ _
      | exact serinettelaw02_awake.mono _
      | exact LeO.none _
      | refine LeO.ite ?_ ?_
      | refine LeO.bind ?_ (fun _ => ?_)
theorem serinettelaw02_RiceNearer.mono : ∀ a0 a1 a2 k, LeO (serinettelaw02_RiceNearer.f k a0 a1 a2) (serinettelaw02_RiceNearer.f (k + 1) a0 a1 a2) := by
  intro a0 a1 a2 k
  obtain ⟨ih0, ih1⟩ := serinettelaw02_RiceNearer.mono_l k
  unfold serinettelaw02_RiceNearer.f
  repeat' first
      | (with_reducible exact ih0 _ _ _ _ _)
      | (with_reducible exact ih1 _ _ _ _)
      | (with_reducible exact serinettelaw02_awake.mono _)
      | (with_reducible exact LeO.refl _)
      | (with_reducible exact LeO.none _)
      | (with_reducible refine LeO.ite ?_ ?_)
      | (with_reducible refine LeO.bind ?_ (fun _ => ?_))
      | exact ih0 _ _ _ _ _
      | exact ih1 _ _ _ _
      | exact serinettelaw02_awake.mono _
      | exact LeO.none _
      | refine LeO.ite ?_ ?_
      | refine LeO.bind ?_ (fun _ => ?_)
set_option maxHeartbeats 8000000 in
set_option maxRecDepth 100000 in
theorem serinettelaw02_RiceNearer.calls (k : Nat) (a0 : Int) (a1 : Int) (a2 : Int) (r : Bool) (w : World) (h : serinettelaw02_RiceNearer.f k a0 a1 a2 = some r) :
    Calls Try.prog 4 #[.int .i64 a0, .int .i64 a1, .int .u8 a2] w fun e w' => e = .returned (.bool r) ∧ Below w.heap.size w w' := by
  have HB := Aside0.mk (Below.refl w.heap.size w)
  have H : ((serinettelaw02_awake.f k).bind fun t217 => ((rice_Near.f a0).bind fun t218 => (if t218 = true then ((rice_Near.f a1).bind fun t219 => (serinettelaw02_RiceNearer.j0 k a0 a1 a2 t217 (!t219))) else (serinettelaw02_RiceNearer.j0 k a0 a1 a2 t217 true)))) = some r := h
  clear h
  replace H := Option.bind_eq_some_iff.mp H
  obtain ⟨t217, A40, H⟩ := H
  replace H : ((rice_Near.f a0).bind fun t218 => (if t218 = true then ((rice_Near.f a1).bind fun t219 => (serinettelaw02_RiceNearer.j0 k a0 a1 a2 t217 (!t219))) else (serinettelaw02_RiceNearer.j0 k a0 a1 a2 t217 true))) = some r := H
  have A4 := Aside0.mk A40
  clear A40
  have HC5 := Aside0.mk H
  clear H
  go_enter Try.func4, Try.ntmps4
  go_upto_region 2 with (first | ((with_reducible refine gate_callee (f := 8) rfl ?_); refine goesL_ (some 12) rfl rfl Try.func8 (by kernel_rfl) rfl #[] rfl (by (try simp only [List.map_toArray, List.map_cons, List.map_nil]); first | done | rfl | (simp only [List.length_drop, List.length_take]; rfl)) ?_; (with_reducible refine (serinettelaw02_awake.calls k  t217 _ A4.out).mono ?_); rintro e w6 ⟨rfl, hb⟩; refine ⟨_, rfl, ?_⟩; have n0_ := Aside0.mk (below_step (by repeat (first | (with_reducible first | exact HB.out | apply below_alloc | apply pw_below_drewN | apply below_drew1) | exact HB.out)) hb); clear HB; have HB := n0_; clear n0_; (try clear hb); (try clear hb2); (try clear hk); (try clear hi)))
  (try simp only [Act.put, List.setIfInBounds_toArray, List.set_cons_zero, List.set_cons_succ])
  go_cut [20] (fun v20 wc => ∃ (kq : Nat) (x20_4 : Bool), v20 = .bool x20_4 ∧ Aside0 (serinettelaw02_RiceNearer.j0 kq a0 a1 a2 t217 x20_4 = some r) ∧ Aside0 (kq ≤ k) ∧ Aside0 (Below w.heap.size w wc))
  case first =>
    have H := HC5.out
    clear HC5
    replace H := Option.bind_eq_some_iff.mp H
    obtain ⟨t218, A70, H⟩ := H
    replace H : (if t218 = true then ((rice_Near.f a1).bind fun t219 => (serinettelaw02_RiceNearer.j0 k a0 a1 a2 t217 (!t219))) else (serinettelaw02_RiceNearer.j0 k a0 a1 a2 t217 true)) = some r := H
    have A7 := Aside0.mk A70
    clear A70
    by_cases c8 : t218 = true
    · subst c8
      have H1 : ((rice_Near.f a1).bind fun t219 => (serinettelaw02_RiceNearer.j0 k a0 a1 a2 t217 (!t219))) = some r := by rw [if_pos rfl] at H; exact H
      clear H
      have H := H1
      clear H1
      replace H := Option.bind_eq_some_iff.mp H
      obtain ⟨t219, A90, H⟩ := H
      replace H : (serinettelaw02_RiceNearer.j0 k a0 a1 a2 t217 (!t219)) = some r := H
      have A9 := Aside0.mk A90
      clear A90
      have H' := Aside0.mk H
      clear H
      go_wp2_with (first | ((with_reducible refine gate_callee (f := 20) rfl ?_); refine goesL_ (some 14) rfl rfl Try.func20 (by kernel_rfl) rfl #[.int .i64 a0] rfl (by (try simp only [List.map_toArray, List.map_cons, List.map_nil]); first | done | rfl | (simp only [List.length_drop, List.length_take]; rfl)) ?_; (with_reducible refine (rice_Near.calls a0 true _ A7.out).mono ?_); rintro e w' ⟨rfl, ⟨nd, rfl⟩⟩; refine ⟨_, rfl, ?_⟩) | (go_at_call 20; (with_reducible refine (rice_Near.calls a1 t219 _ A9.out).mono ?_); rintro e w' ⟨rfl, ⟨nd, rfl⟩⟩))
      go_meet
      case rel => exact ⟨_, (!t219), (by first | rfl | (simp; done) | (simp only [i64_w, i32_w]; done) | (simp [*]; done) | (simp only [i64_w, i32_w]; first | rfl | (simp; done) | (simp [*]; done))), H', ⟨by first | omega | exact Nat.le_refl _⟩, ⟨by repeat (first | (with_reducible first | exact HB.out | apply below_alloc | apply pw_below_drewN | apply below_drew1) | exact HB.out)⟩⟩
    · replace c8 := Bool.eq_false_iff.mpr c8
      subst c8
      have H1 : (serinettelaw02_RiceNearer.j0 k a0 a1 a2 t217 true) = some r := by rw [if_neg (show ¬ (false = true) by decide)] at H; exact H
      clear H
      have H := H1
      clear H1
      have H' := Aside0.mk H
      clear H
      go_wp2_with (first | ((with_reducible refine gate_callee (f := 20) rfl ?_); refine goesL_ (some 14) rfl rfl Try.func20 (by kernel_rfl) rfl #[.int .i64 a0] rfl (by (try simp only [List.map_toArray, List.map_cons, List.map_nil]); first | done | rfl | (simp only [List.length_drop, List.length_take]; rfl)) ?_; (with_reducible refine (rice_Near.calls a0 false _ A7.out).mono ?_); rintro e w' ⟨rfl, ⟨nd, rfl⟩⟩; refine ⟨_, rfl, ?_⟩))
      go_meet
      case rel => exact ⟨_, (true), (by first | rfl | (simp; done) | (simp only [i64_w, i32_w]; done) | (simp [*]; done) | (simp only [i64_w, i32_w]; first | rfl | (simp; done) | (simp [*]; done))), H', ⟨by first | omega | exact Nat.le_refl _⟩, ⟨by repeat (first | (with_reducible first | exact HB.out | apply below_alloc | apply pw_below_drewN | apply below_drew1) | exact HB.out)⟩⟩
  case rest =>
    clear HC5
    try clear c2
    try clear p2
    try clear c4
    try clear c8
    obtain ⟨kq, x20_4, rfl, HA, HJ4, HB⟩ := hcut
    cases kq with
    | zero => exact absurd HA.out (by simp [serinettelaw02_RiceNearer.j0])
    | succ kj4 =>
      have H := HA.out
      clear HA
      simp only [serinettelaw02_RiceNearer.j0] at H
      by_cases c10 : x20_4 = true
      · subst c10
        have H1 : (some t217) = some r := by rw [if_pos rfl] at H; exact H
        clear H
        have H := H1
        clear H1
        obtain rfl := Option.some.inj H
        go_wp2
        go_ret
        exact ⟨by first | rfl | (simp [errW_none, errW_some] <;> rfl) | (simp [*, errW_none, errW_some] <;> rfl), by repeat (first | (with_reducible first | exact HB.out | apply below_alloc | apply pw_below_drewN | apply below_drew1) | exact HB.out)⟩
      · replace c10 := Bool.eq_false_iff.mpr c10
        subst c10
        have H1 : (if (mx a0 (wrap64 ((wrap64 (-a0)) - 1))) < (mx a1 (wrap64 ((wrap64 (-a1)) - 1))) then ((rice_Size.f a0 (wrap64 (Int.tmod a2 30))).bind fun t220 => ((rice_Size.f a1 (wrap64 (Int.tmod a2 30))).bind fun t221 => (serinettelaw02_RiceNearer.j1 kj4 a0 t217 (wrap64 (Int.tmod a2 30)) (decide (t220 > t221))))) else (serinettelaw02_RiceNearer.j1 kj4 a0 t217 (wrap64 (Int.tmod a2 30)) false)) = some r := by rw [if_neg (show ¬ (false = true) by decide)] at H; exact H
        clear H
        have H := H1
        clear H1
        obtain ⟨ji11, hji11⟩ : ∃ j_ : Int, (mx a0 (wrap64 ((wrap64 (-a0)) - 1))) = j_ := ⟨_, rfl⟩
        replace H : (if (ji11) < (mx a1 (wrap64 ((wrap64 (-a1)) - 1))) then ((rice_Size.f a0 (wrap64 (Int.tmod a2 30))).bind fun t220 => ((rice_Size.f a1 (wrap64 (Int.tmod a2 30))).bind fun t221 => (serinettelaw02_RiceNearer.j1 kj4 a0 t217 (wrap64 (Int.tmod a2 30)) (decide (t220 > t221))))) else (serinettelaw02_RiceNearer.j1 kj4 a0 t217 (wrap64 (Int.tmod a2 30)) false)) = some r := by first | (rw [hji11] at H; exact H) | (simp only [hji11] at H ⊢; exact H)
        have hji11_ : (if a0 < (wrap64 ((wrap64 (-a0)) - 1)) then (wrap64 ((wrap64 (-a0)) - 1)) else a0) = ji11 := hji11
        obtain ⟨ji12, hji12⟩ : ∃ j_ : Int, (mx a1 (wrap64 ((wrap64 (-a1)) - 1))) = j_ := ⟨_, rfl⟩
        replace H : (if (ji11) < (ji12) then ((rice_Size.f a0 (wrap64 (Int.tmod a2 30))).bind fun t220 => ((rice_Size.f a1 (wrap64 (Int.tmod a2 30))).bind fun t221 => (serinettelaw02_RiceNearer.j1 kj4 a0 t217 (wrap64 (Int.tmod a2 30)) (decide (t220 > t221))))) else (serinettelaw02_RiceNearer.j1 kj4 a0 t217 (wrap64 (Int.tmod a2 30)) false)) = some r := by first | (rw [hji12] at H; exact H) | (simp only [hji12] at H ⊢; exact H)
        have hji12_ : (if a1 < (wrap64 ((wrap64 (-a1)) - 1)) then (wrap64 ((wrap64 (-a1)) - 1)) else a1) = ji12 := hji12
        have HC13 := Aside0.mk H
        clear H
        go_upto_region 7 with (fail)
        go_cut [46] (fun v46 wc => ∃ (kq : Nat) (x46_12 : Bool), v46 = .bool x46_12 ∧ Aside0 (serinettelaw02_RiceNearer.j1 kq a0 t217 (wrap64 (Int.tmod a2 30)) x46_12 = some r) ∧ Aside0 (kq ≤ kj4) ∧ Aside0 (Below w.heap.size w wc))
        case first =>
          have H := HC13.out
          clear HC13
          by_cases c14 : (ji11) < (ji12)
          · rw [if_pos c14] at H
            have c14b0 : decide ((ji11) < (ji12)) = true := decide_eq_true c14
            clear c14
            (first | rw [c14b0] | (simp only [i64_w, i32_w]; rw [c14b0]) | skip)
            replace H := Option.bind_eq_some_iff.mp H
            obtain ⟨t220, A150, H⟩ := H
            replace H : ((rice_Size.f a1 (wrap64 (Int.tmod a2 30))).bind fun t221 => (serinettelaw02_RiceNearer.j1 kj4 a0 t217 (wrap64 (Int.tmod a2 30)) (decide (t220 > t221)))) = some r := H
            have A15 := Aside0.mk A150
            clear A150
            replace H := Option.bind_eq_some_iff.mp H
            obtain ⟨t221, A160, H⟩ := H
            replace H : (serinettelaw02_RiceNearer.j1 kj4 a0 t217 (wrap64 (Int.tmod a2 30)) (decide (t220 > t221))) = some r := H
            have A16 := Aside0.mk A160
            clear A160
            have H' := Aside0.mk H
            clear H
            go_wp2_with (first | (go_at_call 21; (with_reducible refine (rice_Size.calls a0 (wrap64 (Int.tmod a2 30)) t220 _ A15.out).mono ?_); rintro e w17 ⟨rfl, hb⟩; have n0_ := Aside0.mk (below_step (by repeat (first | (with_reducible first | exact HB.out | apply below_alloc | apply pw_below_drewN | apply below_drew1) | exact HB.out)) hb); clear HB; have HB := n0_; clear n0_; (try clear hb); (try clear hb2); (try clear hk); (try clear hi)) | (go_at_call 21; (with_reducible refine (rice_Size.calls a1 (wrap64 (Int.tmod a2 30)) t221 _ A16.out).mono ?_); rintro e w18 ⟨rfl, hb⟩; have n0_ := Aside0.mk (below_step (by repeat (first | (with_reducible first | exact HB.out | apply below_alloc | apply pw_below_drewN | apply below_drew1) | exact HB.out)) hb); clear HB; have HB := n0_; clear n0_; (try clear hb); (try clear hb2); (try clear hk); (try clear hi)))
            go_meet
            case rel => exact ⟨_, (decide (t220 > t221)), (by first | rfl | (simp; done) | (simp only [i64_w, i32_w]; done) | (simp [*]; done) | (simp only [i64_w, i32_w]; first | rfl | (simp; done) | (simp [*]; done))), H', ⟨by have := HJ4.out; first | omega | exact Nat.le_refl _⟩, ⟨by repeat (first | (with_reducible first | exact HB.out | apply below_alloc | apply pw_below_drewN | apply below_drew1) | exact HB.out)⟩⟩
          · rw [if_neg c14] at H
            have c14b0 : decide ((ji11) < (ji12)) = false := decide_eq_false c14
            clear c14
            (first | rw [c14b0] | (simp only [i64_w, i32_w]; rw [c14b0]) | skip)
            have H' := Aside0.mk H
            clear H
            go_wp2
            go_meet
            case rel => exact ⟨_, (false), (by first | rfl | (simp; done) | (simp only [i64_w, i32_w]; done) | (simp [*]; done) | (simp only [i64_w, i32_w]; first | rfl | (simp; done) | (simp [*]; done))), H', ⟨by have := HJ4.out; first | omega | exact Nat.le_refl _⟩, ⟨by repeat (first | (with_reducible first | exact HB.out | apply below_alloc | apply pw_below_drewN | apply below_drew1) | exact HB.out)⟩⟩
        case rest =>
          clear HC13
          try clear c1
          try clear c2
          try clear p2
          try clear c4
          try clear p6
          try clear c8
          try clear c10
          try clear c14
          try clear c14b0
          try clear p2
          obtain ⟨kq, x46_12, rfl, HA, HJ12, HB⟩ := hcut
          cases kq with
          | zero => exact absurd HA.out (by simp [serinettelaw02_RiceNearer.j1])
          | succ kj12 =>
            have H := HA.out
            clear HA
            simp only [serinettelaw02_RiceNearer.j1] at H
            by_cases c19 : x46_12 = true
            · subst c19
              have H1 : (some false) = some r := by rw [if_pos rfl] at H; exact H
              clear H
              have H := H1
              clear H1
              obtain rfl := Option.some.inj H
              go_wp2
              go_ret
              exact ⟨by first | rfl | (simp [errW_none, errW_some] <;> rfl) | (simp only [← hji11, ← hji12]; first | rfl | (simp [errW_none, errW_some] <;> rfl)) | (simp [*, errW_none, errW_some] <;> rfl), by repeat (first | (with_reducible first | exact HB.out | apply below_alloc | apply pw_below_drewN | apply below_drew1) | exact HB.out)⟩
            · replace c19 := Bool.eq_false_iff.mpr c19
              subst c19
              have H1 : ((rice_Size.f a0 (wrap64 (Int.tmod a2 30))).bind fun t222 => (if t217 = true then (if (wrap64 ((wrap64 (t222 - 1)) - (wrap64 (Int.tmod a2 30)))) ≥ 0 then ((rice_Size.f a0 (wrap64 ((wrap64 (Int.tmod a2 30)) + 1))).bind fun t223 => (some (t223 == (wrap64 ((wrap64 ((wrap64 (Int.tdiv (wrap64 ((wrap64 (t222 - 1)) - (wrap64 (Int.tmod a2 30)))) 2)) + 2)) + (wrap64 (Int.tmod a2 30))))))) else (some false)) else (some false))) = some r := by rw [if_neg (show ¬ (false = true) by decide)] at H; exact H
              clear H
              have H := H1
              clear H1
              replace H := Option.bind_eq_some_iff.mp H
              obtain ⟨t222, A200, H⟩ := H
              replace H : (if t217 = true then (if (wrap64 ((wrap64 (t222 - 1)) - (wrap64 (Int.tmod a2 30)))) ≥ 0 then ((rice_Size.f a0 (wrap64 ((wrap64 (Int.tmod a2 30)) + 1))).bind fun t223 => (some (t223 == (wrap64 ((wrap64 ((wrap64 (Int.tdiv (wrap64 ((wrap64 (t222 - 1)) - (wrap64 (Int.tmod a2 30)))) 2)) + 2)) + (wrap64 (Int.tmod a2 30))))))) else (some false)) else (some false)) = some r := H
              have A20 := Aside0.mk A200
              clear A200
              by_cases c21 : t217 = true
              · subst c21
                have H1 : (if (wrap64 ((wrap64 (t222 - 1)) - (wrap64 (Int.tmod a2 30)))) ≥ 0 then ((rice_Size.f a0 (wrap64 ((wrap64 (Int.tmod a2 30)) + 1))).bind fun t223 => (some (t223 == (wrap64 ((wrap64 ((wrap64 (Int.tdiv (wrap64 ((wrap64 (t222 - 1)) - (wrap64 (Int.tmod a2 30)))) 2)) + 2)) + (wrap64 (Int.tmod a2 30))))))) else (some false)) = some r := by rw [if_pos rfl] at H; exact H
                clear H
                have H := H1
                clear H1
                by_cases c22 : (wrap64 ((wrap64 (t222 - 1)) - (wrap64 (Int.tmod a2 30)))) ≥ 0
                · rw [if_pos c22] at H
                  have c22b0 : decide (0 ≤ (wrap64 ((wrap64 (t222 - 1)) - (wrap64 (Int.tmod a2 30))))) = true := decide_eq_true c22
                  clear c22
                  replace H := Option.bind_eq_some_iff.mp H
                  obtain ⟨t223, A230, H⟩ := H
                  replace H : (some (t223 == (wrap64 ((wrap64 ((wrap64 (Int.tdiv (wrap64 ((wrap64 (t222 - 1)) - (wrap64 (Int.tmod a2 30)))) 2)) + 2)) + (wrap64 (Int.tmod a2 30)))))) = some r := H
                  have A23 := Aside0.mk A230
                  clear A230
                  obtain rfl := Option.some.inj H
                  go_wp2_with (first | ((with_reducible refine gate_callee (f := 21) rfl ?_); refine goesL_ (some 49) rfl rfl Try.func21 (by kernel_rfl) rfl #[.int .i64 a0, .int .i64 (wrap64 (Int.tmod a2 30))] rfl (by (try simp only [List.map_toArray, List.map_cons, List.map_nil]); first | done | rfl | (simp only [List.length_drop, List.length_take]; rfl)) ?_; (with_reducible refine (rice_Size.calls a0 (wrap64 (Int.tmod a2 30)) t222 _ A20.out).mono ?_); rintro e w24 ⟨rfl, hb⟩; refine ⟨_, rfl, ?_⟩; have n0_ := Aside0.mk (below_step (by repeat (first | (with_reducible first | exact HB.out | apply below_alloc | apply pw_below_drewN | apply below_drew1) | exact HB.out)) hb); clear HB; have HB := n0_; clear n0_; (try clear hb); (try clear hb2); (try clear hk); (try clear hi)) | (go_at_call 21; (with_reducible refine (rice_Size.calls a0 (wrap64 ((wrap64 (Int.tmod a2 30)) + 1)) t223 _ A23.out).mono ?_); rintro e w25 ⟨rfl, hb⟩; have n0_ := Aside0.mk (below_step (by repeat (first | (with_reducible first | exact HB.out | apply below_alloc | apply pw_below_drewN | apply below_drew1) | exact HB.out)) hb); clear HB; have HB := n0_; clear n0_; (try clear hb); (try clear hb2); (try clear hk); (try clear hi)))
                  go_ret
                  exact ⟨by first | rfl | (simp [errW_none, errW_some] <;> rfl) | (simp only [← hji11, ← hji12]; first | rfl | (simp [errW_none, errW_some] <;> rfl)) | (simp [*, errW_none, errW_some] <;> rfl), by repeat (first | (with_reducible first | exact HB.out | apply below_alloc | apply pw_below_drewN | apply below_drew1) | exact HB.out)⟩
                · rw [if_neg c22] at H
                  have c22b0 : decide (0 ≤ (wrap64 ((wrap64 (t222 - 1)) - (wrap64 (Int.tmod a2 30))))) = false := decide_eq_false c22
                  clear c22
                  obtain rfl := Option.some.inj H
                  go_wp2_with (first | ((with_reducible refine gate_callee (f := 21) rfl ?_); refine goesL_ (some 49) rfl rfl Try.func21 (by kernel_rfl) rfl #[.int .i64 a0, .int .i64 (wrap64 (Int.tmod a2 30))] rfl (by (try simp only [List.map_toArray, List.map_cons, List.map_nil]); first | done | rfl | (simp only [List.length_drop, List.length_take]; rfl)) ?_; (with_reducible refine (rice_Size.calls a0 (wrap64 (Int.tmod a2 30)) t222 _ A20.out).mono ?_); rintro e w26 ⟨rfl, hb⟩; refine ⟨_, rfl, ?_⟩; have n0_ := Aside0.mk (below_step (by repeat (first | (with_reducible first | exact HB.out | apply below_alloc | apply pw_below_drewN | apply below_drew1) | exact HB.out)) hb); clear HB; have HB := n0_; clear n0_; (try clear hb); (try clear hb2); (try clear hk); (try clear hi)))
                  go_ret
                  exact ⟨by first | rfl | (simp [errW_none, errW_some] <;> rfl) | (simp only [← hji11, ← hji12]; first | rfl | (simp [errW_none, errW_some] <;> rfl)) | (simp [*, errW_none, errW_some] <;> rfl), by repeat (first | (with_reducible first | exact HB.out | apply below_alloc | apply pw_below_drewN | apply below_drew1) | exact HB.out)⟩
              · replace c21 := Bool.eq_false_iff.mpr c21
                subst c21
                have H1 : (some false) = some r := by rw [if_neg (show ¬ (false = true) by decide)] at H; exact H
                clear H
                have H := H1
                clear H1
                obtain rfl := Option.some.inj H
                go_wp2_with (first | ((with_reducible refine gate_callee (f := 21) rfl ?_); refine goesL_ (some 49) rfl rfl Try.func21 (by kernel_rfl) rfl #[.int .i64 a0, .int .i64 (wrap64 (Int.tmod a2 30))] rfl (by (try simp only [List.map_toArray, List.map_cons, List.map_nil]); first | done | rfl | (simp only [List.length_drop, List.length_take]; rfl)) ?_; (with_reducible refine (rice_Size.calls a0 (wrap64 (Int.tmod a2 30)) t222 _ A20.out).mono ?_); rintro e w27 ⟨rfl, hb⟩; refine ⟨_, rfl, ?_⟩; have n0_ := Aside0.mk (below_step (by repeat (first | (with_reducible first | exact HB.out | apply below_alloc | apply pw_below_drewN | apply below_drew1) | exact HB.out)) hb); clear HB; have HB := n0_; clear n0_; (try clear hb); (try clear hb2); (try clear hk); (try clear hi)))
                go_ret
                exact ⟨by first | rfl | (simp [errW_none, errW_some] <;> rfl) | (simp only [← hji11, ← hji12]; first | rfl | (simp [errW_none, errW_some] <;> rfl)) | (simp [*, errW_none, errW_some] <;> rfl), by repeat (first | (with_reducible first | exact HB.out | apply below_alloc | apply pw_below_drewN | apply below_drew1) | exact HB.out)⟩

/-- THE ONE PURE STATEMENT of serinettelaw02_RiceNearer: yours. -/
def serinettelaw02_RiceNearer.Pure : Prop := ∀ (a0 : Int) (a1 : Int) (a2 : Int), (Lit.int .i64 a0).wf = true → (Lit.int .i64 a1).wf = true → (Lit.int .u8 a2).wf = true → ∃ k, serinettelaw02_RiceNearer.f k a0 a1 a2 = some true
theorem serinettelaw02_RiceNearer.walk (P : serinettelaw02_RiceNearer.Pure) (a0 : Int) (a1 : Int) (a2 : Int) (w : World) (w0 : (Lit.int .i64 a0).wf = true) (w1 : (Lit.int .i64 a1).wf = true) (w2 : (Lit.int .u8 a2).wf = true) :
    Calls Try.prog 4 #[.int .i64 a0, .int .i64 a1, .int .u8 a2] w fun e w' => e = .returned (.bool true) ∧ Below w.heap.size w w' := by
  obtain ⟨k, h⟩ := P a0 a1 a2 w0 w1 w2
  refine (serinettelaw02_RiceNearer.calls k a0 a1 a2 true w h).mono ?_
  rintro e w' ⟨rfl, hd⟩
  exact ⟨rfl, hd⟩

/-! ### rice_Unfold: function 24 -/
def rice_Unfold.f (a0 : Int) : Option (Int) := some (Go.bits .xor .i64 (wrap64 (a0 / 2)) (wrap64 (-(wrap64 (Go.bits .and .u64 a0 1)))))
set_option maxHeartbeats 8000000 in
set_option maxRecDepth 100000 in
theorem rice_Unfold.calls (a0 : Int) (r : Int) (w : World) (h : rice_Unfold.f a0 = some r) :
    Calls Try.prog 24 #[.int .u64 a0] w fun e w' => e = .returned (.int .i64 r) ∧ Drawn0 w w' := by
  have H : (some (Go.bits .xor .i64 (wrap64 (a0 / 2)) (wrap64 (-(wrap64 (Go.bits .and .u64 a0 1)))))) = some r := h
  clear h
  obtain rfl := Option.some.inj H
  go_enter Try.func24, Try.ntmps24
  go_wp2
  go_ret
  exact ⟨by first | rfl | (simp; done) | (simp [*]; done), by repeat (first | exact Drawn0.refl _ | apply Drawn0.step)⟩

end Go.Proofs.Ytkkjpaijkhhlcaa.PA
