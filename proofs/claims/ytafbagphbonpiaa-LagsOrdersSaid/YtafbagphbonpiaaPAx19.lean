/- Each Go function named below comes to what the plain Lean function of its name answers, wherever that answers (rounds enough, no panic, no row too long); texts by a program of this session by way of the kit's print.py, what that does not take by hand. Condition: what is read lies in memory as each theorem says. -/
import Derived.Test.YtafbagphbonpiaaPAx0
import Derived.Test.YtafbagphbonpiaaPAx5
import Derived.Test.YtafbagphbonpiaaPAx8
import Derived.Test.YtafbagphbonpiaaPAx9
import Derived.Test.YtafbagphbonpiaaPAx10
namespace Go.Proofs.Ytafbagphbonpiaa.PA
open Go.RowKit Go.Proofs.YtafbagphbonpiaaW.PrintWords Go.Proofs.YtafbagphbonpiaaW.PrintLast Go.Proofs.YtafbagphbonpiaaW.PrintMore
attribute [local go_sem] max2_int min2_int max_two min_two max_three min_three max_four min_four   -- for this text's walks alone
set_option linter.unusedVariables false
set_option linter.unusedSimpArgs false

/-! ### serinettelaw09_LagsOrders: function 7 -/
def serinettelaw09_LagsOrders.j0 : Nat → List Int → Int → Int → Bool → Bool → Option (Bool)
  | 0, _, _, _, _, _ => none
  | k + 1, x0, x1, x2, x7, x22 => if x22 = true then (some x7) else ((lags_Of.f k x0 (wrap64 (Int.tmod (mn x1 x2) 33))).bind fun t228 => ((lags_Of.f k x0 (wrap64 ((wrap64 (Int.tmod (mn x1 x2) 33)) + (wrap64 (Int.tmod (mx x1 x2) 9))))).bind fun t231 => (if x7 = true then (if (t231.length : Int) ≥ (t228.length : Int) then (if 0 ≤ (t228.length : Int) then (if (t228.length : Int) ≤ (t231.length : Int) then ((serinetteref01_Ints.f k (t231.take ((t228.length : Int) : Int).toNat) t228).bind fun t238 => (if t238 = true then (some ((t231.length : Int) == (wrap64 (1 + (mn (wrap64 ((wrap64 (Int.tmod (mn x1 x2) 33)) + (wrap64 (Int.tmod (mx x1 x2) 9)))) 32))))) else (some false))) else (none)) else (none)) else (some false)) else (some false))))
def serinettelaw09_LagsOrders.f (k : Nat) (l0 : List Int) (a1 : Int) (a2 : Int) : Option (Bool) := (serinettelaw09_awake.f k).bind fun t226 => ((serinetteref07_Near.f k l0).bind fun t227 => (if (l0.length : Int) > 80 then (serinettelaw09_LagsOrders.j0 k l0 a1 a2 t226 true) else (serinettelaw09_LagsOrders.j0 k l0 a1 a2 t226 (!t227))))
theorem serinettelaw09_LagsOrders.mono_l : ∀ k, (∀ y0 y1 y2 y3 y4, LeO (serinettelaw09_LagsOrders.j0 k y0 y1 y2 y3 y4) (serinettelaw09_LagsOrders.j0 (k + 1) y0 y1 y2 y3 y4))
  | 0 => fun _ _ _ _ _ r h => by simp [serinettelaw09_LagsOrders.j0] at h
  | k + 1 => by
    have ih0 := serinettelaw09_LagsOrders.mono_l k
    · intro y0 y1 y2 y3 y4
      unfold serinettelaw09_LagsOrders.j0
      repeat' first
      | (with_reducible exact ih0 _ _ _ _ _)
      | (with_reducible exact lags_Of.mono _ _ _)
      | (with_reducible exact serinettelaw09_awake.mono _)
      | (with_reducible exact serinetteref01_Ints.mono _ _ _)
      | (with_reducible exact serinetteref07_Near.mono _ _)
      | (with_reducible exact LeO.refl _)
      | (with_reducible exact LeO.none _)
      | (with_reducible refine LeO.ite ?_ ?_)
      | (with_reducible refine LeO.bind ?_ (fun _ => ?_))
      | exact ih0 _ _ _ _ _
      | exact lags_Of.mono _ _ _
      | exact serinettelaw09_awake.mono _
      | exact serinetteref01_Ints.mono _ _ _
      | exact serinetteref07_Near.mono _ _
      | exact LeO.none _
      | refine LeO.ite ?_ ?_
      | refine LeO.bind ?_ (fun _ => ?_)
theorem serinettelaw09_LagsOrders.mono : ∀ a0 a1 a2 k, LeO (serinettelaw09_LagsOrders.f k a0 a1 a2) (serinettelaw09_LagsOrders.f (k + 1) a0 a1 a2) := by
  intro a0 a1 a2 k
  have ih0 := serinettelaw09_LagsOrders.mono_l k
  unfold serinettelaw09_LagsOrders.f
  repeat' first
      | (with_reducible exact ih0 _ _ _ _ _)
      | (with_reducible exact lags_Of.mono _ _ _)
      | (with_reducible exact serinettelaw09_awake.mono _)
      | (with_reducible exact serinetteref01_Ints.mono _ _ _)
      | (with_reducible exact serinetteref07_Near.mono _ _)
      | (with_reducible exact LeO.refl _)
      | (with_reducible exact LeO.none _)
      | (with_reducible refine LeO.ite ?_ ?_)
      | (with_reducible refine LeO.bind ?_ (fun _ => ?_))
      | exact ih0 _ _ _ _ _
      | exact lags_Of.mono _ _ _
      | exact serinettelaw09_awake.mono _
      | exact serinetteref01_Ints.mono _ _ _
      | exact serinetteref07_Near.mono _ _
      | exact LeO.none _
      | refine LeO.ite ?_ ?_
      | refine LeO.bind ?_ (fun _ => ?_)
set_option maxHeartbeats 8000000 in
set_option maxRecDepth 100000 in
theorem serinettelaw09_LagsOrders.calls (k : Nat) (A0 : Option Addr) (c0 : Nat) (l0 : List Int) (a1 : Int) (a2 : Int) (r : Bool) (w : World) (hr0 : Kd.C (Kd.int .i64) w A0 l0.length l0) (hc0 : l0.length ≤ c0) (h : serinettelaw09_LagsOrders.f k l0 a1 a2 = some r) :
    Calls Try.prog 7 #[.slice A0 l0.length c0, .int .u8 a1, .int .u8 a2] w fun e w' => e = .returned (.bool r) ∧ Below w.heap.size w w' := by
  have HR0 := Aside0.mk hr0
  have HC0 := Aside0.mk hc0
  clear hr0 hc0
  have HB := Aside0.mk (Below.refl w.heap.size w)
  have H : ((serinettelaw09_awake.f k).bind fun t226 => ((serinetteref07_Near.f k l0).bind fun t227 => (if (l0.length : Int) > 80 then (serinettelaw09_LagsOrders.j0 k l0 a1 a2 t226 true) else (serinettelaw09_LagsOrders.j0 k l0 a1 a2 t226 (!t227))))) = some r := h
  clear h
  replace H := Option.bind_eq_some_iff.mp H
  obtain ⟨t226, A40, H⟩ := H
  replace H : ((serinetteref07_Near.f k l0).bind fun t227 => (if (l0.length : Int) > 80 then (serinettelaw09_LagsOrders.j0 k l0 a1 a2 t226 true) else (serinettelaw09_LagsOrders.j0 k l0 a1 a2 t226 (!t227)))) = some r := H
  have A4 := Aside0.mk A40
  clear A40
  replace H := Option.bind_eq_some_iff.mp H
  obtain ⟨t227, A50, H⟩ := H
  replace H : (if (l0.length : Int) > 80 then (serinettelaw09_LagsOrders.j0 k l0 a1 a2 t226 true) else (serinettelaw09_LagsOrders.j0 k l0 a1 a2 t226 (!t227))) = some r := H
  have A5 := Aside0.mk A50
  clear A50
  have HC6 := Aside0.mk H
  clear H
  go_enter Try.func7, Try.ntmps7
  go_upto_region 3 with (first | ((with_reducible refine gate_callee (f := 9) rfl ?_); refine goesL_ (some 13) rfl rfl Try.func9 (by kernel_rfl) rfl #[] rfl (by (try simp only [List.map_toArray, List.map_cons, List.map_nil]); first | done | rfl | (simp only [List.length_drop, List.length_take]; rfl)) ?_; (with_reducible refine (serinettelaw09_awake.calls k  t226 _ A4.out).mono ?_); rintro e w7 ⟨rfl, hb⟩; refine ⟨_, rfl, ?_⟩; have n0_ := Aside0.mk (below_step (by repeat (first | (with_reducible first | exact HB.out | apply below_alloc | apply pw_below_drewN | apply below_drew1) | exact HB.out)) hb); clear HB; have HB := n0_; clear n0_; (try clear hb); (try clear hb2); (try clear hk); (try clear hi)) | ((with_reducible refine gate_callee (f := 10) rfl ?_); refine goesL_ (some 15) rfl rfl Try.func10 (by kernel_rfl) rfl #[.slice A0 l0.length c0] rfl (by (try simp only [List.map_toArray, List.map_cons, List.map_nil]); first | done | rfl | (simp only [List.length_drop, List.length_take]; rfl)) ?_; (with_reducible refine (serinetteref07_Near.calls k _ _ l0 t227 _ ?side1 ?side2 A5.out).mono ?_); (case side1 => repeat (first | exact (Kd.C_below HR0.out HB.out) | (with_reducible refine Kd.C_alloc ?_ _) | (with_reducible refine Kd.C_drewN ?_ _) | (with_reducible refine Kd.C_drew ?_))); (case side2 => exact HC0.out); rintro e w' ⟨rfl, ⟨nd, rfl⟩⟩; refine ⟨_, rfl, ?_⟩))
  (try simp only [Act.put, List.setIfInBounds_toArray, List.set_cons_zero, List.set_cons_succ])
  go_cut [22] (fun v22 wc => ∃ (kq : Nat) (x22_5 : Bool), v22 = .bool x22_5 ∧ Aside0 (serinettelaw09_LagsOrders.j0 kq l0 a1 a2 t226 x22_5 = some r) ∧ Aside0 (kq ≤ k) ∧ Aside0 (Below w.heap.size w wc))
  case first =>
    have H := HC6.out
    clear HC6
    by_cases c8 : (l0.length : Int) > 80
    · rw [if_pos c8] at H
      have c8b0 : decide (80 < (l0.length : Int)) = true := decide_eq_true c8
      have c8b1 : decide (80 < l0.length) = true := decide_eq_true (by omega)
      clear c8
      (first | rw [c8b0] | (simp only [i64_w, i32_w]; rw [c8b0]) | skip)
      have H' := Aside0.mk H
      clear H
      go_wp2
      go_meet
      case rel => exact ⟨_, (true), (by first | rfl | (simp; done) | (simp only [i64_w, i32_w]; done) | (simp [*]; done) | (simp only [i64_w, i32_w]; first | rfl | (simp; done) | (simp [*]; done))), H', ⟨by first | omega | exact Nat.le_refl _⟩, ⟨by repeat (first | (with_reducible first | exact HB.out | apply below_alloc | apply pw_below_drewN | apply below_drew1) | exact HB.out)⟩⟩
    · rw [if_neg c8] at H
      have c8b0 : decide (80 < (l0.length : Int)) = false := decide_eq_false c8
      have c8b1 : decide (80 < l0.length) = false := decide_eq_false (by omega)
      clear c8
      (first | rw [c8b0] | (simp only [i64_w, i32_w]; rw [c8b0]) | skip)
      have H' := Aside0.mk H
      clear H
      go_wp2
      go_meet
      case rel => exact ⟨_, (!t227), (by first | rfl | (simp; done) | (simp only [i64_w, i32_w]; done) | (simp [*]; done) | (simp only [i64_w, i32_w]; first | rfl | (simp; done) | (simp [*]; done))), H', ⟨by first | omega | exact Nat.le_refl _⟩, ⟨by repeat (first | (with_reducible first | exact HB.out | apply below_alloc | apply pw_below_drewN | apply below_drew1) | exact HB.out)⟩⟩
  case rest =>
    clear HC6
    try clear c1
    try clear p2
    try clear c7
    try clear c8
    try clear c8b0
    try clear c8b1
    obtain ⟨kq, x22_5, rfl, HA, HJ5, HB⟩ := hcut
    cases kq with
    | zero => exact absurd HA.out (by simp [serinettelaw09_LagsOrders.j0])
    | succ kj5 =>
      have H := HA.out
      clear HA
      simp only [serinettelaw09_LagsOrders.j0] at H
      by_cases c9 : x22_5 = true
      · subst c9
        have H1 : (some t226) = some r := by rw [if_pos rfl] at H; exact H
        clear H
        have H := H1
        clear H1
        obtain rfl := Option.some.inj H
        go_wp2
        go_ret
        exact ⟨by first | rfl | (simp [errW_none, errW_some] <;> rfl) | (simp [*, errW_none, errW_some] <;> rfl), by repeat (first | (with_reducible first | exact HB.out | apply below_alloc | apply pw_below_drewN | apply below_drew1) | exact HB.out)⟩
      · replace c9 := Bool.eq_false_iff.mpr c9
        subst c9
        have H1 : ((lags_Of.f kj5 l0 (wrap64 (Int.tmod (mn a1 a2) 33))).bind fun t228 => ((lags_Of.f kj5 l0 (wrap64 ((wrap64 (Int.tmod (mn a1 a2) 33)) + (wrap64 (Int.tmod (mx a1 a2) 9))))).bind fun t231 => (if t226 = true then (if (t231.length : Int) ≥ (t228.length : Int) then (if 0 ≤ (t228.length : Int) then (if (t228.length : Int) ≤ (t231.length : Int) then ((serinetteref01_Ints.f kj5 (t231.take ((t228.length : Int) : Int).toNat) t228).bind fun t238 => (if t238 = true then (some ((t231.length : Int) == (wrap64 (1 + (mn (wrap64 ((wrap64 (Int.tmod (mn a1 a2) 33)) + (wrap64 (Int.tmod (mx a1 a2) 9)))) 32))))) else (some false))) else (none)) else (none)) else (some false)) else (some false)))) = some r := by rw [if_neg (show ¬ (false = true) by decide)] at H; exact H
        clear H
        have H := H1
        clear H1
        obtain ⟨ji10, hji10⟩ : ∃ j_ : Int, (mn a1 a2) = j_ := ⟨_, rfl⟩
        replace H : ((lags_Of.f kj5 l0 (wrap64 (Int.tmod (ji10) 33))).bind fun t228 => ((lags_Of.f kj5 l0 (wrap64 ((wrap64 (Int.tmod (ji10) 33)) + (wrap64 (Int.tmod (mx a1 a2) 9))))).bind fun t231 => (if t226 = true then (if (t231.length : Int) ≥ (t228.length : Int) then (if 0 ≤ (t228.length : Int) then (if (t228.length : Int) ≤ (t231.length : Int) then ((serinetteref01_Ints.f kj5 (t231.take ((t228.length : Int) : Int).toNat) t228).bind fun t238 => (if t238 = true then (some ((t231.length : Int) == (wrap64 (1 + (mn (wrap64 ((wrap64 (Int.tmod (ji10) 33)) + (wrap64 (Int.tmod (mx a1 a2) 9)))) 32))))) else (some false))) else (none)) else (none)) else (some false)) else (some false)))) = some r := by first | (rw [hji10] at H; exact H) | (simp only [hji10] at H ⊢; exact H)
        have hji10_ : (if a2 < a1 then a2 else a1) = ji10 := hji10
        obtain ⟨ji11, hji11⟩ : ∃ j_ : Int, (mx a1 a2) = j_ := ⟨_, rfl⟩
        replace H : ((lags_Of.f kj5 l0 (wrap64 (Int.tmod (ji10) 33))).bind fun t228 => ((lags_Of.f kj5 l0 (wrap64 ((wrap64 (Int.tmod (ji10) 33)) + (wrap64 (Int.tmod (ji11) 9))))).bind fun t231 => (if t226 = true then (if (t231.length : Int) ≥ (t228.length : Int) then (if 0 ≤ (t228.length : Int) then (if (t228.length : Int) ≤ (t231.length : Int) then ((serinetteref01_Ints.f kj5 (t231.take ((t228.length : Int) : Int).toNat) t228).bind fun t238 => (if t238 = true then (some ((t231.length : Int) == (wrap64 (1 + (mn (wrap64 ((wrap64 (Int.tmod (ji10) 33)) + (wrap64 (Int.tmod (ji11) 9)))) 32))))) else (some false))) else (none)) else (none)) else (some false)) else (some false)))) = some r := by first | (rw [hji11] at H; exact H) | (simp only [hji11] at H ⊢; exact H)
        have hji11_ : (if a1 < a2 then a2 else a1) = ji11 := hji11
        replace H := Option.bind_eq_some_iff.mp H
        obtain ⟨t228, A120, H⟩ := H
        replace H : ((lags_Of.f kj5 l0 (wrap64 ((wrap64 (Int.tmod (ji10) 33)) + (wrap64 (Int.tmod (ji11) 9))))).bind fun t231 => (if t226 = true then (if (t231.length : Int) ≥ (t228.length : Int) then (if 0 ≤ (t228.length : Int) then (if (t228.length : Int) ≤ (t231.length : Int) then ((serinetteref01_Ints.f kj5 (t231.take ((t228.length : Int) : Int).toNat) t228).bind fun t238 => (if t238 = true then (some ((t231.length : Int) == (wrap64 (1 + (mn (wrap64 ((wrap64 (Int.tmod (ji10) 33)) + (wrap64 (Int.tmod (ji11) 9)))) 32))))) else (some false))) else (none)) else (none)) else (some false)) else (some false))) = some r := H
        have A12 := Aside0.mk A120
        clear A120
        replace H := Option.bind_eq_some_iff.mp H
        obtain ⟨t231, A130, H⟩ := H
        replace H : (if t226 = true then (if (t231.length : Int) ≥ (t228.length : Int) then (if 0 ≤ (t228.length : Int) then (if (t228.length : Int) ≤ (t231.length : Int) then ((serinetteref01_Ints.f kj5 (t231.take ((t228.length : Int) : Int).toNat) t228).bind fun t238 => (if t238 = true then (some ((t231.length : Int) == (wrap64 (1 + (mn (wrap64 ((wrap64 (Int.tmod (ji10) 33)) + (wrap64 (Int.tmod (ji11) 9)))) 32))))) else (some false))) else (none)) else (none)) else (some false)) else (some false)) = some r := H
        have A13 := Aside0.mk A130
        clear A130
        by_cases c14 : t226 = true
        · subst c14
          have H1 : (if (t231.length : Int) ≥ (t228.length : Int) then (if 0 ≤ (t228.length : Int) then (if (t228.length : Int) ≤ (t231.length : Int) then ((serinetteref01_Ints.f kj5 (t231.take ((t228.length : Int) : Int).toNat) t228).bind fun t238 => (if t238 = true then (some ((t231.length : Int) == (wrap64 (1 + (mn (wrap64 ((wrap64 (Int.tmod (ji10) 33)) + (wrap64 (Int.tmod (ji11) 9)))) 32))))) else (some false))) else (none)) else (none)) else (some false)) = some r := by rw [if_pos rfl] at H; exact H
          clear H
          have H := H1
          clear H1
          by_cases c15 : (t231.length : Int) ≥ (t228.length : Int)
          · rw [if_pos c15] at H
            have c15b0 : decide ((t228.length : Int) ≤ (t231.length : Int)) = true := decide_eq_true c15
            have c15b1 : decide (t228.length ≤ t231.length) = true := decide_eq_true (Int.ofNat_le.mp c15)
            clear c15
            by_cases c16 : 0 ≤ (t228.length : Int)
            · rw [if_pos c16] at H
              have c16b0 := eq_true c16
              have c16b1 : decide (0 ≤ (t228.length : Int)) = true := decide_eq_true c16
              clear c16
              by_cases c17 : (t228.length : Int) ≤ (t231.length : Int)
              · rw [if_pos c17] at H
                have c17b0 := eq_true c17
                have c17b1 : decide ((t228.length : Int) ≤ (t231.length : Int)) = true := decide_eq_true c17
                clear c17
                obtain ⟨y234, hy234⟩ : ∃ y_ : List Int, y_ = (t231.take ((t228.length : Int) : Int).toNat) := ⟨_, rfl⟩
                replace H : ((serinetteref01_Ints.f kj5 y234 t228).bind fun t238 => (if t238 = true then (some ((t231.length : Int) == (wrap64 (1 + (mn (wrap64 ((wrap64 (Int.tmod (ji10) 33)) + (wrap64 (Int.tmod (ji11) 9)))) 32))))) else (some false))) = some r := by first | (rw [hy234]; with_reducible exact H) | (have H2_ := (Option.bind_some _ _).symm.trans H; rw [hy234]; with_reducible exact H2_) | (have H2_ := (Option.bind_some _ _).symm.trans H; with_reducible exact H2_) | with_reducible exact H | (rw [hy234]; exact H) | exact H
                have Ny234 := Aside0.mk hy234
                clear hy234
                replace H := Option.bind_eq_some_iff.mp H
                obtain ⟨t238, A180, H⟩ := H
                replace H : (if t238 = true then (some ((t231.length : Int) == (wrap64 (1 + (mn (wrap64 ((wrap64 (Int.tmod (ji10) 33)) + (wrap64 (Int.tmod (ji11) 9)))) 32))))) else (some false)) = some r := H
                have A18 := Aside0.mk A180
                clear A180
                by_cases c19 : t238 = true
                · subst c19
                  have H1 : (some ((t231.length : Int) == (wrap64 (1 + (mn (wrap64 ((wrap64 (Int.tmod (ji10) 33)) + (wrap64 (Int.tmod (ji11) 9)))) 32))))) = some r := by rw [if_pos rfl] at H; exact H
                  clear H
                  have H := H1
                  clear H1
                  obtain ⟨ji20, hji20⟩ : ∃ j_ : Int, (mn (wrap64 ((wrap64 (Int.tmod (ji10) 33)) + (wrap64 (Int.tmod (ji11) 9)))) 32) = j_ := ⟨_, rfl⟩
                  replace H : (some ((t231.length : Int) == (wrap64 (1 + (ji20))))) = some r := by first | (rw [hji20] at H; exact H) | (simp only [hji20] at H ⊢; exact H)
                  (try rw [hji20] at A12)
                  (try rw [hji20] at A13)
                  (try rw [hji20] at A18)
                  have hji20_ : (if 32 < (wrap64 ((wrap64 (Int.tmod (ji10) 33)) + (wrap64 (Int.tmod (ji11) 9)))) then 32 else (wrap64 ((wrap64 (Int.tmod (ji10) 33)) + (wrap64 (Int.tmod (ji11) 9))))) = ji20 := hji20
                  obtain rfl := Option.some.inj H
                  go_wp2_with (first | ((with_reducible refine gate_callee (f := 14) rfl ?_); refine goesL_ (some 38) rfl rfl Try.func14 (by kernel_rfl) rfl #[.slice A0 l0.length c0, .int .i64 (wrap64 (Int.tmod (ji10) 33))] rfl (by (try simp only [List.map_toArray, List.map_cons, List.map_nil]); first | done | (simp only [hji10]; rfl) | rfl | (simp only [List.length_drop, List.length_take]; rfl)) ?_; (with_reducible refine (lags_Of.calls kj5 _ _ l0 (wrap64 (Int.tmod (ji10) 33)) t228 _ ?side1 ?side2 A12.out).mono ?_); (case side1 => repeat (first | exact (Kd.C_below HR0.out HB.out) | (with_reducible refine Kd.C_alloc ?_ _) | (with_reducible refine Kd.C_drewN ?_ _) | (with_reducible refine Kd.C_drew ?_))); (case side2 => exact HC0.out); rintro e w21 ⟨v229, rfl, ho0, hb⟩; refine ⟨_, rfl, ?_⟩; have n0_ := Aside0.mk (Kd.R_lower ho0 (below_size (by repeat (first | (with_reducible first | exact HB.out | apply below_alloc | apply pw_below_drewN | apply below_drew1) | exact HB.out)))); have n1_ := Aside0.mk (below_step (by repeat (first | (with_reducible first | exact HB.out | apply below_alloc | apply pw_below_drewN | apply below_drew1) | exact HB.out)) hb); clear HB; have HO230 := n0_; have HB := n1_; clear n0_ n1_; (try clear hb); (try clear hb2); (try clear hk); (try clear hi); (try clear ho0)) | ((with_reducible refine gate_callee (f := 14) rfl ?_); refine goesL_ (some 41) rfl rfl Try.func14 (by kernel_rfl) rfl #[.slice A0 l0.length c0, .int .i64 (wrap64 ((wrap64 (Int.tmod (ji10) 33)) + (wrap64 (Int.tmod (ji11) 9))))] rfl (by (try simp only [List.map_toArray, List.map_cons, List.map_nil]); first | done | (simp only [hji10, hji11]; rfl) | rfl | (simp only [List.length_drop, List.length_take]; rfl)) ?_; (with_reducible refine (lags_Of.calls kj5 _ _ l0 (wrap64 ((wrap64 (Int.tmod (ji10) 33)) + (wrap64 (Int.tmod (ji11) 9)))) t231 _ ?side1 ?side2 A13.out).mono ?_); (case side1 => repeat (first | exact (Kd.C_below HR0.out HB.out) | (with_reducible refine Kd.C_alloc ?_ _) | (with_reducible refine Kd.C_drewN ?_ _) | (with_reducible refine Kd.C_drew ?_))); (case side2 => exact HC0.out); rintro e w22 ⟨v232, rfl, ho0, hb⟩; refine ⟨_, rfl, ?_⟩; have n0_ := Aside0.mk (Kd.R_elder' (by (with_reducible repeat (first | apply Kd.R_alloc | apply Kd.R_drewN | apply Kd.R_drew)); exact HO230.out) (Kd.R_base ho0) hb); have n1_ := Aside0.mk (Kd.R_lower (Kd.R_new' ho0 (Kd.R_lt (by (with_reducible repeat (first | apply Kd.R_alloc | apply Kd.R_drewN | apply Kd.R_drew)); exact HO230.out))) (below_size (by repeat (first | (with_reducible first | exact HB.out | apply below_alloc | apply pw_below_drewN | apply below_drew1) | exact HB.out)))); have n2_ := Aside0.mk (below_step (by repeat (first | (with_reducible first | exact HB.out | apply below_alloc | apply pw_below_drewN | apply below_drew1) | exact HB.out)) hb); clear HO230; clear HB; have HO230 := n0_; have HO233 := n1_; have HB := n2_; clear n0_ n1_ n2_; (try clear hb); (try clear hb2); (try clear hk); (try clear hi); (try clear ho0); obtain ⟨Ao23, co23, eo23⟩ := Kd.R_slice HO233.out; subst eo23; obtain ⟨Ao24, co24, eo24⟩ := Kd.R_slice HO230.out; subst eo24; have q25 : ((t228.length : Int) : Int) ≤ ((t231.length : Int) : Int) := of_decide_eq_true (by first | (with_reducible assumption) | assumption); obtain ⟨i025, hi025, _, hsz25, _⟩ := info_parts info3; have hroom25 : t231.length ≤ co23 := (Kd.R_reads' HO233.out).2.1; have hC25 : Kd.C (Kd.int .i64) _ Ao23 t231.length t231 := (Kd.R_reads' HO233.out).2.2; have hcut25 := cut_to (P := Try.prog) 22 3 .i64 Try.underlying22 hi025 Ao23 t231.length co23 (t228.length : Int) (of_decide_eq_true (by first | (with_reducible assumption) | assumption)) q25 hroom25; have hr25 := Kd.C_take (m := ((t228.length : Int) : Int).toNat) hC25 (by omega); have hy25 : y234.length = ((t228.length : Int) : Int).toNat := (by rw [Ny234.out, List.length_take]; omega); rw [← Ny234.out] at hr25; rw [← hy25] at hcut25; have HR237 := Aside0.mk hr25; have HC237 := Aside0.mk (show y234.length ≤ co23 from by omega); clear hr25 hC25 hroom25 hi025 hsz25; have KY25 := Aside0.mk hy25; clear hy25; have KL25 := Aside0.mk (show ((t228.length : Int) : Int).toNat ≤ t231.length from by omega); replace q25 := eq_true q25) | (go_at_call 13; (with_reducible refine (serinetteref01_Ints.calls kj5 _ _ y234 _ _ t228 true _ ?side1 ?side2 ?side3 ?side4 A18.out).mono ?_); (case side1 => repeat (first | exact (by repeat (first | (with_reducible exact HR237.out) | (with_reducible refine Kd.C_alloc ?_ _) | (with_reducible refine Kd.C_drewN ?_ _) | (with_reducible refine Kd.C_drew ?_) | exact HR237.out)) | (with_reducible refine Kd.C_alloc ?_ _) | (with_reducible refine Kd.C_drewN ?_ _) | (with_reducible refine Kd.C_drew ?_))); (case side2 => exact HC237.out); (case side3 => repeat (first | exact (Kd.R_reads' HO230.out).2.2 | (with_reducible refine Kd.C_alloc ?_ _) | (with_reducible refine Kd.C_drewN ?_ _) | (with_reducible refine Kd.C_drew ?_))); (case side4 => exact (Kd.R_reads' HO230.out).2.1); rintro e w' ⟨rfl, ⟨nd, rfl⟩⟩))
                  go_ret
                  exact ⟨by first | rfl | (simp [errW_none, errW_some] <;> rfl) | (simp only [← hji10, ← hji11, ← hji20]; first | rfl | (simp [errW_none, errW_some] <;> rfl)) | (simp [*, errW_none, errW_some] <;> rfl), by repeat (first | (with_reducible first | exact HB.out | apply below_alloc | apply pw_below_drewN | apply below_drew1) | exact HB.out)⟩
                · replace c19 := Bool.eq_false_iff.mpr c19
                  subst c19
                  have H1 : (some false) = some r := by rw [if_neg (show ¬ (false = true) by decide)] at H; exact H
                  clear H
                  have H := H1
                  clear H1
                  obtain rfl := Option.some.inj H
                  go_wp2_with (first | ((with_reducible refine gate_callee (f := 14) rfl ?_); refine goesL_ (some 38) rfl rfl Try.func14 (by kernel_rfl) rfl #[.slice A0 l0.length c0, .int .i64 (wrap64 (Int.tmod (ji10) 33))] rfl (by (try simp only [List.map_toArray, List.map_cons, List.map_nil]); first | done | (simp only [hji10]; rfl) | rfl | (simp only [List.length_drop, List.length_take]; rfl)) ?_; (with_reducible refine (lags_Of.calls kj5 _ _ l0 (wrap64 (Int.tmod (ji10) 33)) t228 _ ?side1 ?side2 A12.out).mono ?_); (case side1 => repeat (first | exact (Kd.C_below HR0.out HB.out) | (with_reducible refine Kd.C_alloc ?_ _) | (with_reducible refine Kd.C_drewN ?_ _) | (with_reducible refine Kd.C_drew ?_))); (case side2 => exact HC0.out); rintro e w26 ⟨v229, rfl, ho0, hb⟩; refine ⟨_, rfl, ?_⟩; have n0_ := Aside0.mk (Kd.R_lower ho0 (below_size (by repeat (first | (with_reducible first | exact HB.out | apply below_alloc | apply pw_below_drewN | apply below_drew1) | exact HB.out)))); have n1_ := Aside0.mk (below_step (by repeat (first | (with_reducible first | exact HB.out | apply below_alloc | apply pw_below_drewN | apply below_drew1) | exact HB.out)) hb); clear HB; have HO230 := n0_; have HB := n1_; clear n0_ n1_; (try clear hb); (try clear hb2); (try clear hk); (try clear hi); (try clear ho0)) | ((with_reducible refine gate_callee (f := 14) rfl ?_); refine goesL_ (some 41) rfl rfl Try.func14 (by kernel_rfl) rfl #[.slice A0 l0.length c0, .int .i64 (wrap64 ((wrap64 (Int.tmod (ji10) 33)) + (wrap64 (Int.tmod (ji11) 9))))] rfl (by (try simp only [List.map_toArray, List.map_cons, List.map_nil]); first | done | (simp only [hji10, hji11]; rfl) | rfl | (simp only [List.length_drop, List.length_take]; rfl)) ?_; (with_reducible refine (lags_Of.calls kj5 _ _ l0 (wrap64 ((wrap64 (Int.tmod (ji10) 33)) + (wrap64 (Int.tmod (ji11) 9)))) t231 _ ?side1 ?side2 A13.out).mono ?_); (case side1 => repeat (first | exact (Kd.C_below HR0.out HB.out) | (with_reducible refine Kd.C_alloc ?_ _) | (with_reducible refine Kd.C_drewN ?_ _) | (with_reducible refine Kd.C_drew ?_))); (case side2 => exact HC0.out); rintro e w27 ⟨v232, rfl, ho0, hb⟩; refine ⟨_, rfl, ?_⟩; have n0_ := Aside0.mk (Kd.R_elder' (by (with_reducible repeat (first | apply Kd.R_alloc | apply Kd.R_drewN | apply Kd.R_drew)); exact HO230.out) (Kd.R_base ho0) hb); have n1_ := Aside0.mk (Kd.R_lower (Kd.R_new' ho0 (Kd.R_lt (by (with_reducible repeat (first | apply Kd.R_alloc | apply Kd.R_drewN | apply Kd.R_drew)); exact HO230.out))) (below_size (by repeat (first | (with_reducible first | exact HB.out | apply below_alloc | apply pw_below_drewN | apply below_drew1) | exact HB.out)))); have n2_ := Aside0.mk (below_step (by repeat (first | (with_reducible first | exact HB.out | apply below_alloc | apply pw_below_drewN | apply below_drew1) | exact HB.out)) hb); clear HO230; clear HB; have HO230 := n0_; have HO233 := n1_; have HB := n2_; clear n0_ n1_ n2_; (try clear hb); (try clear hb2); (try clear hk); (try clear hi); (try clear ho0); obtain ⟨Ao28, co28, eo28⟩ := Kd.R_slice HO233.out; subst eo28; obtain ⟨Ao29, co29, eo29⟩ := Kd.R_slice HO230.out; subst eo29; have q30 : ((t228.length : Int) : Int) ≤ ((t231.length : Int) : Int) := of_decide_eq_true (by first | (with_reducible assumption) | assumption); obtain ⟨i030, hi030, _, hsz30, _⟩ := info_parts info3; have hroom30 : t231.length ≤ co28 := (Kd.R_reads' HO233.out).2.1; have hC30 : Kd.C (Kd.int .i64) _ Ao28 t231.length t231 := (Kd.R_reads' HO233.out).2.2; have hcut30 := cut_to (P := Try.prog) 22 3 .i64 Try.underlying22 hi030 Ao28 t231.length co28 (t228.length : Int) (of_decide_eq_true (by first | (with_reducible assumption) | assumption)) q30 hroom30; have hr30 := Kd.C_take (m := ((t228.length : Int) : Int).toNat) hC30 (by omega); have hy30 : y234.length = ((t228.length : Int) : Int).toNat := (by rw [Ny234.out, List.length_take]; omega); rw [← Ny234.out] at hr30; rw [← hy30] at hcut30; have HR237 := Aside0.mk hr30; have HC237 := Aside0.mk (show y234.length ≤ co28 from by omega); clear hr30 hC30 hroom30 hi030 hsz30; have KY30 := Aside0.mk hy30; clear hy30; have KL30 := Aside0.mk (show ((t228.length : Int) : Int).toNat ≤ t231.length from by omega); replace q30 := eq_true q30) | (go_at_call 13; (with_reducible refine (serinetteref01_Ints.calls kj5 _ _ y234 _ _ t228 false _ ?side1 ?side2 ?side3 ?side4 A18.out).mono ?_); (case side1 => repeat (first | exact (by repeat (first | (with_reducible exact HR237.out) | (with_reducible refine Kd.C_alloc ?_ _) | (with_reducible refine Kd.C_drewN ?_ _) | (with_reducible refine Kd.C_drew ?_) | exact HR237.out)) | (with_reducible refine Kd.C_alloc ?_ _) | (with_reducible refine Kd.C_drewN ?_ _) | (with_reducible refine Kd.C_drew ?_))); (case side2 => exact HC237.out); (case side3 => repeat (first | exact (Kd.R_reads' HO230.out).2.2 | (with_reducible refine Kd.C_alloc ?_ _) | (with_reducible refine Kd.C_drewN ?_ _) | (with_reducible refine Kd.C_drew ?_))); (case side4 => exact (Kd.R_reads' HO230.out).2.1); rintro e w' ⟨rfl, ⟨nd, rfl⟩⟩))
                  go_ret
                  exact ⟨by first | rfl | (simp [errW_none, errW_some] <;> rfl) | (simp only [← hji10, ← hji11]; first | rfl | (simp [errW_none, errW_some] <;> rfl)) | (simp [*, errW_none, errW_some] <;> rfl), by repeat (first | (with_reducible first | exact HB.out | apply below_alloc | apply pw_below_drewN | apply below_drew1) | exact HB.out)⟩
              · rw [if_neg c17] at H
                exact absurd H (by simp)
            · rw [if_neg c16] at H
              exact absurd H (by simp)
          · rw [if_neg c15] at H
            have c15b0 : decide ((t228.length : Int) ≤ (t231.length : Int)) = false := decide_eq_false c15
            have c15b1 : decide (t228.length ≤ t231.length) = false := decide_eq_false (fun h => c15 (Int.ofNat_le.mpr h))
            clear c15
            obtain rfl := Option.some.inj H
            go_wp2_with (first | ((with_reducible refine gate_callee (f := 14) rfl ?_); refine goesL_ (some 38) rfl rfl Try.func14 (by kernel_rfl) rfl #[.slice A0 l0.length c0, .int .i64 (wrap64 (Int.tmod (ji10) 33))] rfl (by (try simp only [List.map_toArray, List.map_cons, List.map_nil]); first | done | (simp only [hji10]; rfl) | rfl | (simp only [List.length_drop, List.length_take]; rfl)) ?_; (with_reducible refine (lags_Of.calls kj5 _ _ l0 (wrap64 (Int.tmod (ji10) 33)) t228 _ ?side1 ?side2 A12.out).mono ?_); (case side1 => repeat (first | exact (Kd.C_below HR0.out HB.out) | (with_reducible refine Kd.C_alloc ?_ _) | (with_reducible refine Kd.C_drewN ?_ _) | (with_reducible refine Kd.C_drew ?_))); (case side2 => exact HC0.out); rintro e w31 ⟨v229, rfl, ho0, hb⟩; refine ⟨_, rfl, ?_⟩; have n0_ := Aside0.mk (Kd.R_lower ho0 (below_size (by repeat (first | (with_reducible first | exact HB.out | apply below_alloc | apply pw_below_drewN | apply below_drew1) | exact HB.out)))); have n1_ := Aside0.mk (below_step (by repeat (first | (with_reducible first | exact HB.out | apply below_alloc | apply pw_below_drewN | apply below_drew1) | exact HB.out)) hb); clear HB; have HO230 := n0_; have HB := n1_; clear n0_ n1_; (try clear hb); (try clear hb2); (try clear hk); (try clear hi); (try clear ho0)) | ((with_reducible refine gate_callee (f := 14) rfl ?_); refine goesL_ (some 41) rfl rfl Try.func14 (by kernel_rfl) rfl #[.slice A0 l0.length c0, .int .i64 (wrap64 ((wrap64 (Int.tmod (ji10) 33)) + (wrap64 (Int.tmod (ji11) 9))))] rfl (by (try simp only [List.map_toArray, List.map_cons, List.map_nil]); first | done | (simp only [hji10, hji11]; rfl) | rfl | (simp only [List.length_drop, List.length_take]; rfl)) ?_; (with_reducible refine (lags_Of.calls kj5 _ _ l0 (wrap64 ((wrap64 (Int.tmod (ji10) 33)) + (wrap64 (Int.tmod (ji11) 9)))) t231 _ ?side1 ?side2 A13.out).mono ?_); (case side1 => repeat (first | exact (Kd.C_below HR0.out HB.out) | (with_reducible refine Kd.C_alloc ?_ _) | (with_reducible refine Kd.C_drewN ?_ _) | (with_reducible refine Kd.C_drew ?_))); (case side2 => exact HC0.out); rintro e w32 ⟨v232, rfl, ho0, hb⟩; refine ⟨_, rfl, ?_⟩; have n0_ := Aside0.mk (Kd.R_elder' (by (with_reducible repeat (first | apply Kd.R_alloc | apply Kd.R_drewN | apply Kd.R_drew)); exact HO230.out) (Kd.R_base ho0) hb); have n1_ := Aside0.mk (Kd.R_lower (Kd.R_new' ho0 (Kd.R_lt (by (with_reducible repeat (first | apply Kd.R_alloc | apply Kd.R_drewN | apply Kd.R_drew)); exact HO230.out))) (below_size (by repeat (first | (with_reducible first | exact HB.out | apply below_alloc | apply pw_below_drewN | apply below_drew1) | exact HB.out)))); have n2_ := Aside0.mk (below_step (by repeat (first | (with_reducible first | exact HB.out | apply below_alloc | apply pw_below_drewN | apply below_drew1) | exact HB.out)) hb); clear HO230; clear HB; have HO230 := n0_; have HO233 := n1_; have HB := n2_; clear n0_ n1_ n2_; (try clear hb); (try clear hb2); (try clear hk); (try clear hi); (try clear ho0); obtain ⟨Ao33, co33, eo33⟩ := Kd.R_slice HO233.out; subst eo33; obtain ⟨Ao34, co34, eo34⟩ := Kd.R_slice HO230.out; subst eo34))
            go_ret
            exact ⟨by first | rfl | (simp [errW_none, errW_some] <;> rfl) | (simp only [← hji10, ← hji11]; first | rfl | (simp [errW_none, errW_some] <;> rfl)) | (simp [*, errW_none, errW_some] <;> rfl), by repeat (first | (with_reducible first | exact HB.out | apply below_alloc | apply pw_below_drewN | apply below_drew1) | exact HB.out)⟩
        · replace c14 := Bool.eq_false_iff.mpr c14
          subst c14
          have H1 : (some false) = some r := by rw [if_neg (show ¬ (false = true) by decide)] at H; exact H
          clear H
          have H := H1
          clear H1
          obtain rfl := Option.some.inj H
          go_wp2_with (first | ((with_reducible refine gate_callee (f := 14) rfl ?_); refine goesL_ (some 38) rfl rfl Try.func14 (by kernel_rfl) rfl #[.slice A0 l0.length c0, .int .i64 (wrap64 (Int.tmod (ji10) 33))] rfl (by (try simp only [List.map_toArray, List.map_cons, List.map_nil]); first | done | (simp only [hji10]; rfl) | rfl | (simp only [List.length_drop, List.length_take]; rfl)) ?_; (with_reducible refine (lags_Of.calls kj5 _ _ l0 (wrap64 (Int.tmod (ji10) 33)) t228 _ ?side1 ?side2 A12.out).mono ?_); (case side1 => repeat (first | exact (Kd.C_below HR0.out HB.out) | (with_reducible refine Kd.C_alloc ?_ _) | (with_reducible refine Kd.C_drewN ?_ _) | (with_reducible refine Kd.C_drew ?_))); (case side2 => exact HC0.out); rintro e w35 ⟨v229, rfl, ho0, hb⟩; refine ⟨_, rfl, ?_⟩; have n0_ := Aside0.mk (Kd.R_lower ho0 (below_size (by repeat (first | (with_reducible first | exact HB.out | apply below_alloc | apply pw_below_drewN | apply below_drew1) | exact HB.out)))); have n1_ := Aside0.mk (below_step (by repeat (first | (with_reducible first | exact HB.out | apply below_alloc | apply pw_below_drewN | apply below_drew1) | exact HB.out)) hb); clear HB; have HO230 := n0_; have HB := n1_; clear n0_ n1_; (try clear hb); (try clear hb2); (try clear hk); (try clear hi); (try clear ho0)) | ((with_reducible refine gate_callee (f := 14) rfl ?_); refine goesL_ (some 41) rfl rfl Try.func14 (by kernel_rfl) rfl #[.slice A0 l0.length c0, .int .i64 (wrap64 ((wrap64 (Int.tmod (ji10) 33)) + (wrap64 (Int.tmod (ji11) 9))))] rfl (by (try simp only [List.map_toArray, List.map_cons, List.map_nil]); first | done | (simp only [hji10, hji11]; rfl) | rfl | (simp only [List.length_drop, List.length_take]; rfl)) ?_; (with_reducible refine (lags_Of.calls kj5 _ _ l0 (wrap64 ((wrap64 (Int.tmod (ji10) 33)) + (wrap64 (Int.tmod (ji11) 9)))) t231 _ ?side1 ?side2 A13.out).mono ?_); (case side1 => repeat (first | exact (Kd.C_below HR0.out HB.out) | (with_reducible refine Kd.C_alloc ?_ _) | (with_reducible refine Kd.C_drewN ?_ _) | (with_reducible refine Kd.C_drew ?_))); (case side2 => exact HC0.out); rintro e w36 ⟨v232, rfl, ho0, hb⟩; refine ⟨_, rfl, ?_⟩; have n0_ := Aside0.mk (Kd.R_elder' (by (with_reducible repeat (first | apply Kd.R_alloc | apply Kd.R_drewN | apply Kd.R_drew)); exact HO230.out) (Kd.R_base ho0) hb); have n1_ := Aside0.mk (Kd.R_lower (Kd.R_new' ho0 (Kd.R_lt (by (with_reducible repeat (first | apply Kd.R_alloc | apply Kd.R_drewN | apply Kd.R_drew)); exact HO230.out))) (below_size (by repeat (first | (with_reducible first | exact HB.out | apply below_alloc | apply pw_below_drewN | apply below_drew1) | exact HB.out)))); have n2_ := Aside0.mk (below_step (by repeat (first | (with_reducible first | exact HB.out | apply below_alloc | apply pw_below_drewN | apply below_drew1) | exact HB.out)) hb); clear HO230; clear HB; have HO230 := n0_; have HO233 := n1_; have HB := n2_; clear n0_ n1_ n2_; (try clear hb); (try clear hb2); (try clear hk); (try clear hi); (try clear ho0)))
          go_ret
          exact ⟨by first | rfl | (simp [errW_none, errW_some] <;> rfl) | (simp only [← hji10, ← hji11]; first | rfl | (simp [errW_none, errW_some] <;> rfl)) | (simp [*, errW_none, errW_some] <;> rfl), by repeat (first | (with_reducible first | exact HB.out | apply below_alloc | apply pw_below_drewN | apply below_drew1) | exact HB.out)⟩

/-- THE ONE PURE STATEMENT of serinettelaw09_LagsOrders: yours. -/
def serinettelaw09_LagsOrders.Pure : Prop := ∀ (l0 : List Int) (a1 : Int) (a2 : Int), l0.length ≤ maxLen → l0.length * 8 ≤ 140737488351232 → (∀ x ∈ l0, (Lit.int .i64 x).wf = true) → (Lit.int .u8 a1).wf = true → (Lit.int .u8 a2).wf = true → ∃ k, serinettelaw09_LagsOrders.f k l0 a1 a2 = some true
theorem serinettelaw09_LagsOrders.walk (P : serinettelaw09_LagsOrders.Pure) (a0 : Option Addr) (len0 cap0 : Nat) (z0 : List Int) (a1 : Int) (a2 : Int) (w : World) (w0 : (a0 = none ∧ len0 = 0 ∧ cap0 = 0 ∧ z0 = []) ∨ ∃ x, a0 = some x ∧ len0 ≤ cap0 ∧ cap0 ≤ maxLen ∧ z0.length = cap0 ∧ (∀ i, i < z0.length → w.cell? (x.add i) = some (.int .i64 (z0.getD i 0))) ∧ ∀ n ∈ z0, (Lit.int .i64 n).wf = true) (y0 : len0 * 8 ≤ 140737488351232) (w1 : (Lit.int .u8 a1).wf = true) (w2 : (Lit.int .u8 a2).wf = true) :
    Calls Try.prog 7 #[.slice a0 len0 cap0, .int .u8 a1, .int .u8 a2] w fun e w' => e = .returned (.bool true) ∧ Below w.heap.size w w' := by
  obtain ⟨l0, rfl, hr0, hm0, hw0, hc0⟩ := ReadsInt.ofRowC w0
  obtain ⟨k, h⟩ := P l0 a1 a2 hm0 y0 hw0 w1 w2
  refine (serinettelaw09_LagsOrders.calls k _ _ l0 a1 a2 true w (Kd.C_of_reads (d := (0 : Int)) (h1 := fun _ => rfl) hr0) hc0 h).mono ?_
  rintro e w' ⟨rfl, hd⟩
  exact ⟨rfl, hd⟩

end Go.Proofs.Ytafbagphbonpiaa.PA
