/- Each Go function named below comes to what the plain Lean function of its name answers, wherever that answers (rounds enough, no panic, no row too long); texts by a program of this session by way of the kit's print.py, what that does not take by hand. Condition: what is read lies in memory as each theorem says. -/
import Derived.Test.YtiojcihklmifgaaPAx0
import Derived.Test.YtiojcihklmifgaaPAx2
import Derived.Test.YtiojcihklmifgaaPAx6
namespace Go.Proofs.Ytiojcihklmifgaa.PA
open Go.RowKit Go.Proofs.YtiojcihklmifgaaW.PrintWords Go.Proofs.YtiojcihklmifgaaW.PrintLast Go.Proofs.YtiojcihklmifgaaW.PrintMore
attribute [local go_sem] max2_int min2_int max_two min_two max_three min_three max_four min_four   -- for this text's walks alone
set_option linter.unusedVariables false
set_option linter.unusedSimpArgs false

/-! ### serinettelaw07_FixedCurves: function 7 -/
mutual
def serinettelaw07_FixedCurves.l0 : Nat → Int → Int → Int → Int → Bool → Int → List Int → Int → Option (Bool)
  | 0, _, _, _, _, _, _, _, _ => none
  | k + 1, x0, x1, x2, x3, x11, x12, x13, x14 => if x14 < x12 then (if x13.length < 17592186044416 then (serinettelaw07_FixedCurves.l0 k x0 x1 x2 x3 x11 x12 (x13 ++ [wrap64 ((wrap64 ((wrap64 ((wrap64 (x0)) + (wrap64 ((wrap64 (x1)) * x14)))) + (wrap64 ((wrap64 ((wrap64 (x2)) * x14)) * x14)))) + (wrap64 ((wrap64 ((wrap64 ((wrap64 (x3)) * x14)) * x14)) * x14)))]) (wrap64 (x14 + 1))) else (none)) else ((fixed_Residual.f k x13 3).bind fun bt274 => ((fixed_Residual.f k x13 4).bind fun bt278 => (if bt274.2 = 0 then (serinettelaw07_FixedCurves.j1 k x3 x11 x12 bt274.1 bt278.1 (bt278.2 != 0)) else (serinettelaw07_FixedCurves.j1 k x3 x11 x12 bt274.1 bt278.1 true))))
def serinettelaw07_FixedCurves.j1 : Nat → Int → Bool → Int → List Int → List Int → Bool → Option (Bool)
  | 0, _, _, _, _, _, _ => none
  | k + 1, x3, x11, x12, x15, x17, x72 => if x72 = true then (some false) else (serinettelaw07_FixedCurves.l1 k x3 x11 x12 x15 x17 0)
def serinettelaw07_FixedCurves.l1 : Nat → Int → Bool → Int → List Int → List Int → Int → Option (Bool)
  | 0, _, _, _, _, _, _ => none
  | k + 1, x3, x11, x12, x15, x17, x19 => if x19 < (x15.length : Int) then (if 0 ≤ x19 then (if (rd x15 x19) = (wrap64 (6 * (wrap64 (x3)))) then (serinettelaw07_FixedCurves.l1 k x3 x11 x12 x15 x17 (wrap64 (x19 + 1))) else (some false)) else (none)) else (serinettelaw07_FixedCurves.l2 k x11 x12 x15 x17 0)
def serinettelaw07_FixedCurves.l2 : Nat → Bool → Int → List Int → List Int → Int → Option (Bool)
  | 0, _, _, _, _, _ => none
  | k + 1, x11, x12, x15, x17, x20 => if x20 < (x17.length : Int) then (if 0 ≤ x20 then (if (rd x17 x20) = 0 then (serinettelaw07_FixedCurves.l2 k x11 x12 x15 x17 (wrap64 (x20 + 1))) else (some false)) else (none)) else (if x11 = true then (if (x15.length : Int) = (wrap64 (x12 - 3)) then (some ((x17.length : Int) == (wrap64 (x12 - 4)))) else (some false)) else (some false))
end
def serinettelaw07_FixedCurves.f (k : Nat) (a0 : Int) (a1 : Int) (a2 : Int) (a3 : Int) (a4 : Int) : Option (Bool) := (serinettelaw07_awake.f k).bind fun t270 => (serinettelaw07_FixedCurves.l0 k a0 a1 a2 a3 t270 (wrap64 (5 + (wrap64 (Int.tmod a4 40)))) ([] : List Int) 0)
theorem serinettelaw07_FixedCurves.mono_l : ∀ k, (∀ y0 y1 y2 y3 y4 y5 y6 y7, LeO (serinettelaw07_FixedCurves.l0 k y0 y1 y2 y3 y4 y5 y6 y7) (serinettelaw07_FixedCurves.l0 (k + 1) y0 y1 y2 y3 y4 y5 y6 y7)) ∧ (∀ y0 y1 y2 y3 y4 y5, LeO (serinettelaw07_FixedCurves.j1 k y0 y1 y2 y3 y4 y5) (serinettelaw07_FixedCurves.j1 (k + 1) y0 y1 y2 y3 y4 y5)) ∧ (∀ y0 y1 y2 y3 y4 y5, LeO (serinettelaw07_FixedCurves.l1 k y0 y1 y2 y3 y4 y5) (serinettelaw07_FixedCurves.l1 (k + 1) y0 y1 y2 y3 y4 y5)) ∧ (∀ y0 y1 y2 y3 y4, LeO (serinettelaw07_FixedCurves.l2 k y0 y1 y2 y3 y4) (serinettelaw07_FixedCurves.l2 (k + 1) y0 y1 y2 y3 y4))
  | 0 => ⟨fun _ _ _ _ _ _ _ _ r h => by simp [serinettelaw07_FixedCurves.l0] at h, fun _ _ _ _ _ _ r h => by simp [serinettelaw07_FixedCurves.j1] at h, fun _ _ _ _ _ _ r h => by simp [serinettelaw07_FixedCurves.l1] at h, fun _ _ _ _ _ r h => by simp [serinettelaw07_FixedCurves.l2] at h⟩
  | k + 1 => by
    obtain ⟨ih0, ih1, ih2, ih3⟩ := serinettelaw07_FixedCurves.mono_l k
    refine ⟨?_, ?_, ?_, ?_⟩
    · intro y0 y1 y2 y3 y4 y5 y6 y7
      unfold serinettelaw07_FixedCurves.l0
      repeat' first
      | (with_reducible exact ih0 _ _ _ _ _ _ _ _)
      | (with_reducible exact ih1 _ _ _ _ _ _)
      | (with_reducible exact ih2 _ _ _ _ _ _)
      | (with_reducible exact ih3 _ _ _ _ _)
      | (with_reducible exact fixed_Residual.mono _ _ _)
      | (with_reducible exact serinettelaw07_awake.mono _)
      | (with_reducible exact LeO.refl _)
      | (with_reducible exact LeO.none _)
      | (with_reducible refine LeO.ite ?_ ?_)
      | (with_reducible refine LeO.bind ?_ (fun _ => ?_))
      | exact ih0 _ _ _ _ _ _ _ _
      | exact ih1 _ _ _ _ _ _
      | exact ih2 _ _ _ _ _ _
      | exact ih3 _ _ _ _ _
      | exact fixed_Residual.mono _ _ _
      | exact serinettelaw07_awake.mono _
      | exact LeO.none _
      | refine LeO.ite ?_ ?_
      | refine LeO.bind ?_ (fun _ => ?_)
    · intro y0 y1 y2 y3 y4 y5
      unfold serinettelaw07_FixedCurves.j1
      repeat' first
      | (with_reducible exact ih0 _ _ _ _ _ _ _ _)
      | (with_reducible exact ih1 _ _ _ _ _ _)
      | (with_reducible exact ih2 _ _ _ _ _ _)
      | (with_reducible exact ih3 _ _ _ _ _)
      | (with_reducible exact fixed_Residual.mono _ _ _)
      | (with_reducible exact serinettelaw07_awake.mono _)
      | (with_reducible exact LeO.refl _)
      | (with_reducible exact LeO.none _)
      | (with_reducible refine LeO.ite ?_ ?_)
      | (with_reducible refine LeO.bind ?_ (fun _ => ?_))
      | exact ih0 _ _ _ _ _ _ _ _
      | exact ih1 _ _ _ _ _ _
      | exact ih2 _ _ _ _ _ _
      | exact ih3 _ _ _ _ _
      | exact fixed_Residual.mono _ _ _
      | exact serinettelaw07_awake.mono _
      | exact LeO.none _
      | refine LeO.ite ?_ ?_
      | refine LeO.bind ?_ (fun _ => ?_)
    · intro y0 y1 y2 y3 y4 y5
      unfold serinettelaw07_FixedCurves.l1
      repeat' first
      | (with_reducible exact ih0 _ _ _ _ _ _ _ _)
      | (with_reducible exact ih1 _ _ _ _ _ _)
      | (with_reducible exact ih2 _ _ _ _ _ _)
      | (with_reducible exact ih3 _ _ _ _ _)
      | (with_reducible exact fixed_Residual.mono _ _ _)
      | (with_reducible exact serinettelaw07_awake.mono _)
      | (with_reducible exact LeO.refl _)
      | (with_reducible exact LeO.none _)
      | (with_reducible refine LeO.ite ?_ ?_)
      | (with_reducible refine LeO.bind ?_ (fun _ => ?_))
      | exact ih0 _ _ _ _ _ _ _ _
      | exact ih1 _ _ _ _ _ _
      | exact ih2 _ _ _ _ _ _
      | exact ih3 _ _ _ _ _
      | exact fixed_Residual.mono _ _ _
      | exact serinettelaw07_awake.mono _
      | exact LeO.none _
      | refine LeO.ite ?_ ?_
      | refine LeO.bind ?_ (fun _ => ?_)
    · intro y0 y1 y2 y3 y4
      unfold serinettelaw07_FixedCurves.l2
      repeat' first
      | (with_reducible exact ih0 _ _ _ _ _ _ _ _)
      | (with_reducible exact ih1 _ _ _ _ _ _)
      | (with_reducible exact ih2 _ _ _ _ _ _)
      | (with_reducible exact ih3 _ _ _ _ _)
      | (with_reducible exact fixed_Residual.mono _ _ _)
      | (with_reducible exact serinettelaw07_awake.mono _)
      | (with_reducible exact LeO.refl _)
      | (with_reducible exact LeO.none _)
      | (with_reducible refine LeO.ite ?_ ?_)
      | (with_reducible refine LeO.bind ?_ (fun _ => ?_))
      | exact ih0 _ _ _ _ _ _ _ _
      | exact ih1 _ _ _ _ _ _
      | exact ih2 _ _ _ _ _ _
      | exact ih3 _ _ _ _ _
      | exact fixed_Residual.mono _ _ _
      | exact serinettelaw07_awake.mono _
      | exact LeO.none _
      | refine LeO.ite ?_ ?_
      | refine LeO.bind ?_ (fun _ => ?_)
theorem serinettelaw07_FixedCurves.mono : ∀ a0 a1 a2 a3 a4 k, LeO (serinettelaw07_FixedCurves.f k a0 a1 a2 a3 a4) (serinettelaw07_FixedCurves.f (k + 1) a0 a1 a2 a3 a4) := by
  intro a0 a1 a2 a3 a4 k
  obtain ⟨ih0, ih1, ih2, ih3⟩ := serinettelaw07_FixedCurves.mono_l k
  unfold serinettelaw07_FixedCurves.f
  repeat' first
      | (with_reducible exact ih0 _ _ _ _ _ _ _ _)
      | (with_reducible exact ih1 _ _ _ _ _ _)
      | (with_reducible exact ih2 _ _ _ _ _ _)
      | (with_reducible exact ih3 _ _ _ _ _)
      | (with_reducible exact fixed_Residual.mono _ _ _)
      | (with_reducible exact serinettelaw07_awake.mono _)
      | (with_reducible exact LeO.refl _)
      | (with_reducible exact LeO.none _)
      | (with_reducible refine LeO.ite ?_ ?_)
      | (with_reducible refine LeO.bind ?_ (fun _ => ?_))
      | exact ih0 _ _ _ _ _ _ _ _
      | exact ih1 _ _ _ _ _ _
      | exact ih2 _ _ _ _ _ _
      | exact ih3 _ _ _ _ _
      | exact fixed_Residual.mono _ _ _
      | exact serinettelaw07_awake.mono _
      | exact LeO.none _
      | refine LeO.ite ?_ ?_
      | refine LeO.bind ?_ (fun _ => ?_)
set_option maxHeartbeats 8000000 in
set_option maxRecDepth 100000 in
theorem serinettelaw07_FixedCurves.calls (k : Nat) (a0 : Int) (a1 : Int) (a2 : Int) (a3 : Int) (a4 : Int) (r : Bool) (w : World) (h : serinettelaw07_FixedCurves.f k a0 a1 a2 a3 a4 = some r) :
    Calls Try.prog 7 #[.int .i16 a0, .int .i16 a1, .int .i16 a2, .int .i16 a3, .int .u8 a4] w fun e w' => e = .returned (.bool r) ∧ Below w.heap.size w w' := by
  have HB := Aside0.mk (Below.refl w.heap.size w)
  have H : ((serinettelaw07_awake.f k).bind fun t270 => (serinettelaw07_FixedCurves.l0 k a0 a1 a2 a3 t270 (wrap64 (5 + (wrap64 (Int.tmod a4 40)))) ([] : List Int) 0)) = some r := h
  clear h
  replace H := Option.bind_eq_some_iff.mp H
  obtain ⟨t270, A60, H⟩ := H
  replace H : (serinettelaw07_FixedCurves.l0 k a0 a1 a2 a3 t270 (wrap64 (5 + (wrap64 (Int.tmod a4 40)))) ([] : List Int) 0) = some r := H
  have A6 := Aside0.mk A60
  clear A60
  have H' := Aside0.mk H
  clear H
  go_enter Try.func7, Try.ntmps7
  go_wp2_with (first | ((with_reducible refine gate_callee (f := 9) rfl ?_); refine goesL_ (some 21) rfl rfl Try.func9 (by kernel_rfl) rfl #[] rfl (by (try simp only [List.map_toArray, List.map_cons, List.map_nil]); first | done | rfl | (simp only [List.length_drop, List.length_take]; rfl)) ?_; (with_reducible refine (serinettelaw07_awake.calls k  t270 _ A6.out).mono ?_); rintro e w7 ⟨rfl, hb⟩; refine ⟨_, rfl, ?_⟩; have n0_ := Aside0.mk (below_step (by repeat (first | (with_reducible first | exact HB.out | apply below_alloc | apply pw_below_drewN | apply below_drew1) | exact HB.out)) hb); clear HB; have HB := n0_; clear n0_; (try clear hb); (try clear hb2); (try clear hk); (try clear hi)))
  go_loopg [13, 14] k (fun kq v13 v14 w' => ∃ (x13_1 : List Int) (x14_1 : Int), v14 = .int .i64 x14_1 ∧ Aside0 (serinettelaw07_FixedCurves.l0 kq a0 a1 a2 a3 t270 (wrap64 (5 + (wrap64 (Int.tmod a4 40)))) x13_1 x14_1 = some r) ∧ Aside0 (kq ≤ k) ∧ Aside0 (Kd.R (Kd.int .i64) 3 w' w.heap.size (fun _ => True) v13 x13_1) ∧ Aside0 (Below w.heap.size w w'))
  case atStart => exact ⟨(([] : List Int)), (0), (by first | rfl | (simp; done) | (simp [*]; done)), H', ⟨Nat.le_refl _⟩, ⟨by first | exact Kd.R_nil _ _ _ _ _ | exact Kd.N_nil _ _ _ _ _ | exact Kd.V_nil _ _ _ _ _ | exact Kd.Q_nil _ _ _ _ _ | exact Kd.S_nil _ _ _ _ _⟩, ⟨by repeat (first | (with_reducible first | exact HB.out | apply below_alloc | apply pw_below_drewN | apply below_drew1) | exact HB.out)⟩⟩
  case round =>
    clear H'
    try clear p2
    try clear p6
    try clear c7
    obtain ⟨x13_1, x14_1, rfl, HA, HK1, HO_13, HB⟩ := hrel
    cases gk with
    | zero => exact absurd HA.out (by simp [serinettelaw07_FixedCurves.l0])
    | succ k1 =>
      have H := HA.out
      clear HA
      simp only [serinettelaw07_FixedCurves.l0] at H
      by_cases c8 : x14_1 < (wrap64 (5 + (wrap64 (Int.tmod a4 40))))
      · rw [if_pos c8] at H
        have c8b0 : decide (x14_1 < (wrap64 (5 + (wrap64 (Int.tmod a4 40))))) = true := decide_eq_true c8
        clear c8
        by_cases c9 : x13_1.length < 17592186044416
        · rw [if_pos c9] at H
          have LMc9 := Aside0.mk c9
          clear c9
          obtain ⟨y271, hy271⟩ : ∃ y_ : List Int, y_ = (x13_1 ++ [wrap64 ((wrap64 ((wrap64 ((wrap64 (a0)) + (wrap64 ((wrap64 (a1)) * x14_1)))) + (wrap64 ((wrap64 ((wrap64 (a2)) * x14_1)) * x14_1)))) + (wrap64 ((wrap64 ((wrap64 ((wrap64 (a3)) * x14_1)) * x14_1)) * x14_1)))]) := ⟨_, rfl⟩
          replace H : (serinettelaw07_FixedCurves.l0 k1 a0 a1 a2 a3 t270 (wrap64 (5 + (wrap64 (Int.tmod a4 40)))) y271 (wrap64 (x14_1 + 1))) = some r := by first | (rw [hy271]; with_reducible exact H) | (have H2_ := (Option.bind_some _ _).symm.trans H; rw [hy271]; with_reducible exact H2_) | (have H2_ := (Option.bind_some _ _).symm.trans H; with_reducible exact H2_) | with_reducible exact H | (rw [hy271]; exact H) | exact H
          have Ny271 := Aside0.mk hy271
          clear hy271
          have H' := Aside0.mk H
          clear H
          go_wp2_with (first | ((with_reducible refine gate_builtin (b := .append) (xs := #[.tmp 31, .tmp 55]) rfl ?_); (try (refine gate_guard (by rfl) ?_; dsimp only)); at_builtin; refine Kd.R_append (Kd.int .i64) (w0 := w) w.heap.size rfl (.tmp 31) (.tmp 55) 22 3 (.int .i64 0) 8 rfl Try.underlying22 info3 rfl (by decide) (by omega) u13 x13_1 (wrap64 ((wrap64 ((wrap64 ((wrap64 (a0)) + (wrap64 ((wrap64 (a1)) * x14_1)))) + (wrap64 ((wrap64 ((wrap64 (a2)) * x14_1)) * x14_1)))) + (wrap64 ((wrap64 ((wrap64 ((wrap64 (a3)) * x14_1)) * x14_1)) * x14_1)))) [.int .i64 (wrap64 ((wrap64 ((wrap64 ((wrap64 (a0)) + (wrap64 ((wrap64 (a1)) * x14_1)))) + (wrap64 ((wrap64 ((wrap64 (a2)) * x14_1)) * x14_1)))) + (wrap64 ((wrap64 ((wrap64 ((wrap64 (a3)) * x14_1)) * x14_1)) * x14_1))))] (fun _ => True) (fun _ => False) rfl rfl ?aP (fun _ hk => hk.elim) ?aF ?aO ?aB ?aS ?aL ?_; (case aP => exact rfl); (case aB => exact (by repeat (first | (with_reducible first | exact HB.out | apply below_alloc | apply pw_below_drewN | apply below_drew1) | exact HB.out))); (case aF => exact (fun _ _ => trivial)); (case aO => exact (by (with_reducible repeat (first | apply Kd.R_alloc | apply Kd.R_drewN | apply Kd.R_drew)); exact HO_13.out)); (case aS => exact (below_size (by repeat (first | (with_reducible first | exact HB.out | apply below_alloc | apply pw_below_drewN | apply below_drew1) | exact HB.out)))); (case aL => have := LMc9.out; omega); intro v272 w10 ho hb hg hat; rw [← Ny271.out] at ho; have n0_ := Aside0.mk (hb); have n1_ := Aside0.mk (ho); clear HB; clear HO_13; have HB := n0_; have HO273 := n1_; clear n0_ n1_; clear ho hb hg hat))
          go_roundg k1
          case measure => have := HK1.out; omega
          case rel => exact ⟨(y271), (wrap64 (x14_1 + 1)), (by first | rfl | (simp; done) | (simp [*]; done)), H', ⟨by have := HK1.out; omega⟩, ⟨by (with_reducible repeat (first | apply Kd.R_alloc | apply Kd.R_drewN | apply Kd.R_drew)); exact HO273.out⟩, ⟨by repeat (first | (with_reducible first | exact HB.out | apply below_alloc | apply pw_below_drewN | apply below_drew1) | exact HB.out)⟩⟩
        · rw [if_neg c9] at H
          exact absurd H (by simp)
      · rw [if_neg c8] at H
        have c8b0 : decide (x14_1 < (wrap64 (5 + (wrap64 (Int.tmod a4 40))))) = false := decide_eq_false c8
        clear c8
        replace H := Option.bind_eq_some_iff.mp H
        obtain ⟨⟨t274, t275⟩, A110, H⟩ := H
        replace H : ((fixed_Residual.f k1 x13_1 4).bind fun bt278 => (if t275 = 0 then (serinettelaw07_FixedCurves.j1 k1 a3 t270 (wrap64 (5 + (wrap64 (Int.tmod a4 40)))) t274 bt278.1 (bt278.2 != 0)) else (serinettelaw07_FixedCurves.j1 k1 a3 t270 (wrap64 (5 + (wrap64 (Int.tmod a4 40)))) t274 bt278.1 true))) = some r := H
        have A11 := Aside0.mk A110
        clear A110
        replace H := Option.bind_eq_some_iff.mp H
        obtain ⟨⟨t278, t279⟩, A120, H⟩ := H
        replace H : (if t275 = 0 then (serinettelaw07_FixedCurves.j1 k1 a3 t270 (wrap64 (5 + (wrap64 (Int.tmod a4 40)))) t274 t278 (t279 != 0)) else (serinettelaw07_FixedCurves.j1 k1 a3 t270 (wrap64 (5 + (wrap64 (Int.tmod a4 40)))) t274 t278 true)) = some r := H
        have A12 := Aside0.mk A120
        clear A120
        have HC13 := Aside0.mk H
        clear H
        obtain ⟨Ao14, co14, eo14⟩ := Kd.R_slice HO_13.out
        subst eo14
        go_upto_region 10 with (first | ((with_reducible refine gate_callee (f := 11) rfl ?_); refine goesL_ (some 59) rfl rfl Try.func11 (by kernel_rfl) rfl #[.slice Ao14 x13_1.length co14, .int .i64 3] rfl (by (try simp only [List.map_toArray, List.map_cons, List.map_nil]); first | done | rfl | (simp only [List.length_drop, List.length_take]; rfl)) ?_; (with_reducible refine (fixed_Residual.calls k1 _ _ x13_1 3 t274 t275 _ ?side1 ?side2 A11.out).mono ?_); (case side1 => repeat (first | exact (Kd.R_reads' HO_13.out).2.2 | (with_reducible refine Kd.C_alloc ?_ _) | (with_reducible refine Kd.C_drewN ?_ _) | (with_reducible refine Kd.C_drew ?_))); (case side2 => exact (Kd.R_reads' HO_13.out).2.1); rintro e w15 ⟨v276, rfl, ho0, hb⟩; refine ⟨_, rfl, ?_⟩; have n0_ := Aside0.mk (Kd.R_elder' (by (with_reducible repeat (first | apply Kd.R_alloc | apply Kd.R_drewN | apply Kd.R_drew)); exact HO_13.out) (Kd.R_base ho0) hb); have n1_ := Aside0.mk (Kd.R_lower (Kd.R_new' ho0 (Kd.R_lt (by (with_reducible repeat (first | apply Kd.R_alloc | apply Kd.R_drewN | apply Kd.R_drew)); exact HO_13.out))) (below_size (by repeat (first | (with_reducible first | exact HB.out | apply below_alloc | apply pw_below_drewN | apply below_drew1) | exact HB.out)))); have n2_ := Aside0.mk (below_step (by repeat (first | (with_reducible first | exact HB.out | apply below_alloc | apply pw_below_drewN | apply below_drew1) | exact HB.out)) hb); clear HO_13; clear HB; have HO_13 := n0_; have HO277 := n1_; have HB := n2_; clear n0_ n1_ n2_; (try clear hb); (try clear hb2); (try clear hk); (try clear hi); (try clear ho0)) | ((with_reducible refine gate_callee (f := 11) rfl ?_); refine goesL_ (some 64) rfl rfl Try.func11 (by kernel_rfl) rfl #[.slice Ao14 x13_1.length co14, .int .i64 4] rfl (by (try simp only [List.map_toArray, List.map_cons, List.map_nil]); first | done | rfl | (simp only [List.length_drop, List.length_take]; rfl)) ?_; (with_reducible refine (fixed_Residual.calls k1 _ _ x13_1 4 t278 t279 _ ?side1 ?side2 A12.out).mono ?_); (case side1 => repeat (first | exact (Kd.R_reads' HO_13.out).2.2 | (with_reducible refine Kd.C_alloc ?_ _) | (with_reducible refine Kd.C_drewN ?_ _) | (with_reducible refine Kd.C_drew ?_))); (case side2 => exact (Kd.R_reads' HO_13.out).2.1); rintro e w16 ⟨v280, rfl, ho0, hb⟩; refine ⟨_, rfl, ?_⟩; have n0_ := Aside0.mk (Kd.R_elder' (by (with_reducible repeat (first | apply Kd.R_alloc | apply Kd.R_drewN | apply Kd.R_drew)); exact HO_13.out) (Kd.R_base ho0) hb); have n1_ := Aside0.mk (Kd.R_elder' (by (with_reducible repeat (first | apply Kd.R_alloc | apply Kd.R_drewN | apply Kd.R_drew)); exact HO277.out) (Kd.R_base ho0) hb); have n2_ := Aside0.mk (Kd.R_lower (Kd.R_new' (Kd.R_new' ho0 (Kd.R_lt (by (with_reducible repeat (first | apply Kd.R_alloc | apply Kd.R_drewN | apply Kd.R_drew)); exact HO_13.out))) (Kd.R_lt (by (with_reducible repeat (first | apply Kd.R_alloc | apply Kd.R_drewN | apply Kd.R_drew)); exact HO277.out))) (below_size (by repeat (first | (with_reducible first | exact HB.out | apply below_alloc | apply pw_below_drewN | apply below_drew1) | exact HB.out)))); have n3_ := Aside0.mk (below_step (by repeat (first | (with_reducible first | exact HB.out | apply below_alloc | apply pw_below_drewN | apply below_drew1) | exact HB.out)) hb); clear HO_13; clear HO277; clear HB; have HO_13 := n0_; have HO277 := n1_; have HO281 := n2_; have HB := n3_; clear n0_ n1_ n2_ n3_; (try clear hb); (try clear hb2); (try clear hk); (try clear hi); (try clear ho0)))
        (try simp only [Act.put, List.setIfInBounds_toArray, List.set_cons_zero, List.set_cons_succ])
        go_cut [72] (fun v72 wc => ∃ (kq : Nat) (x72_12 : Bool), v72 = .bool x72_12 ∧ Aside0 (serinettelaw07_FixedCurves.j1 kq a3 t270 (wrap64 (5 + (wrap64 (Int.tmod a4 40)))) t274 t278 x72_12 = some r) ∧ Aside0 (kq ≤ k1) ∧ Aside0 (Kd.R (Kd.int .i64) 3 wc w.heap.size (fun k_ => some k_ ≠ (v280 : Value).ownBlock) v276 t274) ∧ Aside0 (Kd.R (Kd.int .i64) 3 wc w.heap.size (fun k_ => some k_ ≠ (v276 : Value).ownBlock) v280 t278) ∧ Aside0 (Below w.heap.size w wc))
        case first =>
          have H := HC13.out
          clear HC13
          by_cases c17 : t275 = 0
          · rw [if_pos c17] at H
            have c17b0 : (t275 == 0) = true := beq_iff_eq.mpr c17
            have c17b1 : (t275 != 0) = false := bne_eq_false_iff_eq.mpr c17
            clear c17
            (first | rw [c17b0] | (simp only [i64_w, i32_w]; rw [c17b0]) | skip)
            have H' := Aside0.mk H
            clear H
            go_wp2
            go_meet
            case rel => exact ⟨_, ((t279 != 0)), (by first | rfl | (simp; done) | (simp [*]; done)), H', ⟨by have := HK1.out; first | omega | exact Nat.le_refl _⟩, ⟨by (with_reducible repeat (first | apply Kd.R_alloc | apply Kd.R_drewN | apply Kd.R_drew)); exact Kd.R_mono HO277.out (fun _ hk => hk.2)⟩, ⟨by (with_reducible repeat (first | apply Kd.R_alloc | apply Kd.R_drewN | apply Kd.R_drew)); exact Kd.R_mono HO281.out (fun _ hk => hk.2)⟩, ⟨by repeat (first | (with_reducible first | exact HB.out | apply below_alloc | apply pw_below_drewN | apply below_drew1) | exact HB.out)⟩⟩
          · rw [if_neg c17] at H
            have c17b0 : (t275 == 0) = false := beq_eq_false_iff_ne.mpr c17
            have c17b1 : (t275 != 0) = true := bne_iff_ne.mpr c17
            (first | rw [c17b0] | (simp only [i64_w, i32_w]; rw [c17b0]) | skip)
            have H' := Aside0.mk H
            clear H
            go_wp2
            go_meet
            case rel => exact ⟨_, (true), (by first | rfl | (simp; done) | (simp [*]; done)), H', ⟨by have := HK1.out; first | omega | exact Nat.le_refl _⟩, ⟨by (with_reducible repeat (first | apply Kd.R_alloc | apply Kd.R_drewN | apply Kd.R_drew)); exact Kd.R_mono HO277.out (fun _ hk => hk.2)⟩, ⟨by (with_reducible repeat (first | apply Kd.R_alloc | apply Kd.R_drewN | apply Kd.R_drew)); exact Kd.R_mono HO281.out (fun _ hk => hk.2)⟩, ⟨by repeat (first | (with_reducible first | exact HB.out | apply below_alloc | apply pw_below_drewN | apply below_drew1) | exact HB.out)⟩⟩
        case rest =>
          clear HC13
          try clear c1
          try clear p2
          try clear p6
          try clear c7
          try clear c8
          try clear c8b0
          try clear c9
          try clear c11
          try clear c17
          try clear c17b0
          try clear c17b1
          try clear p2
          try clear p6
          obtain ⟨kq, x72_12, rfl, HA, HJ12, HO_15, HO_17, HB⟩ := hcut
          cases kq with
          | zero => exact absurd HA.out (by simp [serinettelaw07_FixedCurves.j1])
          | succ kj12 =>
            have H := HA.out
            clear HA
            simp only [serinettelaw07_FixedCurves.j1] at H
            by_cases c18 : x72_12 = true
            · subst c18
              have H1 : (some false) = some r := by rw [if_pos rfl] at H; exact H
              clear H
              have H := H1
              clear H1
              obtain rfl := Option.some.inj H
              go_wp2
              go_ret
              exact ⟨by first | rfl | (simp [errW_none, errW_some] <;> rfl) | (simp [*, errW_none, errW_some] <;> rfl), by repeat (first | (with_reducible first | exact HB.out | apply below_alloc | apply pw_below_drewN | apply below_drew1) | exact HB.out)⟩
            · replace c18 := Bool.eq_false_iff.mpr c18
              subst c18
              have H1 : (serinettelaw07_FixedCurves.l1 kj12 a3 t270 (wrap64 (5 + (wrap64 (Int.tmod a4 40)))) t274 t278 0) = some r := by rw [if_neg (show ¬ (false = true) by decide)] at H; exact H
              clear H
              have H := H1
              clear H1
              have H' := Aside0.mk H
              clear H
              go_wp2
              go_loopg [19] kj12 (fun kq v19 w' => ∃ (x19_3 : Int), v19 = .int .i64 x19_3 ∧ Aside0 (serinettelaw07_FixedCurves.l1 kq a3 t270 (wrap64 (5 + (wrap64 (Int.tmod a4 40)))) t274 t278 x19_3 = some r) ∧ Aside0 (kq ≤ kj12) ∧ Aside0 (Kd.R (Kd.int .i64) 3 w' w.heap.size (fun k_ => some k_ ≠ (v280 : Value).ownBlock) v276 t274) ∧ Aside0 (Kd.R (Kd.int .i64) 3 w' w.heap.size (fun k_ => some k_ ≠ (v276 : Value).ownBlock) v280 t278) ∧ Aside0 (Below w.heap.size w w'))
              case atStart => exact ⟨(0), (by first | rfl | (simp; done) | (simp [*]; done)), H', ⟨Nat.le_refl _⟩, ⟨by (with_reducible repeat (first | apply Kd.R_alloc | apply Kd.R_drewN | apply Kd.R_drew)); exact HO_15.out⟩, ⟨by (with_reducible repeat (first | apply Kd.R_alloc | apply Kd.R_drewN | apply Kd.R_drew)); exact HO_17.out⟩, ⟨by repeat (first | (with_reducible first | exact HB.out | apply below_alloc | apply pw_below_drewN | apply below_drew1) | exact HB.out)⟩⟩
              case round =>
                clear H'
                try clear c1
                try clear p2
                try clear p6
                try clear c7
                try clear c8
                try clear c8b0
                try clear c9
                try clear c11
                try clear c17
                try clear c17b0
                try clear c17b1
                try clear c18
                try clear p2
                try clear p6
                obtain ⟨x19_3, rfl, HA, HK3, HO_15, HO_17, HB⟩ := hrel
                cases gk with
                | zero => exact absurd HA.out (by simp [serinettelaw07_FixedCurves.l1])
                | succ k3 =>
                  have H := HA.out
                  clear HA
                  simp only [serinettelaw07_FixedCurves.l1] at H
                  by_cases c19 : x19_3 < (t274.length : Int)
                  · rw [if_pos c19] at H
                    have c19b0 : decide (x19_3 < (t274.length : Int)) = true := decide_eq_true c19
                    clear c19
                    by_cases c20 : 0 ≤ x19_3
                    · rw [if_pos c20] at H
                      have c20b0 : decide (0 ≤ x19_3) = true := decide_eq_true c20
                      clear c20
                      by_cases c21 : (rd t274 x19_3) = (wrap64 (6 * (wrap64 (a3))))
                      · rw [if_pos c21] at H
                        have c21b0 : ((rd t274 x19_3) == (wrap64 (6 * (wrap64 (a3))))) = true := beq_iff_eq.mpr c21
                        have c21b1 : ((rd t274 x19_3) != (wrap64 (6 * (wrap64 (a3))))) = false := bne_eq_false_iff_eq.mpr c21
                        clear c21
                        have H' := Aside0.mk H
                        clear H
                        obtain ⟨Ao22, co22, eo22⟩ := Kd.R_slice HO_15.out
                        subst eo22
                        have p282 : 0 ≤ (x19_3 : Int) := of_decide_eq_true (by first | (with_reducible assumption) | assumption)
                        have q282 : x19_3 < (t274.length : Int) := of_decide_eq_true (by first | (with_reducible assumption) | assumption)
                        obtain ⟨ad282, e282, hx282_0⟩ := Kd.at_int (Kd.R_reads' HO_15.out).2.2 x19_3 p282 q282
                        cases e282
                        replace p282 := eq_true p282
                        replace q282 := eq_true q282
                        go_wp2
                        go_roundg k3
                        case measure => have := HK1.out; have := HJ12.out; have := HK3.out; omega
                        case rel => exact ⟨(wrap64 (x19_3 + 1)), (by first | rfl | (simp; done) | (simp [*]; done)), H', ⟨by have := HK1.out; have := HJ12.out; have := HK3.out; omega⟩, ⟨by (with_reducible repeat (first | apply Kd.R_alloc | apply Kd.R_drewN | apply Kd.R_drew)); exact HO_15.out⟩, ⟨by (with_reducible repeat (first | apply Kd.R_alloc | apply Kd.R_drewN | apply Kd.R_drew)); exact HO_17.out⟩, ⟨by repeat (first | (with_reducible first | exact HB.out | apply below_alloc | apply pw_below_drewN | apply below_drew1) | exact HB.out)⟩⟩
                      · rw [if_neg c21] at H
                        have c21b0 : ((rd t274 x19_3) == (wrap64 (6 * (wrap64 (a3))))) = false := beq_eq_false_iff_ne.mpr c21
                        have c21b1 : ((rd t274 x19_3) != (wrap64 (6 * (wrap64 (a3))))) = true := bne_iff_ne.mpr c21
                        obtain rfl := Option.some.inj H
                        obtain ⟨Ao23, co23, eo23⟩ := Kd.R_slice HO_15.out
                        subst eo23
                        have p282 : 0 ≤ (x19_3 : Int) := of_decide_eq_true (by first | (with_reducible assumption) | assumption)
                        have q282 : x19_3 < (t274.length : Int) := of_decide_eq_true (by first | (with_reducible assumption) | assumption)
                        obtain ⟨ad282, e282, hx282_0⟩ := Kd.at_int (Kd.R_reads' HO_15.out).2.2 x19_3 p282 q282
                        cases e282
                        replace p282 := eq_true p282
                        replace q282 := eq_true q282
                        go_wp2
                        go_ret
                        exact ⟨by first | rfl | (simp [errW_none, errW_some] <;> rfl) | (simp [*, errW_none, errW_some] <;> rfl), by repeat (first | (with_reducible first | exact HB.out | apply below_alloc | apply pw_below_drewN | apply below_drew1) | exact HB.out)⟩
                    · rw [if_neg c20] at H
                      exact absurd H (by simp)
                  · rw [if_neg c19] at H
                    have c19b0 : decide (x19_3 < (t274.length : Int)) = false := decide_eq_false c19
                    clear c19
                    have H' := Aside0.mk H
                    clear H
                    obtain ⟨Ao24, co24, eo24⟩ := Kd.R_slice HO_15.out
                    subst eo24
                    go_wp2
                    go_loopg [20] k3 (fun kq v20 w' => ∃ (x20_4 : Int), v20 = .int .i64 x20_4 ∧ Aside0 (serinettelaw07_FixedCurves.l2 kq t270 (wrap64 (5 + (wrap64 (Int.tmod a4 40)))) t274 t278 x20_4 = some r) ∧ Aside0 (kq ≤ k3) ∧ Aside0 (Kd.R (Kd.int .i64) 3 w' w.heap.size (fun k_ => some k_ ≠ (v280 : Value).ownBlock) (.slice Ao24 t274.length co24) t274) ∧ Aside0 (Kd.R (Kd.int .i64) 3 w' w.heap.size (fun k_ => some k_ ≠ ((.slice Ao24 t274.length co24) : Value).ownBlock) v280 t278) ∧ Aside0 (Below w.heap.size w w'))
                    case atStart => exact ⟨(0), (by first | rfl | (simp; done) | (simp [*]; done)), H', ⟨Nat.le_refl _⟩, ⟨by (with_reducible repeat (first | apply Kd.R_alloc | apply Kd.R_drewN | apply Kd.R_drew)); exact HO_15.out⟩, ⟨by (with_reducible repeat (first | apply Kd.R_alloc | apply Kd.R_drewN | apply Kd.R_drew)); exact HO_17.out⟩, ⟨by repeat (first | (with_reducible first | exact HB.out | apply below_alloc | apply pw_below_drewN | apply below_drew1) | exact HB.out)⟩⟩
                    case round =>
                      clear H'
                      try clear c1
                      try clear c2
                      try clear p2
                      try clear q2
                      try clear hx2
                      try clear p6
                      try clear c7
                      try clear c8
                      try clear c8b0
                      try clear c9
                      try clear c11
                      try clear c17
                      try clear c17b0
                      try clear c17b1
                      try clear c18
                      try clear c19
                      try clear c19b0
                      try clear c20
                      try clear c20b0
                      try clear c21
                      try clear c21b0
                      try clear c21b1
                      try clear hx282_0
                      try clear p2
                      try clear p282
                      try clear p6
                      try clear q282
                      obtain ⟨x20_4, rfl, HA, HK4, HO_15, HO_17, HB⟩ := hrel
                      cases gk with
                      | zero => exact absurd HA.out (by simp [serinettelaw07_FixedCurves.l2])
                      | succ k4 =>
                        have H := HA.out
                        clear HA
                        simp only [serinettelaw07_FixedCurves.l2] at H
                        by_cases c25 : x20_4 < (t278.length : Int)
                        · rw [if_pos c25] at H
                          have c25b0 : decide (x20_4 < (t278.length : Int)) = true := decide_eq_true c25
                          clear c25
                          by_cases c26 : 0 ≤ x20_4
                          · rw [if_pos c26] at H
                            have c26b0 : decide (0 ≤ x20_4) = true := decide_eq_true c26
                            clear c26
                            by_cases c27 : (rd t278 x20_4) = 0
                            · rw [if_pos c27] at H
                              have c27b0 : ((rd t278 x20_4) == 0) = true := beq_iff_eq.mpr c27
                              have c27b1 : ((rd t278 x20_4) != 0) = false := bne_eq_false_iff_eq.mpr c27
                              clear c27
                              have H' := Aside0.mk H
                              clear H
                              obtain ⟨Ao28, co28, eo28⟩ := Kd.R_slice HO_17.out
                              subst eo28
                              have p283 : 0 ≤ (x20_4 : Int) := of_decide_eq_true (by first | (with_reducible assumption) | assumption)
                              have q283 : x20_4 < (t278.length : Int) := of_decide_eq_true (by first | (with_reducible assumption) | assumption)
                              obtain ⟨ad283, e283, hx283_0⟩ := Kd.at_int (Kd.R_reads' HO_17.out).2.2 x20_4 p283 q283
                              cases e283
                              replace p283 := eq_true p283
                              replace q283 := eq_true q283
                              go_wp2
                              go_roundg k4
                              case measure => have := HK1.out; have := HJ12.out; have := HK3.out; have := HK4.out; omega
                              case rel => exact ⟨(wrap64 (x20_4 + 1)), (by first | rfl | (simp; done) | (simp [*]; done)), H', ⟨by have := HK1.out; have := HJ12.out; have := HK3.out; have := HK4.out; omega⟩, ⟨by (with_reducible repeat (first | apply Kd.R_alloc | apply Kd.R_drewN | apply Kd.R_drew)); exact HO_15.out⟩, ⟨by (with_reducible repeat (first | apply Kd.R_alloc | apply Kd.R_drewN | apply Kd.R_drew)); exact HO_17.out⟩, ⟨by repeat (first | (with_reducible first | exact HB.out | apply below_alloc | apply pw_below_drewN | apply below_drew1) | exact HB.out)⟩⟩
                            · rw [if_neg c27] at H
                              have c27b0 : ((rd t278 x20_4) == 0) = false := beq_eq_false_iff_ne.mpr c27
                              have c27b1 : ((rd t278 x20_4) != 0) = true := bne_iff_ne.mpr c27
                              obtain rfl := Option.some.inj H
                              obtain ⟨Ao29, co29, eo29⟩ := Kd.R_slice HO_17.out
                              subst eo29
                              have p283 : 0 ≤ (x20_4 : Int) := of_decide_eq_true (by first | (with_reducible assumption) | assumption)
                              have q283 : x20_4 < (t278.length : Int) := of_decide_eq_true (by first | (with_reducible assumption) | assumption)
                              obtain ⟨ad283, e283, hx283_0⟩ := Kd.at_int (Kd.R_reads' HO_17.out).2.2 x20_4 p283 q283
                              cases e283
                              replace p283 := eq_true p283
                              replace q283 := eq_true q283
                              go_wp2
                              go_ret
                              exact ⟨by first | rfl | (simp [errW_none, errW_some] <;> rfl) | (simp [*, errW_none, errW_some] <;> rfl), by repeat (first | (with_reducible first | exact HB.out | apply below_alloc | apply pw_below_drewN | apply below_drew1) | exact HB.out)⟩
                          · rw [if_neg c26] at H
                            exact absurd H (by simp)
                        · rw [if_neg c25] at H
                          have c25b0 : decide (x20_4 < (t278.length : Int)) = false := decide_eq_false c25
                          clear c25
                          by_cases c30 : t270 = true
                          · subst c30
                            have H1 : (if (t274.length : Int) = (wrap64 ((wrap64 (5 + (wrap64 (Int.tmod a4 40)))) - 3)) then (some ((t278.length : Int) == (wrap64 ((wrap64 (5 + (wrap64 (Int.tmod a4 40)))) - 4)))) else (some false)) = some r := by rw [if_pos rfl] at H; exact H
                            clear H
                            have H := H1
                            clear H1
                            by_cases c31 : (t274.length : Int) = (wrap64 ((wrap64 (5 + (wrap64 (Int.tmod a4 40)))) - 3))
                            · rw [if_pos c31] at H
                              have c31b0 : ((t274.length : Int) == (wrap64 ((wrap64 (5 + (wrap64 (Int.tmod a4 40)))) - 3))) = true := beq_iff_eq.mpr c31
                              have c31b1 : ((t274.length : Int) != (wrap64 ((wrap64 (5 + (wrap64 (Int.tmod a4 40)))) - 3))) = false := bne_eq_false_iff_eq.mpr c31
                              clear c31
                              obtain rfl := Option.some.inj H
                              obtain ⟨Ao32, co32, eo32⟩ := Kd.R_slice HO_17.out
                              subst eo32
                              go_wp2
                              go_ret
                              exact ⟨by first | rfl | (simp [errW_none, errW_some] <;> rfl) | (simp [*, errW_none, errW_some] <;> rfl), by repeat (first | (with_reducible first | exact HB.out | apply below_alloc | apply pw_below_drewN | apply below_drew1) | exact HB.out)⟩
                            · rw [if_neg c31] at H
                              have c31b0 : ((t274.length : Int) == (wrap64 ((wrap64 (5 + (wrap64 (Int.tmod a4 40)))) - 3))) = false := beq_eq_false_iff_ne.mpr c31
                              have c31b1 : ((t274.length : Int) != (wrap64 ((wrap64 (5 + (wrap64 (Int.tmod a4 40)))) - 3))) = true := bne_iff_ne.mpr c31
                              obtain rfl := Option.some.inj H
                              obtain ⟨Ao33, co33, eo33⟩ := Kd.R_slice HO_17.out
                              subst eo33
                              go_wp2
                              go_ret
                              exact ⟨by first | rfl | (simp [errW_none, errW_some] <;> rfl) | (simp [*, errW_none, errW_some] <;> rfl), by repeat (first | (with_reducible first | exact HB.out | apply below_alloc | apply pw_below_drewN | apply below_drew1) | exact HB.out)⟩
                          · replace c30 := Bool.eq_false_iff.mpr c30
                            subst c30
                            have H1 : (some false) = some r := by rw [if_neg (show ¬ (false = true) by decide)] at H; exact H
                            clear H
                            have H := H1
                            clear H1
                            obtain rfl := Option.some.inj H
                            obtain ⟨Ao34, co34, eo34⟩ := Kd.R_slice HO_17.out
                            subst eo34
                            go_wp2
                            go_ret
                            exact ⟨by first | rfl | (simp [errW_none, errW_some] <;> rfl) | (simp [*, errW_none, errW_some] <;> rfl), by repeat (first | (with_reducible first | exact HB.out | apply below_alloc | apply pw_below_drewN | apply below_drew1) | exact HB.out)⟩

/-- THE ONE PURE STATEMENT of serinettelaw07_FixedCurves: yours. -/
def serinettelaw07_FixedCurves.Pure : Prop := ∀ (a0 : Int) (a1 : Int) (a2 : Int) (a3 : Int) (a4 : Int), (Lit.int .i16 a0).wf = true → (Lit.int .i16 a1).wf = true → (Lit.int .i16 a2).wf = true → (Lit.int .i16 a3).wf = true → (Lit.int .u8 a4).wf = true → ∃ k, serinettelaw07_FixedCurves.f k a0 a1 a2 a3 a4 = some true
theorem serinettelaw07_FixedCurves.walk (P : serinettelaw07_FixedCurves.Pure) (a0 : Int) (a1 : Int) (a2 : Int) (a3 : Int) (a4 : Int) (w : World) (w0 : (Lit.int .i16 a0).wf = true) (w1 : (Lit.int .i16 a1).wf = true) (w2 : (Lit.int .i16 a2).wf = true) (w3 : (Lit.int .i16 a3).wf = true) (w4 : (Lit.int .u8 a4).wf = true) :
    Calls Try.prog 7 #[.int .i16 a0, .int .i16 a1, .int .i16 a2, .int .i16 a3, .int .u8 a4] w fun e w' => e = .returned (.bool true) ∧ Below w.heap.size w w' := by
  obtain ⟨k, h⟩ := P a0 a1 a2 a3 a4 w0 w1 w2 w3 w4
  refine (serinettelaw07_FixedCurves.calls k a0 a1 a2 a3 a4 true w h).mono ?_
  rintro e w' ⟨rfl, hd⟩
  exact ⟨rfl, hd⟩

end Go.Proofs.Ytiojcihklmifgaa.PA
