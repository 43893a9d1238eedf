/- Each Go function named below comes to what the plain Lean function of its name answers, wherever that answers (rounds enough, no panic, no row too long); texts by a program of this session by way of the kit's print.py, what that does not take by hand. Condition: what is read lies in memory as each theorem says. -/
import Derived.Test.YthcognclnmcbhaaPAx0
import Derived.Test.YthcognclnmcbhaaPAx9
import Derived.Test.YthcognclnmcbhaaPAx11
namespace Go.Proofs.Ythcognclnmcbhaa.PA
open Go.RowKit Go.Proofs.YthcognclnmcbhaaW.PrintWords Go.Proofs.YthcognclnmcbhaaW.PrintLast Go.Proofs.YthcognclnmcbhaaW.PrintMore
attribute [local go_sem] max2_int min2_int max_two min_two max_three min_three max_four min_four   -- for this text's walks alone
set_option linter.unusedVariables false
set_option linter.unusedSimpArgs false

/-! ### serinettelaw10_SolveFlat: function 5 -/
mutual
def serinettelaw10_SolveFlat.j0 : Nat → Int → Bool → List Int → Int → Bool → Option (Bool)
  | 0, _, _, _, _, _ => none
  | k + 1, x0, x7, x8, x9, x32 => if x32 = true then (some false) else (if 0 < (x8.length : Int) then ((solve_Solve.f k (x8.set (0 : Int).toNat (wrap64 (1 + (wrap64 (Int.tmod x0 4611686018427387904))))) x9).bind fun t256 => (if (t256.length : Int) = (mn (mn x9 32) (wrap64 ((x8.length : Int) - 1))) then (serinettelaw10_SolveFlat.l0 k x7 t256 0) else (some false))) else (none))
def serinettelaw10_SolveFlat.l0 : Nat → Bool → List (List Int) → Int → Option (Bool)
  | 0, _, _, _ => none
  | k + 1, x7, x10, x11 => if x11 < (x10.length : Int) then (serinettelaw10_SolveFlat.l1 k x7 x10 x11 0) else (some x7)
def serinettelaw10_SolveFlat.l1 : Nat → Bool → List (List Int) → Int → Int → Option (Bool)
  | 0, _, _, _, _ => none
  | k + 1, x7, x10, x11, x12 => if 0 ≤ x11 then (if x11 < (x10.length : Int) then (if x12 < ((rd_L1 x10 x11).length : Int) then (if 0 ≤ x12 then (if (rd (rd_L1 x10 x11) x12) = 0 then (serinettelaw10_SolveFlat.l1 k x7 x10 x11 (wrap64 (x12 + 1))) else (some false)) else (none)) else (serinettelaw10_SolveFlat.l0 k x7 x10 (wrap64 (x11 + 1)))) else (none)) else (none)
end
def serinettelaw10_SolveFlat.f (k : Nat) (a0 : Int) (a1 : Int) (a2 : Int) : Option (Bool) := (serinettelaw10_awake.f k).bind fun t245 => (if 0 ≤ (wrap64 (1 + (wrap64 (Int.tmod a1 40)))) then (if (wrap64 (1 + (wrap64 (Int.tmod a1 40))) : Int).toNat ≤ 35184372088832 then ((some (List.replicate (wrap64 (1 + (wrap64 (Int.tmod a1 40))) : Int).toNat 0 : List Int)).bind fun y246 => ((solve_Solve.f k y246 (wrap64 (Int.tmod a2 40))).bind fun t249 => (if (t249.length : Int) = 0 then ((solve_Solve.f k ([] : List Int) (wrap64 (Int.tmod a2 40))).bind fun t252 => (serinettelaw10_SolveFlat.j0 k a0 t245 y246 (wrap64 (Int.tmod a2 40)) ((t252.length : Int) != 0))) else (serinettelaw10_SolveFlat.j0 k a0 t245 y246 (wrap64 (Int.tmod a2 40)) true)))) else (none)) else (none))
theorem serinettelaw10_SolveFlat.mono_l : ∀ k, (∀ y0 y1 y2 y3 y4, LeO (serinettelaw10_SolveFlat.j0 k y0 y1 y2 y3 y4) (serinettelaw10_SolveFlat.j0 (k + 1) y0 y1 y2 y3 y4)) ∧ (∀ y0 y1 y2, LeO (serinettelaw10_SolveFlat.l0 k y0 y1 y2) (serinettelaw10_SolveFlat.l0 (k + 1) y0 y1 y2)) ∧ (∀ y0 y1 y2 y3, LeO (serinettelaw10_SolveFlat.l1 k y0 y1 y2 y3) (serinettelaw10_SolveFlat.l1 (k + 1) y0 y1 y2 y3))
  | 0 => ⟨fun _ _ _ _ _ r h => by simp [serinettelaw10_SolveFlat.j0] at h, fun _ _ _ r h => by simp [serinettelaw10_SolveFlat.l0] at h, fun _ _ _ _ r h => by simp [serinettelaw10_SolveFlat.l1] at h⟩
  | k + 1 => by
    obtain ⟨ih0, ih1, ih2⟩ := serinettelaw10_SolveFlat.mono_l k
    refine ⟨?_, ?_, ?_⟩
    · intro y0 y1 y2 y3 y4
      unfold serinettelaw10_SolveFlat.j0
      repeat' first
      | (with_reducible exact ih0 _ _ _ _ _)
      | (with_reducible exact ih1 _ _ _)
      | (with_reducible exact ih2 _ _ _ _)
      | (with_reducible exact serinettelaw10_awake.mono _)
      | (with_reducible exact solve_Solve.mono _ _ _)
      | (with_reducible exact LeO.refl _)
      | (with_reducible exact LeO.none _)
      | (with_reducible refine LeO.ite ?_ ?_)
      | (with_reducible refine LeO.bind ?_ (fun _ => ?_))
      | exact ih0 _ _ _ _ _
      | exact ih1 _ _ _
      | exact ih2 _ _ _ _
      | exact serinettelaw10_awake.mono _
      | exact solve_Solve.mono _ _ _
      | exact LeO.none _
      | refine LeO.ite ?_ ?_
      | refine LeO.bind ?_ (fun _ => ?_)
    · intro y0 y1 y2
      unfold serinettelaw10_SolveFlat.l0
      repeat' first
      | (with_reducible exact ih0 _ _ _ _ _)
      | (with_reducible exact ih1 _ _ _)
      | (with_reducible exact ih2 _ _ _ _)
      | (with_reducible exact serinettelaw10_awake.mono _)
      | (with_reducible exact solve_Solve.mono _ _ _)
      | (with_reducible exact LeO.refl _)
      | (with_reducible exact LeO.none _)
      | (with_reducible refine LeO.ite ?_ ?_)
      | (with_reducible refine LeO.bind ?_ (fun _ => ?_))
      | exact ih0 _ _ _ _ _
      | exact ih1 _ _ _
      | exact ih2 _ _ _ _
      | exact serinettelaw10_awake.mono _
      | exact solve_Solve.mono _ _ _
      | exact LeO.none _
      | refine LeO.ite ?_ ?_
      | refine LeO.bind ?_ (fun _ => ?_)
    · intro y0 y1 y2 y3
      unfold serinettelaw10_SolveFlat.l1
      repeat' first
      | (with_reducible exact ih0 _ _ _ _ _)
      | (with_reducible exact ih1 _ _ _)
      | (with_reducible exact ih2 _ _ _ _)
      | (with_reducible exact serinettelaw10_awake.mono _)
      | (with_reducible exact solve_Solve.mono _ _ _)
      | (with_reducible exact LeO.refl _)
      | (with_reducible exact LeO.none _)
      | (with_reducible refine LeO.ite ?_ ?_)
      | (with_reducible refine LeO.bind ?_ (fun _ => ?_))
      | exact ih0 _ _ _ _ _
      | exact ih1 _ _ _
      | exact ih2 _ _ _ _
      | exact serinettelaw10_awake.mono _
      | exact solve_Solve.mono _ _ _
      | exact LeO.none _
      | refine LeO.ite ?_ ?_
      | refine LeO.bind ?_ (fun _ => ?_)
theorem serinettelaw10_SolveFlat.mono : ∀ a0 a1 a2 k, LeO (serinettelaw10_SolveFlat.f k a0 a1 a2) (serinettelaw10_SolveFlat.f (k + 1) a0 a1 a2) := by
  intro a0 a1 a2 k
  obtain ⟨ih0, ih1, ih2⟩ := serinettelaw10_SolveFlat.mono_l k
  unfold serinettelaw10_SolveFlat.f
  repeat' first
      | (with_reducible exact ih0 _ _ _ _ _)
      | (with_reducible exact ih1 _ _ _)
      | (with_reducible exact ih2 _ _ _ _)
      | (with_reducible exact serinettelaw10_awake.mono _)
      | (with_reducible exact solve_Solve.mono _ _ _)
      | (with_reducible exact LeO.refl _)
      | (with_reducible exact LeO.none _)
      | (with_reducible refine LeO.ite ?_ ?_)
      | (with_reducible refine LeO.bind ?_ (fun _ => ?_))
      | exact ih0 _ _ _ _ _
      | exact ih1 _ _ _
      | exact ih2 _ _ _ _
      | exact serinettelaw10_awake.mono _
      | exact solve_Solve.mono _ _ _
      | exact LeO.none _
      | refine LeO.ite ?_ ?_
      | refine LeO.bind ?_ (fun _ => ?_)
set_option maxHeartbeats 8000000 in
set_option maxRecDepth 100000 in
theorem serinettelaw10_SolveFlat.calls (k : Nat) (a0 : Int) (a1 : Int) (a2 : Int) (r : Bool) (w : World) (h : serinettelaw10_SolveFlat.f k a0 a1 a2 = some r) :
    Calls Try.prog 5 #[.int .u64 a0, .int .u8 a1, .int .u8 a2] w fun e w' => e = .returned (.bool r) ∧ Below w.heap.size w w' := by
  have HB := Aside0.mk (Below.refl w.heap.size w)
  have H : ((serinettelaw10_awake.f k).bind fun t245 => (if 0 ≤ (wrap64 (1 + (wrap64 (Int.tmod a1 40)))) then (if (wrap64 (1 + (wrap64 (Int.tmod a1 40))) : Int).toNat ≤ 35184372088832 then ((some (List.replicate (wrap64 (1 + (wrap64 (Int.tmod a1 40))) : Int).toNat 0 : List Int)).bind fun y246 => ((solve_Solve.f k y246 (wrap64 (Int.tmod a2 40))).bind fun t249 => (if (t249.length : Int) = 0 then ((solve_Solve.f k ([] : List Int) (wrap64 (Int.tmod a2 40))).bind fun t252 => (serinettelaw10_SolveFlat.j0 k a0 t245 y246 (wrap64 (Int.tmod a2 40)) ((t252.length : Int) != 0))) else (serinettelaw10_SolveFlat.j0 k a0 t245 y246 (wrap64 (Int.tmod a2 40)) true)))) else (none)) else (none))) = some r := h
  clear h
  replace H := Option.bind_eq_some_iff.mp H
  obtain ⟨t245, A40, H⟩ := H
  replace H : (if 0 ≤ (wrap64 (1 + (wrap64 (Int.tmod a1 40)))) then (if (wrap64 (1 + (wrap64 (Int.tmod a1 40))) : Int).toNat ≤ 35184372088832 then ((some (List.replicate (wrap64 (1 + (wrap64 (Int.tmod a1 40))) : Int).toNat 0 : List Int)).bind fun y246 => ((solve_Solve.f k y246 (wrap64 (Int.tmod a2 40))).bind fun t249 => (if (t249.length : Int) = 0 then ((solve_Solve.f k ([] : List Int) (wrap64 (Int.tmod a2 40))).bind fun t252 => (serinettelaw10_SolveFlat.j0 k a0 t245 y246 (wrap64 (Int.tmod a2 40)) ((t252.length : Int) != 0))) else (serinettelaw10_SolveFlat.j0 k a0 t245 y246 (wrap64 (Int.tmod a2 40)) true)))) else (none)) else (none)) = some r := H
  have A4 := Aside0.mk A40
  clear A40
  obtain ⟨ji5, hji5⟩ : ∃ j_ : Int, (wrap64 (1 + (wrap64 (Int.tmod a1 40)))) = j_ := ⟨_, rfl⟩
  replace H : (if 0 ≤ (ji5) then (if (ji5 : Int).toNat ≤ 35184372088832 then ((some (List.replicate (ji5 : Int).toNat 0 : List Int)).bind fun y246 => ((solve_Solve.f k y246 (wrap64 (Int.tmod a2 40))).bind fun t249 => (if (t249.length : Int) = 0 then ((solve_Solve.f k ([] : List Int) (wrap64 (Int.tmod a2 40))).bind fun t252 => (serinettelaw10_SolveFlat.j0 k a0 t245 y246 (wrap64 (Int.tmod a2 40)) ((t252.length : Int) != 0))) else (serinettelaw10_SolveFlat.j0 k a0 t245 y246 (wrap64 (Int.tmod a2 40)) true)))) else (none)) else (none)) = some r := by first | (rw [hji5] at H; exact H) | (simp only [hji5] at H ⊢; exact H)
  (try rw [hji5] at A4)
  have hji5w : (IntKind.i64.wrap (1 + (wrap64 (Int.tmod a1 40)))) = ji5 := (i64_w _).trans hji5
  by_cases c6 : 0 ≤ (ji5)
  · rw [if_pos c6] at H
    have c6b0 := eq_true c6
    have c6b1 : decide (0 ≤ (ji5)) = true := decide_eq_true c6
    clear c6
    by_cases c7 : (ji5 : Int).toNat ≤ 35184372088832
    · rw [if_pos c7] at H
      have c7b0 := eq_true c7
      have c7b1 : decide ((ji5 : Int).toNat ≤ 35184372088832) = true := decide_eq_true c7
      clear c7
      obtain ⟨y246, hy246⟩ : ∃ y_ : List Int, y_ = (List.replicate (ji5 : Int).toNat 0) := ⟨_, rfl⟩
      replace H : ((solve_Solve.f k y246 (wrap64 (Int.tmod a2 40))).bind fun t249 => (if (t249.length : Int) = 0 then ((solve_Solve.f k ([] : List Int) (wrap64 (Int.tmod a2 40))).bind fun t252 => (serinettelaw10_SolveFlat.j0 k a0 t245 y246 (wrap64 (Int.tmod a2 40)) ((t252.length : Int) != 0))) else (serinettelaw10_SolveFlat.j0 k a0 t245 y246 (wrap64 (Int.tmod a2 40)) true))) = some r := by first | (rw [hy246]; with_reducible exact H) | (have H2_ := (Option.bind_some _ _).symm.trans H; rw [hy246]; with_reducible exact H2_) | (have H2_ := (Option.bind_some _ _).symm.trans H; with_reducible exact H2_) | with_reducible exact H | (rw [hy246]; exact H) | exact H
      have Ny246 := Aside0.mk hy246
      clear hy246
      have HC8 := Aside0.mk H
      clear H
      go_enter Try.func5, Try.ntmps5
      go_upto_region 4 with (first | ((with_reducible refine gate_callee (f := 9) rfl ?_); refine goesL_ (some 13) rfl rfl Try.func9 (by kernel_rfl) rfl #[] rfl (by (try simp only [List.map_toArray, List.map_cons, List.map_nil]); first | done | rfl | (simp only [List.length_drop, List.length_take]; rfl)) ?_; (with_reducible refine (serinettelaw10_awake.calls k  t245 _ A4.out).mono ?_); rintro e w9 ⟨rfl, hb⟩; refine ⟨_, rfl, ?_⟩; have n0_ := Aside0.mk (below_step (by repeat (first | (with_reducible first | exact HB.out | apply below_alloc | apply pw_below_drewN | apply below_drew1) | exact HB.out)) hb); clear HB; have HB := n0_; clear n0_; (try clear hb); (try clear hb2); (try clear hk); (try clear hi)) | ((with_reducible refine gate_dst (N := 18) rfl ?_); (try (refine gate_guard (by rfl) ?_; dsimp only)); refine Kd.R_make (Kd.int .i64) _ 3 rfl (N := 18) rfl 22 _ _ rfl ji5 rfl rfl Try.underlying22 (.int .i64 0) 8 info3 rfl (by decide) (by omega) 0 (ok := fun _ => True) (okp := fun _ => True) rfl (fun _ hk => hk) trivial (of_decide_eq_true (by first | (with_reducible assumption) | assumption)) (Nat.le_trans (Nat.mul_le_mul_right _ (of_decide_eq_true (by first | (with_reducible assumption) | assumption) : ji5.toNat ≤ 35184372088832)) (by omega)) (Below.refl _ _) (Nat.le_refl _) ?_; intro v247 w10 ho11 hb hg_ hnew_; clear hg_ hnew_; (first | rw [← Ny246.out] at ho11 | (simp only [Int.reduceToNat] at ho11; rw [← Ny246.out] at ho11)); have n0_ := Aside0.mk (Kd.R_lower ho11 (below_size (by repeat (first | (with_reducible first | exact HB.out | apply below_alloc | apply pw_below_drewN | apply below_drew1) | exact HB.out)))); have n1_ := Aside0.mk (below_step (by repeat (first | (with_reducible first | exact HB.out | apply below_alloc | apply pw_below_drewN | apply below_drew1) | exact HB.out)) hb); clear HB; have HO248 := n0_; have HB := n1_; clear n0_ n1_; clear hb ho11))
      (try simp only [Act.put, List.setIfInBounds_toArray, List.set_cons_zero, List.set_cons_succ])
      go_cut [32] (fun v32 wc => ∃ (kq : Nat) (x32_7 : Bool), v32 = .bool x32_7 ∧ Aside0 (serinettelaw10_SolveFlat.j0 kq a0 t245 y246 (wrap64 (Int.tmod a2 40)) x32_7 = some r) ∧ Aside0 (kq ≤ k) ∧ Aside0 (Kd.R (Kd.int .i64) 3 wc w.heap.size (fun _ => True) v247 y246) ∧ Aside0 (Below w.heap.size w wc))
      case first =>
        have H := HC8.out
        clear HC8
        replace H := Option.bind_eq_some_iff.mp H
        obtain ⟨t249, A120, H⟩ := H
        replace H : (if (t249.length : Int) = 0 then ((solve_Solve.f k ([] : List Int) (wrap64 (Int.tmod a2 40))).bind fun t252 => (serinettelaw10_SolveFlat.j0 k a0 t245 y246 (wrap64 (Int.tmod a2 40)) ((t252.length : Int) != 0))) else (serinettelaw10_SolveFlat.j0 k a0 t245 y246 (wrap64 (Int.tmod a2 40)) true)) = some r := H
        have A12 := Aside0.mk A120
        clear A120
        by_cases c13 : (t249.length : Int) = 0
        · rw [if_pos c13] at H
          have c13b0 : ((t249.length : Int) == 0) = true := beq_iff_eq.mpr c13
          have c13b1 : ((t249.length : Int) != 0) = false := bne_eq_false_iff_eq.mpr c13
          clear c13
          (first | rw [c13b0] | (simp only [i64_w, i32_w]; rw [c13b0]) | skip)
          replace H := Option.bind_eq_some_iff.mp H
          obtain ⟨t252, A140, H⟩ := H
          replace H : (serinettelaw10_SolveFlat.j0 k a0 t245 y246 (wrap64 (Int.tmod a2 40)) ((t252.length : Int) != 0)) = some r := H
          have A14 := Aside0.mk A140
          clear A140
          have H' := Aside0.mk H
          clear H
          obtain ⟨Ao15, co15, eo15⟩ := Kd.R_slice HO248.out
          subst eo15
          go_wp2_with (first | ((with_reducible refine gate_callee (f := 12) rfl ?_); refine goesL_ (some 24) rfl rfl Try.func12 (by kernel_rfl) rfl #[.slice Ao15 y246.length co15, .int .i64 (wrap64 (Int.tmod a2 40))] rfl (by (try simp only [List.map_toArray, List.map_cons, List.map_nil]); first | done | rfl | (simp only [List.length_drop, List.length_take]; rfl)) ?_; (with_reducible refine (solve_Solve.calls k _ _ y246 (wrap64 (Int.tmod a2 40)) t249 _ ?side1 ?side2 A12.out).mono ?_); (case side1 => repeat (first | exact (Kd.R_reads' HO248.out).2.2 | (with_reducible refine Kd.C_alloc ?_ _) | (with_reducible refine Kd.C_drewN ?_ _) | (with_reducible refine Kd.C_drew ?_))); (case side2 => exact (Kd.R_reads' HO248.out).2.1); rintro e w16 ⟨v250, rfl, ho0, hb⟩; refine ⟨_, rfl, ?_⟩; have n0_ := Aside0.mk (Kd.R_below (by (with_reducible repeat (first | apply Kd.R_alloc | apply Kd.R_drewN | apply Kd.R_drew)); exact HO248.out) hb); have n1_ := Aside0.mk (Kd.S_lower (Kd.S_new' ho0 (Kd.R_lt (by (with_reducible repeat (first | apply Kd.R_alloc | apply Kd.R_drewN | apply Kd.R_drew)); exact HO248.out))) (below_size (by repeat (first | (with_reducible first | exact HB.out | apply below_alloc | apply pw_below_drewN | apply below_drew1) | exact HB.out)))); have n2_ := Aside0.mk (below_step (by repeat (first | (with_reducible first | exact HB.out | apply below_alloc | apply pw_below_drewN | apply below_drew1) | exact HB.out)) hb); clear HO248; clear HB; have HO248 := n0_; have HO251 := n1_; have HB := n2_; clear n0_ n1_ n2_; (try clear hb); (try clear hb2); (try clear hk); (try clear hi); (try clear ho0); obtain ⟨Ao17, co17, eo17⟩ := Kd.S_slice HO251.out; subst eo17) | (go_at_call 12; (refine (solve_Solve.calls k _ _ ([] : List Int) (wrap64 (Int.tmod a2 40)) t252 _ ?side1 ?side2 A14.out).mono ?_); (case side1 => exact Kd.C_nil _ _); (case side2 => exact Nat.le_refl _); rintro e w18 ⟨v253, rfl, ho0, hb⟩; have n0_ := Aside0.mk (Kd.R_below (by (with_reducible repeat (first | apply Kd.R_alloc | apply Kd.R_drewN | apply Kd.R_drew)); exact HO248.out) hb); have n1_ := Aside0.mk (Kd.S_elder' (by (with_reducible repeat (first | apply Kd.S_alloc | apply Kd.S_drewN | apply Kd.S_drew)); exact HO251.out) (Kd.S_base ho0) hb); have n2_ := Aside0.mk (Kd.S_lower (Kd.S_new' (Kd.S_new' ho0 (Kd.R_lt (by (with_reducible repeat (first | apply Kd.R_alloc | apply Kd.R_drewN | apply Kd.R_drew)); exact HO248.out))) (Kd.S_lt (by (with_reducible repeat (first | apply Kd.S_alloc | apply Kd.S_drewN | apply Kd.S_drew)); exact HO251.out))) (below_size (by repeat (first | (with_reducible first | exact HB.out | apply below_alloc | apply pw_below_drewN | apply below_drew1) | exact HB.out)))); have n3_ := Aside0.mk (below_step (by repeat (first | (with_reducible first | exact HB.out | apply below_alloc | apply pw_below_drewN | apply below_drew1) | exact HB.out)) hb); clear HO248; clear HO251; clear HB; have HO248 := n0_; have HO251 := n1_; have HO254 := n2_; have HB := n3_; clear n0_ n1_ n2_ n3_; (try clear hb); (try clear hb2); (try clear hk); (try clear hi); (try clear ho0); obtain ⟨Ao19, co19, eo19⟩ := Kd.S_slice HO254.out; subst eo19))
          go_meet
          case rel => exact ⟨_, (((t252.length : Int) != 0)), (by first | rfl | (simp; done) | (simp only [i64_w, i32_w]; done) | (simp [*]; done) | (simp only [i64_w, i32_w]; first | rfl | (simp; done) | (simp [*]; done))), H', ⟨by first | omega | exact Nat.le_refl _⟩, ⟨by (with_reducible repeat (first | apply Kd.R_alloc | apply Kd.R_drewN | apply Kd.R_drew)); exact HO248.out⟩, ⟨by repeat (first | (with_reducible first | exact HB.out | apply below_alloc | apply pw_below_drewN | apply below_drew1) | exact HB.out)⟩⟩
        · rw [if_neg c13] at H
          have c13b0 : ((t249.length : Int) == 0) = false := beq_eq_false_iff_ne.mpr c13
          have c13b1 : ((t249.length : Int) != 0) = true := bne_iff_ne.mpr c13
          have c13b2 : ¬ (t249 = []) := fun h_ => c13 (by rw [h_]; rfl)
          (first | rw [c13b0] | (simp only [i64_w, i32_w]; rw [c13b0]) | skip)
          have H' := Aside0.mk H
          clear H
          obtain ⟨Ao20, co20, eo20⟩ := Kd.R_slice HO248.out
          subst eo20
          go_wp2_with (first | ((with_reducible refine gate_callee (f := 12) rfl ?_); refine goesL_ (some 24) rfl rfl Try.func12 (by kernel_rfl) rfl #[.slice Ao20 y246.length co20, .int .i64 (wrap64 (Int.tmod a2 40))] rfl (by (try simp only [List.map_toArray, List.map_cons, List.map_nil]); first | done | rfl | (simp only [List.length_drop, List.length_take]; rfl)) ?_; (with_reducible refine (solve_Solve.calls k _ _ y246 (wrap64 (Int.tmod a2 40)) t249 _ ?side1 ?side2 A12.out).mono ?_); (case side1 => repeat (first | exact (Kd.R_reads' HO248.out).2.2 | (with_reducible refine Kd.C_alloc ?_ _) | (with_reducible refine Kd.C_drewN ?_ _) | (with_reducible refine Kd.C_drew ?_))); (case side2 => exact (Kd.R_reads' HO248.out).2.1); rintro e w21 ⟨v250, rfl, ho0, hb⟩; refine ⟨_, rfl, ?_⟩; have n0_ := Aside0.mk (Kd.R_below (by (with_reducible repeat (first | apply Kd.R_alloc | apply Kd.R_drewN | apply Kd.R_drew)); exact HO248.out) hb); have n1_ := Aside0.mk (Kd.S_lower (Kd.S_new' ho0 (Kd.R_lt (by (with_reducible repeat (first | apply Kd.R_alloc | apply Kd.R_drewN | apply Kd.R_drew)); exact HO248.out))) (below_size (by repeat (first | (with_reducible first | exact HB.out | apply below_alloc | apply pw_below_drewN | apply below_drew1) | exact HB.out)))); have n2_ := Aside0.mk (below_step (by repeat (first | (with_reducible first | exact HB.out | apply below_alloc | apply pw_below_drewN | apply below_drew1) | exact HB.out)) hb); clear HO248; clear HB; have HO248 := n0_; have HO251 := n1_; have HB := n2_; clear n0_ n1_ n2_; (try clear hb); (try clear hb2); (try clear hk); (try clear hi); (try clear ho0); obtain ⟨Ao22, co22, eo22⟩ := Kd.S_slice HO251.out; subst eo22))
          go_meet
          case rel => exact ⟨_, (true), (by first | rfl | (simp; done) | (simp only [i64_w, i32_w]; done) | (simp [*]; done) | (simp only [i64_w, i32_w]; first | rfl | (simp; done) | (simp [*]; done))), H', ⟨by first | omega | exact Nat.le_refl _⟩, ⟨by (with_reducible repeat (first | apply Kd.R_alloc | apply Kd.R_drewN | apply Kd.R_drew)); exact HO248.out⟩, ⟨by repeat (first | (with_reducible first | exact HB.out | apply below_alloc | apply pw_below_drewN | apply below_drew1) | exact HB.out)⟩⟩
      case rest =>
        clear HC8
        try clear c1
        try clear p2
        try clear c5
        try clear c6
        try clear c6b0
        try clear c6b1
        try clear p6
        try clear c7
        try clear c7b0
        try clear c7b1
        try clear c9
        try clear c12
        try clear c13
        try clear c13b0
        try clear c13b1
        try clear c13b2
        obtain ⟨kq, x32_7, rfl, HA, HJ7, HO_8, HB⟩ := hcut
        cases kq with
        | zero => exact absurd HA.out (by simp [serinettelaw10_SolveFlat.j0])
        | succ kj7 =>
          have H := HA.out
          clear HA
          simp only [serinettelaw10_SolveFlat.j0] at H
          by_cases c23 : x32_7 = true
          · subst c23
            have H1 : (some false) = some r := by rw [if_pos rfl] at H; exact H
            clear H
            have H := H1
            clear H1
            obtain rfl := Option.some.inj H
            go_wp2
            go_ret
            exact ⟨by first | rfl | (simp [errW_none, errW_some] <;> rfl) | (simp only [← hji5]; first | rfl | (simp [errW_none, errW_some] <;> rfl)) | (simp [*, errW_none, errW_some] <;> rfl), by repeat (first | (with_reducible first | exact HB.out | apply below_alloc | apply pw_below_drewN | apply below_drew1) | exact HB.out)⟩
          · replace c23 := Bool.eq_false_iff.mpr c23
            subst c23
            have H1 : (if 0 < (y246.length : Int) then ((solve_Solve.f kj7 (y246.set (0 : Int).toNat (wrap64 (1 + (wrap64 (Int.tmod a0 4611686018427387904))))) (wrap64 (Int.tmod a2 40))).bind fun t256 => (if (t256.length : Int) = (mn (mn (wrap64 (Int.tmod a2 40)) 32) (wrap64 ((y246.length : Int) - 1))) then (serinettelaw10_SolveFlat.l0 kj7 t245 t256 0) else (some false))) else (none)) = some r := by rw [if_neg (show ¬ (false = true) by decide)] at H; exact H
            clear H
            have H := H1
            clear H1
            by_cases c24 : 0 < (y246.length : Int)
            · rw [if_pos c24] at H
              have c24b0 : decide (0 < (y246.length : Int)) = true := decide_eq_true c24
              have c24b1 : decide (0 < y246.length) = true := decide_eq_true (by omega)
              clear c24
              obtain ⟨y255, hy255⟩ : ∃ y_ : List Int, y_ = (y246.set (0 : Int).toNat (wrap64 (1 + (wrap64 (Int.tmod a0 4611686018427387904))))) := ⟨_, rfl⟩
              replace H : ((solve_Solve.f kj7 y255 (wrap64 (Int.tmod a2 40))).bind fun t256 => (if (t256.length : Int) = (mn (mn (wrap64 (Int.tmod a2 40)) 32) (wrap64 ((y246.length : Int) - 1))) then (serinettelaw10_SolveFlat.l0 kj7 t245 t256 0) else (some false))) = some r := by first | (rw [hy255]; with_reducible exact H) | (have H2_ := (Option.bind_some _ _).symm.trans H; rw [hy255]; with_reducible exact H2_) | (have H2_ := (Option.bind_some _ _).symm.trans H; with_reducible exact H2_) | with_reducible exact H | (rw [hy255]; exact H) | exact H
              have Ny255 := Aside0.mk hy255
              clear hy255
              replace H := Option.bind_eq_some_iff.mp H
              obtain ⟨t256, A260, H⟩ := H
              replace H : (if (t256.length : Int) = (mn (mn (wrap64 (Int.tmod a2 40)) 32) (wrap64 ((y246.length : Int) - 1))) then (serinettelaw10_SolveFlat.l0 kj7 t245 t256 0) else (some false)) = some r := H
              have A26 := Aside0.mk A260
              clear A260
              obtain ⟨ji27, hji27⟩ : ∃ j_ : Int, (mn (wrap64 (Int.tmod a2 40)) 32) = j_ := ⟨_, rfl⟩
              replace H : (if (t256.length : Int) = (mn (ji27) (wrap64 ((y246.length : Int) - 1))) then (serinettelaw10_SolveFlat.l0 kj7 t245 t256 0) else (some false)) = some r := by first | (rw [hji27] at H; exact H) | (simp only [hji27] at H ⊢; exact H)
              (try rw [hji27] at A26)
              have hji27_ : (if 32 < (wrap64 (Int.tmod a2 40)) then 32 else (wrap64 (Int.tmod a2 40))) = ji27 := hji27
              obtain ⟨ji28, hji28⟩ : ∃ j_ : Int, (mn (ji27) (wrap64 ((y246.length : Int) - 1))) = j_ := ⟨_, rfl⟩
              replace H : (if (t256.length : Int) = (ji28) then (serinettelaw10_SolveFlat.l0 kj7 t245 t256 0) else (some false)) = some r := by first | (rw [hji28] at H; exact H) | (simp only [hji28] at H ⊢; exact H)
              (try rw [hji28] at A26)
              have hji28_ : (if (wrap64 ((y246.length : Int) - 1)) < (ji27) then (wrap64 ((y246.length : Int) - 1)) else (ji27)) = ji28 := hji28
              by_cases c29 : (t256.length : Int) = (ji28)
              · rw [if_pos c29] at H
                have c29b0 : ((t256.length : Int) == (ji28)) = true := beq_iff_eq.mpr c29
                have c29b1 : ((t256.length : Int) != (ji28)) = false := bne_eq_false_iff_eq.mpr c29
                clear c29
                have H' := Aside0.mk H
                clear H
                have p25 : 0 ≤ (0 : Int) := (by omega)
                have q25 : (0 : Int) < ((y246.length : Int) : Int) := of_decide_eq_true (by first | (with_reducible assumption) | assumption)
                have qi25 : (0 < y246.length) = True := eq_true (by omega)
                obtain ⟨go25, co25, eo25, gb25, gl25, cl25, HG25⟩ := Kd.R_form HO_8.out (by omega)
                (first | cases eo25 | (injection eo25 with ea_ en_ ec_; (first | subst ea_ | (injection ea_ with ea_; subst ea_)); subst ec_; clear en_))
                have GB25 := Aside0.mk gb25
                have GG25 := Aside0.mk HG25
                clear gb25 gl25 HG25
                obtain ⟨hx25_0, hf25_0⟩ := Kd.R_celln 0 HO_8.out (0 : Int) p25 q25
                (try rw [show ((0 : Int)).toNat = 0 from rfl] at hx25_0)
                (try simp only [Nat.reduceMul, Nat.zero_mul, Nat.zero_add, Nat.reduceAdd] at hx25_0)
                (try rw [show ((0 : Int)).toNat = 0 from rfl] at hf25_0)
                (try simp only [Nat.reduceMul, Nat.zero_mul, Nat.zero_add, Nat.reduceAdd] at hf25_0)
                replace p25 := eq_true p25
                replace q25 := eq_true q25
                have HP30 := Kd.R_putg HO_8.out (0 : Int) (wrap64 (1 + (wrap64 (Int.tmod a0 4611686018427387904))))
                go_wp2_with (first | ((with_reducible refine gate_store (t := 3) (p := 38) rfl ?_); refine store_event (t := 3) (p := 38) (v := ?vo_w31) (w1 := (wc.setCell ⟨go25, (0 : Int).toNat, none⟩ (.int .i64 (wrap64 (1 + (wrap64 (Int.tmod a0 4611686018427387904))))))) ?hg ?ho ?hn ?hr ?_; (case ho => rfl); (case hg => rfl); (case hn => rfl); (case hr => first | (go_simp; done) | (go_simp; rfl)); intro w31 hw; have hg : wc.grownBy w31 (some go25) := (by rw [hw]; exact HP30.2); have hp_ : Kd.R (Kd.int .i64) 3 w31 w.heap.size (fun _ => True) (.slice (some ⟨go25, 0, none⟩) y246.length co25) y255 := (by rw [hw, Ny255.out]; exact HP30.1); clear HP30; have n0_ := Aside0.mk (hp_); have n1_ := Aside0.mk ((by rw [hw]; exact below_set (HB.out) GB25.out : Below w.heap.size w w31)); clear HO_8; clear HB; have HO_8 := n0_; have HB := n1_; clear n0_ n1_; clear hg hw hp_) | ((with_reducible refine gate_callee (f := 12) rfl ?_); refine goesL_ (some 41) rfl rfl Try.func12 (by kernel_rfl) rfl #[.slice (some ⟨go25, 0, none⟩) y255.length co25, .int .i64 (wrap64 (Int.tmod a2 40))] rfl (by (try simp only [List.map_toArray, List.map_cons, List.map_nil]); first | done | (rw [show y255.length = y246.length from (Kd.R_reads' HO_8.out).1.symm] <;> rfl) | rfl | (simp only [List.length_drop, List.length_take]; rfl)) ?_; (with_reducible refine (solve_Solve.calls kj7 _ _ y255 (wrap64 (Int.tmod a2 40)) t256 _ ?side1 ?side2 A26.out).mono ?_); (case side1 => repeat (first | exact (Kd.R_reads' HO_8.out).2.2 | (with_reducible refine Kd.C_alloc ?_ _) | (with_reducible refine Kd.C_drewN ?_ _) | (with_reducible refine Kd.C_drew ?_))); (case side2 => rw [show y255.length = y246.length from (Kd.R_reads' HO_8.out).1.symm]; exact (Kd.R_reads' HO_8.out).2.1); rintro e w32 ⟨v257, rfl, ho0, hb⟩; refine ⟨_, rfl, ?_⟩; have n0_ := Aside0.mk (Kd.R_below (by (with_reducible repeat (first | apply Kd.R_alloc | apply Kd.R_drewN | apply Kd.R_drew)); exact HO_8.out) hb); have n1_ := Aside0.mk (Kd.S_lower (Kd.S_new' ho0 (Kd.R_lt (by (with_reducible repeat (first | apply Kd.R_alloc | apply Kd.R_drewN | apply Kd.R_drew)); exact HO_8.out))) (below_size (by repeat (first | (with_reducible first | exact HB.out | apply below_alloc | apply pw_below_drewN | apply below_drew1) | exact HB.out)))); have n2_ := Aside0.mk (below_step (by repeat (first | (with_reducible first | exact HB.out | apply below_alloc | apply pw_below_drewN | apply below_drew1) | exact HB.out)) hb); clear HO_8; clear HB; have HO_8 := n0_; have HO258 := n1_; have HB := n2_; clear n0_ n1_ n2_; (try clear hb); (try clear hb2); (try clear hk); (try clear hi); (try clear ho0); obtain ⟨Ao33, co33, eo33⟩ := Kd.S_slice HO258.out; subst eo33))
                go_loopg [11] kj7 (fun kq v11 w' => ∃ (x11_2 : Int), v11 = .int .i64 x11_2 ∧ Aside0 (serinettelaw10_SolveFlat.l0 kq t245 t256 x11_2 = some r) ∧ Aside0 (kq ≤ kj7) ∧ Aside0 (Kd.S (Kd.slice 3 (Kd.int .i64)) 22 w' w.heap.size (fun _ => True) (.slice Ao33 t256.length co33) t256) ∧ Aside0 (Below w.heap.size w w'))
                case atStart => exact ⟨(0), (by first | rfl | (simp; done) | (simp only [i64_w, i32_w]; done) | (simp [*]; done) | (simp only [i64_w, i32_w]; first | rfl | (simp; done) | (simp [*]; done))), H', ⟨Nat.le_refl _⟩, ⟨by (with_reducible repeat (first | apply Kd.S_alloc | apply Kd.S_drewN | apply Kd.S_drew)); exact Kd.S_mono HO258.out (fun _ hk => trivial)⟩, ⟨by repeat (first | (with_reducible first | exact HB.out | apply below_alloc | apply pw_below_drewN | apply below_drew1) | exact HB.out)⟩⟩
                case round =>
                  clear H'
                  try clear c1
                  try clear c2
                  try clear p2
                  try clear q2
                  try clear hx2
                  try clear qi2
                  try clear c5
                  try clear c6
                  try clear c6b0
                  try clear c6b1
                  try clear p6
                  try clear c7
                  try clear c7b0
                  try clear c7b1
                  try clear c9
                  try clear c12
                  try clear c13
                  try clear c13b0
                  try clear c13b1
                  try clear c13b2
                  try clear c23
                  try clear c24
                  try clear c24b0
                  try clear c24b1
                  try clear p25
                  try clear q25
                  try clear hx25
                  try clear qi25
                  try clear hf25
                  try clear c29
                  try clear c29b0
                  try clear c29b1
                  try clear hx25_0
                  try clear p2
                  try clear p25
                  try clear p6
                  try clear q25
                  obtain ⟨x11_2, rfl, HA, HK2, HO_10, HB⟩ := hrel
                  cases gk with
                  | zero => exact absurd HA.out (by simp [serinettelaw10_SolveFlat.l0])
                  | succ k2 =>
                    have H := HA.out
                    clear HA
                    simp only [serinettelaw10_SolveFlat.l0] at H
                    by_cases c34 : x11_2 < (t256.length : Int)
                    · rw [if_pos c34] at H
                      have c34b0 : decide (x11_2 < (t256.length : Int)) = true := decide_eq_true c34
                      clear c34
                      have H' := Aside0.mk H
                      clear H
                      go_wp2
                      go_loopg [12] k2 (fun kq v12 w' => ∃ (x12_3 : Int), v12 = .int .i64 x12_3 ∧ Aside0 (serinettelaw10_SolveFlat.l1 kq t245 t256 x11_2 x12_3 = some r) ∧ Aside0 (kq ≤ k2) ∧ Aside0 (Kd.S (Kd.slice 3 (Kd.int .i64)) 22 w' w.heap.size (fun _ => True) (.slice Ao33 t256.length co33) t256) ∧ Aside0 (Below w.heap.size w w'))
                      case atStart => exact ⟨(0), (by first | rfl | (simp; done) | (simp only [i64_w, i32_w]; done) | (simp [*]; done) | (simp only [i64_w, i32_w]; first | rfl | (simp; done) | (simp [*]; done))), H', ⟨Nat.le_refl _⟩, ⟨by (with_reducible repeat (first | apply Kd.S_alloc | apply Kd.S_drewN | apply Kd.S_drew)); exact HO_10.out⟩, ⟨by repeat (first | (with_reducible first | exact HB.out | apply below_alloc | apply pw_below_drewN | apply below_drew1) | exact HB.out)⟩⟩
                      case round =>
                        clear H'
                        try clear c1
                        try clear c2
                        try clear p2
                        try clear q2
                        try clear hx2
                        try clear qi2
                        try clear c3
                        try clear c5
                        try clear c6
                        try clear c6b0
                        try clear c6b1
                        try clear p6
                        try clear c7
                        try clear c7b0
                        try clear c7b1
                        try clear c9
                        try clear c12
                        try clear c13
                        try clear c13b0
                        try clear c13b1
                        try clear c13b2
                        try clear c23
                        try clear c24
                        try clear c24b0
                        try clear c24b1
                        try clear p25
                        try clear q25
                        try clear hx25
                        try clear qi25
                        try clear hf25
                        try clear c29
                        try clear c29b0
                        try clear c29b1
                        try clear c34
                        try clear c34b0
                        try clear hx25_0
                        try clear p2
                        try clear p25
                        try clear p6
                        try clear q2
                        try clear q25
                        obtain ⟨x12_3, rfl, HA, HK3, HO_10, HB⟩ := hrel
                        cases gk with
                        | zero => exact absurd HA.out (by simp [serinettelaw10_SolveFlat.l1])
                        | succ k3 =>
                          have H := HA.out
                          clear HA
                          simp only [serinettelaw10_SolveFlat.l1] at H
                          by_cases c35 : 0 ≤ x11_2
                          · rw [if_pos c35] at H
                            have c35b0 : decide (0 ≤ x11_2) = true := decide_eq_true c35
                            clear c35
                            by_cases c36 : x11_2 < (t256.length : Int)
                            · rw [if_pos c36] at H
                              have c36b0 : decide (x11_2 < (t256.length : Int)) = true := decide_eq_true c36
                              clear c36
                              by_cases c37 : x12_3 < ((rd_L1 t256 x11_2).length : Int)
                              · rw [if_pos c37] at H
                                have c37b0 : decide (x12_3 < ((rd_L1 t256 x11_2).length : Int)) = true := decide_eq_true c37
                                clear c37
                                by_cases c38 : 0 ≤ x12_3
                                · rw [if_pos c38] at H
                                  have c38b0 : decide (0 ≤ x12_3) = true := decide_eq_true c38
                                  clear c38
                                  by_cases c39 : (rd (rd_L1 t256 x11_2) x12_3) = 0
                                  · rw [if_pos c39] at H
                                    have c39b0 : ((rd (rd_L1 t256 x11_2) x12_3) == 0) = true := beq_iff_eq.mpr c39
                                    have c39b1 : ((rd (rd_L1 t256 x11_2) x12_3) != 0) = false := bne_eq_false_iff_eq.mpr c39
                                    clear c39
                                    have H' := Aside0.mk H
                                    clear H
                                    have p259 : 0 ≤ (x11_2 : Int) := of_decide_eq_true (by first | (with_reducible assumption) | assumption)
                                    have q259 : x11_2 < (t256.length : Int) := of_decide_eq_true (by first | (with_reducible assumption) | assumption)
                                    obtain ⟨ad259, A259_0, c259_0, e259, hx259_0, hl259_0, hi259_0⟩ := at_L1 (Kd.S_reads' HO_10.out).2.2 x11_2 p259 q259
                                    cases e259
                                    obtain ⟨ce259, hce259, hMe259, hcc259⟩ := Kd.S_get HO_10.out [] x11_2 p259 (by first | exact q259 | exact of_decide_eq_true (by first | (with_reducible assumption) | assumption) | (have e_ := (Kd.S_reads' HO_10.out).1; omega))
                                    obtain ⟨ve259_0, rfl, ge259_0⟩ := hMe259
                                    have hv259_0 := hcc259 0 _ rfl
                                    rw [Nat.add_zero, show ((Kd.slice 3 (Kd.int .i64))).sz = 1 from rfl, Nat.mul_one] at hv259_0
                                    replace hv259_0 := Option.some.inj (hv259_0.symm.trans hx259_0)
                                    rw [hv259_0] at ge259_0
                                    have HL259_0 := Aside0.mk (show Kd.R (Kd.int .i64) 3 _ _ _ _ (rd_L1 t256 x11_2) from ge259_0)
                                    clear hv259_0 ge259_0
                                    clear hcc259 hce259
                                    have HR259_0 := Aside0.mk hi259_0
                                    have HC259_0 := Aside0.mk hl259_0
                                    clear hi259_0 hl259_0
                                    replace p259 := eq_true p259
                                    replace q259 := eq_true q259
                                    have p260 : 0 ≤ (x11_2 : Int) := of_decide_eq_true (by first | (with_reducible assumption) | assumption)
                                    have q260 : x11_2 < (t256.length : Int) := of_decide_eq_true (by first | (with_reducible assumption) | assumption)
                                    obtain ⟨ad260, A260_0, c260_0, e260, hx260_0, hl260_0, hi260_0⟩ := at_L1 (Kd.S_reads' HO_10.out).2.2 x11_2 p260 q260
                                    obtain rfl : ad259 = ad260 := (by injection e260)
                                    obtain ⟨ce260, hce260, hMe260, hcc260⟩ := Kd.S_get HO_10.out [] x11_2 p260 (by first | exact q260 | exact of_decide_eq_true (by first | (with_reducible assumption) | assumption) | (have e_ := (Kd.S_reads' HO_10.out).1; omega))
                                    obtain ⟨ve260_0, rfl, ge260_0⟩ := hMe260
                                    have hv260_0 := hcc260 0 _ rfl
                                    rw [Nat.add_zero, show ((Kd.slice 3 (Kd.int .i64))).sz = 1 from rfl, Nat.mul_one] at hv260_0
                                    replace hv260_0 := Option.some.inj (hv260_0.symm.trans hx260_0)
                                    rw [hv260_0] at ge260_0
                                    have HL260_0 := Aside0.mk (show Kd.R (Kd.int .i64) 3 _ _ _ _ (rd_L1 t256 x11_2) from ge260_0)
                                    clear hv260_0 ge260_0
                                    clear hcc260 hce260
                                    have HR260_0 := Aside0.mk hi260_0
                                    have HC260_0 := Aside0.mk hl260_0
                                    clear hi260_0 hl260_0
                                    replace p260 := eq_true p260
                                    replace q260 := eq_true q260
                                    have ea_ := Option.some.inj (hx259_0.symm.trans hx260_0)
                                    injection ea_ with ea_ en_ ec_
                                    subst ea_
                                    subst ec_
                                    clear en_
                                    have p261 : 0 ≤ (x12_3 : Int) := of_decide_eq_true (by first | (with_reducible assumption) | assumption)
                                    have q261 : x12_3 < ((rd_L1 t256 x11_2).length : Int) := of_decide_eq_true (by first | (with_reducible assumption) | assumption)
                                    obtain ⟨ad261, e261, hx261_0⟩ := Kd.at_int (by repeat (first | (with_reducible exact HR260_0.out) | (with_reducible refine Kd.C_alloc ?_ _) | (with_reducible refine Kd.C_drewN ?_ _) | (with_reducible refine Kd.C_drew ?_) | exact HR260_0.out)) x12_3 p261 q261
                                    cases e261
                                    replace p261 := eq_true p261
                                    replace q261 := eq_true q261
                                    go_wp2
                                    go_roundg k3
                                    case measure => have := HJ7.out; have := HK2.out; have := HK3.out; omega
                                    case rel => exact ⟨(wrap64 (x12_3 + 1)), (by first | rfl | (simp; done) | (simp only [i64_w, i32_w]; done) | (simp [*]; done) | (simp only [i64_w, i32_w]; first | rfl | (simp; done) | (simp [*]; done))), H', ⟨by have := HJ7.out; have := HK2.out; have := HK3.out; omega⟩, ⟨by (with_reducible repeat (first | apply Kd.S_alloc | apply Kd.S_drewN | apply Kd.S_drew)); exact HO_10.out⟩, ⟨by repeat (first | (with_reducible first | exact HB.out | apply below_alloc | apply pw_below_drewN | apply below_drew1) | exact HB.out)⟩⟩
                                  · rw [if_neg c39] at H
                                    have c39b0 : ((rd (rd_L1 t256 x11_2) x12_3) == 0) = false := beq_eq_false_iff_ne.mpr c39
                                    have c39b1 : ((rd (rd_L1 t256 x11_2) x12_3) != 0) = true := bne_iff_ne.mpr c39
                                    obtain rfl := Option.some.inj H
                                    have p259 : 0 ≤ (x11_2 : Int) := of_decide_eq_true (by first | (with_reducible assumption) | assumption)
                                    have q259 : x11_2 < (t256.length : Int) := of_decide_eq_true (by first | (with_reducible assumption) | assumption)
                                    obtain ⟨ad259, A259_0, c259_0, e259, hx259_0, hl259_0, hi259_0⟩ := at_L1 (Kd.S_reads' HO_10.out).2.2 x11_2 p259 q259
                                    cases e259
                                    obtain ⟨ce259, hce259, hMe259, hcc259⟩ := Kd.S_get HO_10.out [] x11_2 p259 (by first | exact q259 | exact of_decide_eq_true (by first | (with_reducible assumption) | assumption) | (have e_ := (Kd.S_reads' HO_10.out).1; omega))
                                    obtain ⟨ve259_0, rfl, ge259_0⟩ := hMe259
                                    have hv259_0 := hcc259 0 _ rfl
                                    rw [Nat.add_zero, show ((Kd.slice 3 (Kd.int .i64))).sz = 1 from rfl, Nat.mul_one] at hv259_0
                                    replace hv259_0 := Option.some.inj (hv259_0.symm.trans hx259_0)
                                    rw [hv259_0] at ge259_0
                                    have HL259_0 := Aside0.mk (show Kd.R (Kd.int .i64) 3 _ _ _ _ (rd_L1 t256 x11_2) from ge259_0)
                                    clear hv259_0 ge259_0
                                    clear hcc259 hce259
                                    have HR259_0 := Aside0.mk hi259_0
                                    have HC259_0 := Aside0.mk hl259_0
                                    clear hi259_0 hl259_0
                                    replace p259 := eq_true p259
                                    replace q259 := eq_true q259
                                    have p260 : 0 ≤ (x11_2 : Int) := of_decide_eq_true (by first | (with_reducible assumption) | assumption)
                                    have q260 : x11_2 < (t256.length : Int) := of_decide_eq_true (by first | (with_reducible assumption) | assumption)
                                    obtain ⟨ad260, A260_0, c260_0, e260, hx260_0, hl260_0, hi260_0⟩ := at_L1 (Kd.S_reads' HO_10.out).2.2 x11_2 p260 q260
                                    obtain rfl : ad259 = ad260 := (by injection e260)
                                    obtain ⟨ce260, hce260, hMe260, hcc260⟩ := Kd.S_get HO_10.out [] x11_2 p260 (by first | exact q260 | exact of_decide_eq_true (by first | (with_reducible assumption) | assumption) | (have e_ := (Kd.S_reads' HO_10.out).1; omega))
                                    obtain ⟨ve260_0, rfl, ge260_0⟩ := hMe260
                                    have hv260_0 := hcc260 0 _ rfl
                                    rw [Nat.add_zero, show ((Kd.slice 3 (Kd.int .i64))).sz = 1 from rfl, Nat.mul_one] at hv260_0
                                    replace hv260_0 := Option.some.inj (hv260_0.symm.trans hx260_0)
                                    rw [hv260_0] at ge260_0
                                    have HL260_0 := Aside0.mk (show Kd.R (Kd.int .i64) 3 _ _ _ _ (rd_L1 t256 x11_2) from ge260_0)
                                    clear hv260_0 ge260_0
                                    clear hcc260 hce260
                                    have HR260_0 := Aside0.mk hi260_0
                                    have HC260_0 := Aside0.mk hl260_0
                                    clear hi260_0 hl260_0
                                    replace p260 := eq_true p260
                                    replace q260 := eq_true q260
                                    have ea_ := Option.some.inj (hx259_0.symm.trans hx260_0)
                                    injection ea_ with ea_ en_ ec_
                                    subst ea_
                                    subst ec_
                                    clear en_
                                    have p261 : 0 ≤ (x12_3 : Int) := of_decide_eq_true (by first | (with_reducible assumption) | assumption)
                                    have q261 : x12_3 < ((rd_L1 t256 x11_2).length : Int) := of_decide_eq_true (by first | (with_reducible assumption) | assumption)
                                    obtain ⟨ad261, e261, hx261_0⟩ := Kd.at_int (by repeat (first | (with_reducible exact HR260_0.out) | (with_reducible refine Kd.C_alloc ?_ _) | (with_reducible refine Kd.C_drewN ?_ _) | (with_reducible refine Kd.C_drew ?_) | exact HR260_0.out)) x12_3 p261 q261
                                    cases e261
                                    replace p261 := eq_true p261
                                    replace q261 := eq_true q261
                                    go_wp2
                                    go_ret
                                    exact ⟨by first | rfl | (simp [errW_none, errW_some] <;> rfl) | (simp only [← hji5, ← hji27, ← hji28]; first | rfl | (simp [errW_none, errW_some] <;> rfl)) | (simp [*, errW_none, errW_some] <;> rfl), by repeat (first | (with_reducible first | exact HB.out | apply below_alloc | apply pw_below_drewN | apply below_drew1) | exact HB.out)⟩
                                · rw [if_neg c38] at H
                                  exact absurd H (by simp)
                              · rw [if_neg c37] at H
                                have c37b0 : decide (x12_3 < ((rd_L1 t256 x11_2).length : Int)) = false := decide_eq_false c37
                                clear c37
                                have H' := Aside0.mk H
                                clear H
                                have p259 : 0 ≤ (x11_2 : Int) := of_decide_eq_true (by first | (with_reducible assumption) | assumption)
                                have q259 : x11_2 < (t256.length : Int) := of_decide_eq_true (by first | (with_reducible assumption) | assumption)
                                obtain ⟨ad259, A259_0, c259_0, e259, hx259_0, hl259_0, hi259_0⟩ := at_L1 (Kd.S_reads' HO_10.out).2.2 x11_2 p259 q259
                                cases e259
                                obtain ⟨ce259, hce259, hMe259, hcc259⟩ := Kd.S_get HO_10.out [] x11_2 p259 (by first | exact q259 | exact of_decide_eq_true (by first | (with_reducible assumption) | assumption) | (have e_ := (Kd.S_reads' HO_10.out).1; omega))
                                obtain ⟨ve259_0, rfl, ge259_0⟩ := hMe259
                                have hv259_0 := hcc259 0 _ rfl
                                rw [Nat.add_zero, show ((Kd.slice 3 (Kd.int .i64))).sz = 1 from rfl, Nat.mul_one] at hv259_0
                                replace hv259_0 := Option.some.inj (hv259_0.symm.trans hx259_0)
                                rw [hv259_0] at ge259_0
                                have HL259_0 := Aside0.mk (show Kd.R (Kd.int .i64) 3 _ _ _ _ (rd_L1 t256 x11_2) from ge259_0)
                                clear hv259_0 ge259_0
                                clear hcc259 hce259
                                have HR259_0 := Aside0.mk hi259_0
                                have HC259_0 := Aside0.mk hl259_0
                                clear hi259_0 hl259_0
                                replace p259 := eq_true p259
                                replace q259 := eq_true q259
                                go_wp2
                                go_roundg k3
                                case measure => have := HJ7.out; have := HK2.out; have := HK3.out; omega
                                case rel => exact ⟨(wrap64 (x11_2 + 1)), (by first | rfl | (simp; done) | (simp only [i64_w, i32_w]; done) | (simp [*]; done) | (simp only [i64_w, i32_w]; first | rfl | (simp; done) | (simp [*]; done))), H', ⟨by have := HJ7.out; have := HK2.out; have := HK3.out; omega⟩, ⟨by (with_reducible repeat (first | apply Kd.S_alloc | apply Kd.S_drewN | apply Kd.S_drew)); exact HO_10.out⟩, ⟨by repeat (first | (with_reducible first | exact HB.out | apply below_alloc | apply pw_below_drewN | apply below_drew1) | exact HB.out)⟩⟩
                            · rw [if_neg c36] at H
                              exact absurd H (by simp)
                          · rw [if_neg c35] at H
                            exact absurd H (by simp)
                    · rw [if_neg c34] at H
                      have c34b0 : decide (x11_2 < (t256.length : Int)) = false := decide_eq_false c34
                      clear c34
                      obtain rfl := Option.some.inj H
                      go_wp2
                      go_ret
                      exact ⟨by first | rfl | (simp [errW_none, errW_some] <;> rfl) | (simp only [← hji5, ← hji27, ← hji28]; first | rfl | (simp [errW_none, errW_some] <;> rfl)) | (simp [*, errW_none, errW_some] <;> rfl), by repeat (first | (with_reducible first | exact HB.out | apply below_alloc | apply pw_below_drewN | apply below_drew1) | exact HB.out)⟩
              · rw [if_neg c29] at H
                have c29b0 : ((t256.length : Int) == (ji28)) = false := beq_eq_false_iff_ne.mpr c29
                have c29b1 : ((t256.length : Int) != (ji28)) = true := bne_iff_ne.mpr c29
                obtain rfl := Option.some.inj H
                have p25 : 0 ≤ (0 : Int) := (by omega)
                have q25 : (0 : Int) < ((y246.length : Int) : Int) := of_decide_eq_true (by first | (with_reducible assumption) | assumption)
                have qi25 : (0 < y246.length) = True := eq_true (by omega)
                obtain ⟨go25, co25, eo25, gb25, gl25, cl25, HG25⟩ := Kd.R_form HO_8.out (by omega)
                (first | cases eo25 | (injection eo25 with ea_ en_ ec_; (first | subst ea_ | (injection ea_ with ea_; subst ea_)); subst ec_; clear en_))
                have GB25 := Aside0.mk gb25
                have GG25 := Aside0.mk HG25
                clear gb25 gl25 HG25
                obtain ⟨hx25_0, hf25_0⟩ := Kd.R_celln 0 HO_8.out (0 : Int) p25 q25
                (try rw [show ((0 : Int)).toNat = 0 from rfl] at hx25_0)
                (try simp only [Nat.reduceMul, Nat.zero_mul, Nat.zero_add, Nat.reduceAdd] at hx25_0)
                (try rw [show ((0 : Int)).toNat = 0 from rfl] at hf25_0)
                (try simp only [Nat.reduceMul, Nat.zero_mul, Nat.zero_add, Nat.reduceAdd] at hf25_0)
                replace p25 := eq_true p25
                replace q25 := eq_true q25
                have HP40 := Kd.R_putg HO_8.out (0 : Int) (wrap64 (1 + (wrap64 (Int.tmod a0 4611686018427387904))))
                go_wp2_with (first | ((with_reducible refine gate_store (t := 3) (p := 38) rfl ?_); refine store_event (t := 3) (p := 38) (v := ?vo_w41) (w1 := (wc.setCell ⟨go25, (0 : Int).toNat, none⟩ (.int .i64 (wrap64 (1 + (wrap64 (Int.tmod a0 4611686018427387904))))))) ?hg ?ho ?hn ?hr ?_; (case ho => rfl); (case hg => rfl); (case hn => rfl); (case hr => first | (go_simp; done) | (go_simp; rfl)); intro w41 hw; have hg : wc.grownBy w41 (some go25) := (by rw [hw]; exact HP40.2); have hp_ : Kd.R (Kd.int .i64) 3 w41 w.heap.size (fun _ => True) (.slice (some ⟨go25, 0, none⟩) y246.length co25) y255 := (by rw [hw, Ny255.out]; exact HP40.1); clear HP40; have n0_ := Aside0.mk (hp_); have n1_ := Aside0.mk ((by rw [hw]; exact below_set (HB.out) GB25.out : Below w.heap.size w w41)); clear HO_8; clear HB; have HO_8 := n0_; have HB := n1_; clear n0_ n1_; clear hg hw hp_) | ((with_reducible refine gate_callee (f := 12) rfl ?_); refine goesL_ (some 41) rfl rfl Try.func12 (by kernel_rfl) rfl #[.slice (some ⟨go25, 0, none⟩) y255.length co25, .int .i64 (wrap64 (Int.tmod a2 40))] rfl (by (try simp only [List.map_toArray, List.map_cons, List.map_nil]); first | done | (rw [show y255.length = y246.length from (Kd.R_reads' HO_8.out).1.symm] <;> rfl) | rfl | (simp only [List.length_drop, List.length_take]; rfl)) ?_; (with_reducible refine (solve_Solve.calls kj7 _ _ y255 (wrap64 (Int.tmod a2 40)) t256 _ ?side1 ?side2 A26.out).mono ?_); (case side1 => repeat (first | exact (Kd.R_reads' HO_8.out).2.2 | (with_reducible refine Kd.C_alloc ?_ _) | (with_reducible refine Kd.C_drewN ?_ _) | (with_reducible refine Kd.C_drew ?_))); (case side2 => rw [show y255.length = y246.length from (Kd.R_reads' HO_8.out).1.symm]; exact (Kd.R_reads' HO_8.out).2.1); rintro e w42 ⟨v257, rfl, ho0, hb⟩; refine ⟨_, rfl, ?_⟩; have n0_ := Aside0.mk (Kd.R_below (by (with_reducible repeat (first | apply Kd.R_alloc | apply Kd.R_drewN | apply Kd.R_drew)); exact HO_8.out) hb); have n1_ := Aside0.mk (Kd.S_lower (Kd.S_new' ho0 (Kd.R_lt (by (with_reducible repeat (first | apply Kd.R_alloc | apply Kd.R_drewN | apply Kd.R_drew)); exact HO_8.out))) (below_size (by repeat (first | (with_reducible first | exact HB.out | apply below_alloc | apply pw_below_drewN | apply below_drew1) | exact HB.out)))); have n2_ := Aside0.mk (below_step (by repeat (first | (with_reducible first | exact HB.out | apply below_alloc | apply pw_below_drewN | apply below_drew1) | exact HB.out)) hb); clear HO_8; clear HB; have HO_8 := n0_; have HO258 := n1_; have HB := n2_; clear n0_ n1_ n2_; (try clear hb); (try clear hb2); (try clear hk); (try clear hi); (try clear ho0); obtain ⟨Ao43, co43, eo43⟩ := Kd.S_slice HO258.out; subst eo43))
                go_ret
                exact ⟨by first | rfl | (simp [errW_none, errW_some] <;> rfl) | (simp only [← hji5, ← hji27, ← hji28]; first | rfl | (simp [errW_none, errW_some] <;> rfl)) | (simp [*, errW_none, errW_some] <;> rfl), by repeat (first | (with_reducible first | exact HB.out | apply below_alloc | apply pw_below_drewN | apply below_drew1) | exact HB.out)⟩
            · rw [if_neg c24] at H
              exact absurd H (by simp)
    · rw [if_neg c7] at H
      exact absurd H (by simp)
  · rw [if_neg c6] at H
    exact absurd H (by simp)

/-- THE ONE PURE STATEMENT of serinettelaw10_SolveFlat: yours. -/
def serinettelaw10_SolveFlat.Pure : Prop := ∀ (a0 : Int) (a1 : Int) (a2 : Int), (Lit.int .u64 a0).wf = true → (Lit.int .u8 a1).wf = true → (Lit.int .u8 a2).wf = true → ∃ k, serinettelaw10_SolveFlat.f k a0 a1 a2 = some true
theorem serinettelaw10_SolveFlat.walk (P : serinettelaw10_SolveFlat.Pure) (a0 : Int) (a1 : Int) (a2 : Int) (w : World) (w0 : (Lit.int .u64 a0).wf = true) (w1 : (Lit.int .u8 a1).wf = true) (w2 : (Lit.int .u8 a2).wf = true) :
    Calls Try.prog 5 #[.int .u64 a0, .int .u8 a1, .int .u8 a2] w fun e w' => e = .returned (.bool true) ∧ Below w.heap.size w w' := by
  obtain ⟨k, h⟩ := P a0 a1 a2 w0 w1 w2
  refine (serinettelaw10_SolveFlat.calls k a0 a1 a2 true w h).mono ?_
  rintro e w' ⟨rfl, hd⟩
  exact ⟨rfl, hd⟩

end Go.Proofs.Ythcognclnmcbhaa.PA
