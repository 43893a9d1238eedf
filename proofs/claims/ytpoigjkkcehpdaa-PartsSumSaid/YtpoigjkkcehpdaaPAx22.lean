/- Each Go function named below comes to what the plain Lean function of its name answers, wherever that answers (rounds enough, no panic, no row too long); texts by a program of this session by way of the kit's print.py, what that does not take by hand. Condition: what is read lies in memory as each theorem says. -/
import Derived.Test.YtpoigjkkcehpdaaPAx0
import Derived.Test.YtpoigjkkcehpdaaPAx4
import Derived.Test.YtpoigjkkcehpdaaPAx9
namespace Go.Proofs.Ytpoigjkkcehpdaa.PA
open Go.RowKit Go.Proofs.YtpoigjkkcehpdaaW.PrintWords Go.Proofs.YtpoigjkkcehpdaaW.PrintLast Go.Proofs.YtpoigjkkcehpdaaW.PrintMore
attribute [local go_sem] max2_int min2_int max_two min_two max_three min_three max_four min_four   -- for this text's walks alone
set_option linter.unusedVariables false
set_option linter.unusedSimpArgs false

/-! ### serinettelaw14_PartsSum: function 4 -/
def serinettelaw14_PartsSum.l0 : Nat → Bool → Int → Int → Int → List Int → Int → Int → Option (Bool)
  | 0, _, _, _, _, _, _, _ => none
  | k + 1, x7, x8, x9, x10, x11, x12, x13 => if x13 < (x11.length : Int) then (if 0 ≤ x13 then (if 0 ≤ x10 then (if (shl .i64 1 x10) = 0 then (none) else (if x13 = 0 then (if (rd x11 x13) = (wrap64 ((wrap64 (Int.tdiv (wrap64 (x8 + x9)) (shl .i64 1 x10))) - x9)) then (if (rd x11 x13) < 1 then (some false) else (serinettelaw14_PartsSum.l0 k x7 x8 x9 x10 x11 (wrap64 (x12 + (rd x11 x13))) (wrap64 (x13 + 1)))) else (some false)) else (if (rd x11 x13) = (wrap64 (Int.tdiv (wrap64 (x8 + x9)) (shl .i64 1 x10))) then (if (rd x11 x13) < 1 then (some false) else (serinettelaw14_PartsSum.l0 k x7 x8 x9 x10 x11 (wrap64 (x12 + (rd x11 x13))) (wrap64 (x13 + 1)))) else (some false)))) else (none)) else (none)) else (if x7 = true then (if x12 = x8 then (if 0 ≤ x10 then (some ((x11.length : Int) == (shl .i64 1 x10))) else (none)) else (some false)) else (some false))
def serinettelaw14_PartsSum.f (k : Nat) (a0 : Int) (a1 : Int) (a2 : Int) : Option (Bool) := (serinettelaw14_awake.f k).bind fun t289 => ((parts_Cuts.f k (wrap64 (Int.tmod a0 1001)) (wrap64 (Int.tmod a1 33)) (wrap64 (Int.tmod a2 9))).bind fun t290 => (if (t290.length : Int) = 0 then (if t289 = true then (if 0 ≤ (wrap64 (Int.tmod a2 9)) then (if (shl .i64 1 (wrap64 (Int.tmod a2 9))) = 0 then (none) else (if (Int.tmod (wrap64 ((wrap64 (Int.tmod a0 1001)) + (wrap64 (Int.tmod a1 33)))) (shl .i64 1 (wrap64 (Int.tmod a2 9)))) = 0 then (some (decide ((wrap64 (Int.tdiv (wrap64 ((wrap64 (Int.tmod a0 1001)) + (wrap64 (Int.tmod a1 33)))) (shl .i64 1 (wrap64 (Int.tmod a2 9))))) ≤ (wrap64 (Int.tmod a1 33))))) else (some true))) else (none)) else (some false)) else (serinettelaw14_PartsSum.l0 k t289 (wrap64 (Int.tmod a0 1001)) (wrap64 (Int.tmod a1 33)) (wrap64 (Int.tmod a2 9)) t290 0 0)))
theorem serinettelaw14_PartsSum.mono_l : ∀ k, (∀ y0 y1 y2 y3 y4 y5 y6, LeO (serinettelaw14_PartsSum.l0 k y0 y1 y2 y3 y4 y5 y6) (serinettelaw14_PartsSum.l0 (k + 1) y0 y1 y2 y3 y4 y5 y6))
  | 0 => fun _ _ _ _ _ _ _ r h => by simp [serinettelaw14_PartsSum.l0] at h
  | k + 1 => by
    have ih0 := serinettelaw14_PartsSum.mono_l k
    · intro y0 y1 y2 y3 y4 y5 y6
      unfold serinettelaw14_PartsSum.l0
      repeat' first
      | (with_reducible exact ih0 _ _ _ _ _ _ _)
      | (with_reducible exact parts_Cuts.mono _ _ _ _)
      | (with_reducible exact serinettelaw14_awake.mono _)
      | (with_reducible exact LeO.refl _)
      | (with_reducible exact LeO.none _)
      | (with_reducible refine LeO.ite ?_ ?_)
      | (with_reducible refine LeO.bind ?_ (fun _ => ?_))
      | exact ih0 _ _ _ _ _ _ _
      | exact parts_Cuts.mono _ _ _ _
      | exact serinettelaw14_awake.mono _
      | exact LeO.none _
      | refine LeO.ite ?_ ?_
      | refine LeO.bind ?_ (fun _ => ?_)
theorem serinettelaw14_PartsSum.mono : ∀ a0 a1 a2 k, LeO (serinettelaw14_PartsSum.f k a0 a1 a2) (serinettelaw14_PartsSum.f (k + 1) a0 a1 a2) := by
  intro a0 a1 a2 k
  have ih0 := serinettelaw14_PartsSum.mono_l k
  unfold serinettelaw14_PartsSum.f
  repeat' first
      | (with_reducible exact ih0 _ _ _ _ _ _ _)
      | (with_reducible exact parts_Cuts.mono _ _ _ _)
      | (with_reducible exact serinettelaw14_awake.mono _)
      | (with_reducible exact LeO.refl _)
      | (with_reducible exact LeO.none _)
      | (with_reducible refine LeO.ite ?_ ?_)
      | (with_reducible refine LeO.bind ?_ (fun _ => ?_))
      | exact ih0 _ _ _ _ _ _ _
      | exact parts_Cuts.mono _ _ _ _
      | exact serinettelaw14_awake.mono _
      | exact LeO.none _
      | refine LeO.ite ?_ ?_
      | refine LeO.bind ?_ (fun _ => ?_)
set_option maxHeartbeats 8000000 in
set_option maxRecDepth 100000 in
theorem serinettelaw14_PartsSum.calls (k : Nat) (a0 : Int) (a1 : Int) (a2 : Int) (r : Bool) (w : World) (h : serinettelaw14_PartsSum.f k a0 a1 a2 = some r) :
    Calls Try.prog 4 #[.int .u16 a0, .int .u8 a1, .int .u8 a2] w fun e w' => e = .returned (.bool r) ∧ Below w.heap.size w w' := by
  have HB := Aside0.mk (Below.refl w.heap.size w)
  have H : ((serinettelaw14_awake.f k).bind fun t289 => ((parts_Cuts.f k (wrap64 (Int.tmod a0 1001)) (wrap64 (Int.tmod a1 33)) (wrap64 (Int.tmod a2 9))).bind fun t290 => (if (t290.length : Int) = 0 then (if t289 = true then (if 0 ≤ (wrap64 (Int.tmod a2 9)) then (if (shl .i64 1 (wrap64 (Int.tmod a2 9))) = 0 then (none) else (if (Int.tmod (wrap64 ((wrap64 (Int.tmod a0 1001)) + (wrap64 (Int.tmod a1 33)))) (shl .i64 1 (wrap64 (Int.tmod a2 9)))) = 0 then (some (decide ((wrap64 (Int.tdiv (wrap64 ((wrap64 (Int.tmod a0 1001)) + (wrap64 (Int.tmod a1 33)))) (shl .i64 1 (wrap64 (Int.tmod a2 9))))) ≤ (wrap64 (Int.tmod a1 33))))) else (some true))) else (none)) else (some false)) else (serinettelaw14_PartsSum.l0 k t289 (wrap64 (Int.tmod a0 1001)) (wrap64 (Int.tmod a1 33)) (wrap64 (Int.tmod a2 9)) t290 0 0)))) = some r := h
  clear h
  replace H := Option.bind_eq_some_iff.mp H
  obtain ⟨t289, A40, H⟩ := H
  replace H : ((parts_Cuts.f k (wrap64 (Int.tmod a0 1001)) (wrap64 (Int.tmod a1 33)) (wrap64 (Int.tmod a2 9))).bind fun t290 => (if (t290.length : Int) = 0 then (if t289 = true then (if 0 ≤ (wrap64 (Int.tmod a2 9)) then (if (shl .i64 1 (wrap64 (Int.tmod a2 9))) = 0 then (none) else (if (Int.tmod (wrap64 ((wrap64 (Int.tmod a0 1001)) + (wrap64 (Int.tmod a1 33)))) (shl .i64 1 (wrap64 (Int.tmod a2 9)))) = 0 then (some (decide ((wrap64 (Int.tdiv (wrap64 ((wrap64 (Int.tmod a0 1001)) + (wrap64 (Int.tmod a1 33)))) (shl .i64 1 (wrap64 (Int.tmod a2 9))))) ≤ (wrap64 (Int.tmod a1 33))))) else (some true))) else (none)) else (some false)) else (serinettelaw14_PartsSum.l0 k t289 (wrap64 (Int.tmod a0 1001)) (wrap64 (Int.tmod a1 33)) (wrap64 (Int.tmod a2 9)) t290 0 0))) = some r := H
  have A4 := Aside0.mk A40
  clear A40
  replace H := Option.bind_eq_some_iff.mp H
  obtain ⟨t290, A50, H⟩ := H
  replace H : (if (t290.length : Int) = 0 then (if t289 = true then (if 0 ≤ (wrap64 (Int.tmod a2 9)) then (if (shl .i64 1 (wrap64 (Int.tmod a2 9))) = 0 then (none) else (if (Int.tmod (wrap64 ((wrap64 (Int.tmod a0 1001)) + (wrap64 (Int.tmod a1 33)))) (shl .i64 1 (wrap64 (Int.tmod a2 9)))) = 0 then (some (decide ((wrap64 (Int.tdiv (wrap64 ((wrap64 (Int.tmod a0 1001)) + (wrap64 (Int.tmod a1 33)))) (shl .i64 1 (wrap64 (Int.tmod a2 9))))) ≤ (wrap64 (Int.tmod a1 33))))) else (some true))) else (none)) else (some false)) else (serinettelaw14_PartsSum.l0 k t289 (wrap64 (Int.tmod a0 1001)) (wrap64 (Int.tmod a1 33)) (wrap64 (Int.tmod a2 9)) t290 0 0)) = some r := H
  have A5 := Aside0.mk A50
  clear A50
  by_cases c6 : (t290.length : Int) = 0
  · rw [if_pos c6] at H
    have c6b0 : ((t290.length : Int) == 0) = true := beq_iff_eq.mpr c6
    have c6b1 : ((t290.length : Int) != 0) = false := bne_eq_false_iff_eq.mpr c6
    clear c6
    by_cases c7 : t289 = true
    · subst c7
      have H1 : (if 0 ≤ (wrap64 (Int.tmod a2 9)) then (if (shl .i64 1 (wrap64 (Int.tmod a2 9))) = 0 then (none) else (if (Int.tmod (wrap64 ((wrap64 (Int.tmod a0 1001)) + (wrap64 (Int.tmod a1 33)))) (shl .i64 1 (wrap64 (Int.tmod a2 9)))) = 0 then (some (decide ((wrap64 (Int.tdiv (wrap64 ((wrap64 (Int.tmod a0 1001)) + (wrap64 (Int.tmod a1 33)))) (shl .i64 1 (wrap64 (Int.tmod a2 9))))) ≤ (wrap64 (Int.tmod a1 33))))) else (some true))) else (none)) = some r := by rw [if_pos rfl] at H; exact H
      clear H
      have H := H1
      clear H1
      obtain ⟨ji8, hji8⟩ : ∃ j_ : Int, (wrap64 (Int.tmod a2 9)) = j_ := ⟨_, rfl⟩
      replace H : (if 0 ≤ (ji8) then (if (shl .i64 1 (ji8)) = 0 then (none) else (if (Int.tmod (wrap64 ((wrap64 (Int.tmod a0 1001)) + (wrap64 (Int.tmod a1 33)))) (shl .i64 1 (ji8))) = 0 then (some (decide ((wrap64 (Int.tdiv (wrap64 ((wrap64 (Int.tmod a0 1001)) + (wrap64 (Int.tmod a1 33)))) (shl .i64 1 (ji8)))) ≤ (wrap64 (Int.tmod a1 33))))) else (some true))) else (none)) = some r := by first | (rw [hji8] at H; exact H) | (simp only [hji8] at H ⊢; exact H)
      (try rw [hji8] at A4)
      (try rw [hji8] at A5)
      have hji8w : (IntKind.i64.wrap (Int.tmod a2 9)) = ji8 := (i64_w _).trans hji8
      by_cases c9 : 0 ≤ (ji8)
      · rw [if_pos c9] at H
        have c9b0 := eq_true c9
        have c9b1 : decide (0 ≤ (ji8)) = true := decide_eq_true c9
        clear c9
        obtain ⟨ji10, hji10⟩ : ∃ j_ : Int, (shl .i64 1 (ji8)) = j_ := ⟨_, rfl⟩
        replace H : (if (ji10) = 0 then (none) else (if (Int.tmod (wrap64 ((wrap64 (Int.tmod a0 1001)) + (wrap64 (Int.tmod a1 33)))) (ji10)) = 0 then (some (decide ((wrap64 (Int.tdiv (wrap64 ((wrap64 (Int.tmod a0 1001)) + (wrap64 (Int.tmod a1 33)))) (ji10))) ≤ (wrap64 (Int.tmod a1 33))))) else (some true))) = some r := by first | (rw [hji10] at H; exact H) | (simp only [hji10] at H ⊢; exact H)
        (try rw [hji10] at A4)
        (try rw [hji10] at A5)
        have hji10_ : (IntKind.i64.wrap (1 * 2 ^ min (ji8).toNat 64)) = ji10 := hji10
        have hji10z : (ji8) ≤ 64 → (IntKind.i64.wrap (1 * 2 ^ (ji8).toNat)) = ji10 := shl_small hji10
        have hji10u : (IntKind.i64.wrap (2 ^ min (ji8).toNat 64)) = ji10 := by have h_ := hji10_; rw [Int.one_mul] at h_; exact h_
        have hji10v : (ji8) ≤ 64 → (IntKind.i64.wrap (2 ^ (ji8).toNat)) = ji10 := fun hle_ => by have h_ := hji10z hle_; rw [Int.one_mul] at h_; exact h_
        have hji10y : (wrap64 (1 * 2 ^ min (ji8).toNat 64)) = ji10 := (i64_w _).symm.trans hji10_
        have hji10x : (ji8) ≤ 64 → (wrap64 (1 * 2 ^ (ji8).toNat)) = ji10 := fun h_ => (i64_w _).symm.trans (hji10z h_)
        by_cases c11 : (ji10) = 0
        · rw [if_pos c11] at H
          exact absurd H (by simp)
        · rw [if_neg c11] at H
          have c11b0 : ((ji10) == 0) = false := beq_eq_false_iff_ne.mpr c11
          have c11b1 : ((ji10) != 0) = true := bne_iff_ne.mpr c11
          by_cases c12 : (Int.tmod (wrap64 ((wrap64 (Int.tmod a0 1001)) + (wrap64 (Int.tmod a1 33)))) (ji10)) = 0
          · rw [if_pos c12] at H
            have c12b0 : ((Int.tmod (wrap64 ((wrap64 (Int.tmod a0 1001)) + (wrap64 (Int.tmod a1 33)))) (ji10)) == 0) = true := beq_iff_eq.mpr c12
            have c12b1 : ((Int.tmod (wrap64 ((wrap64 (Int.tmod a0 1001)) + (wrap64 (Int.tmod a1 33)))) (ji10)) != 0) = false := bne_eq_false_iff_eq.mpr c12
            clear c12
            have c13b0 := eq_true (of_decide_eq_true (by first | (with_reducible assumption) | assumption) : 0 ≤ (ji8))
            obtain rfl := Option.some.inj H
            go_enter Try.func4, Try.ntmps4
            go_wp2_with (first | ((with_reducible refine gate_callee (f := 8) rfl ?_); refine goesL_ (some 15) rfl rfl Try.func8 (by kernel_rfl) rfl #[] rfl (by (try simp only [List.map_toArray, List.map_cons, List.map_nil]); first | done | rfl | (simp only [List.length_drop, List.length_take]; rfl)) ?_; (with_reducible refine (serinettelaw14_awake.calls k  true _ A4.out).mono ?_); rintro e w15 ⟨rfl, hb⟩; refine ⟨_, rfl, ?_⟩; have n0_ := Aside0.mk (below_step (by repeat (first | (with_reducible first | exact HB.out | apply below_alloc | apply pw_below_drewN | apply below_drew1) | exact HB.out)) hb); clear HB; have HB := n0_; clear n0_; (try clear hb); (try clear hb2); (try clear hk); (try clear hi)) | ((with_reducible refine gate_callee (f := 12) rfl ?_); refine goesL_ (some 28) rfl rfl Try.func12 (by kernel_rfl) rfl #[.int .i64 (wrap64 (Int.tmod a0 1001)), .int .i64 (wrap64 (Int.tmod a1 33)), .int .i64 ji8] rfl (by (try simp only [List.map_toArray, List.map_cons, List.map_nil]); first | done | (simp only [hji8]; rfl) | rfl | (simp only [List.length_drop, List.length_take]; rfl)) ?_; (with_reducible refine (parts_Cuts.calls k (wrap64 (Int.tmod a0 1001)) (wrap64 (Int.tmod a1 33)) ji8 t290 _ A5.out).mono ?_); rintro e w16 ⟨v291, rfl, ho0, hb⟩; refine ⟨_, rfl, ?_⟩; have n0_ := Aside0.mk (Kd.R_lower ho0 (below_size (by repeat (first | (with_reducible first | exact HB.out | apply below_alloc | apply pw_below_drewN | apply below_drew1) | exact HB.out)))); have n1_ := Aside0.mk (below_step (by repeat (first | (with_reducible first | exact HB.out | apply below_alloc | apply pw_below_drewN | apply below_drew1) | exact HB.out)) hb); clear HB; have HO292 := n0_; have HB := n1_; clear n0_ n1_; (try clear hb); (try clear hb2); (try clear hk); (try clear hi); (try clear ho0); obtain ⟨Ao17, co17, eo17⟩ := Kd.R_slice HO292.out; subst eo17))
            go_ret
            exact ⟨by first | rfl | (simp [errW_none, errW_some] <;> rfl) | (simp only [← hji8, ← hji10]; first | rfl | (simp [errW_none, errW_some] <;> rfl)) | (simp [*, errW_none, errW_some] <;> rfl), by repeat (first | (with_reducible first | exact HB.out | apply below_alloc | apply pw_below_drewN | apply below_drew1) | exact HB.out)⟩
          · rw [if_neg c12] at H
            have c12b0 : ((Int.tmod (wrap64 ((wrap64 (Int.tmod a0 1001)) + (wrap64 (Int.tmod a1 33)))) (ji10)) == 0) = false := beq_eq_false_iff_ne.mpr c12
            have c12b1 : ((Int.tmod (wrap64 ((wrap64 (Int.tmod a0 1001)) + (wrap64 (Int.tmod a1 33)))) (ji10)) != 0) = true := bne_iff_ne.mpr c12
            obtain rfl := Option.some.inj H
            go_enter Try.func4, Try.ntmps4
            go_wp2_with (first | ((with_reducible refine gate_callee (f := 8) rfl ?_); refine goesL_ (some 15) rfl rfl Try.func8 (by kernel_rfl) rfl #[] rfl (by (try simp only [List.map_toArray, List.map_cons, List.map_nil]); first | done | rfl | (simp only [List.length_drop, List.length_take]; rfl)) ?_; (with_reducible refine (serinettelaw14_awake.calls k  true _ A4.out).mono ?_); rintro e w18 ⟨rfl, hb⟩; refine ⟨_, rfl, ?_⟩; have n0_ := Aside0.mk (below_step (by repeat (first | (with_reducible first | exact HB.out | apply below_alloc | apply pw_below_drewN | apply below_drew1) | exact HB.out)) hb); clear HB; have HB := n0_; clear n0_; (try clear hb); (try clear hb2); (try clear hk); (try clear hi)) | ((with_reducible refine gate_callee (f := 12) rfl ?_); refine goesL_ (some 28) rfl rfl Try.func12 (by kernel_rfl) rfl #[.int .i64 (wrap64 (Int.tmod a0 1001)), .int .i64 (wrap64 (Int.tmod a1 33)), .int .i64 ji8] rfl (by (try simp only [List.map_toArray, List.map_cons, List.map_nil]); first | done | (simp only [hji8]; rfl) | rfl | (simp only [List.length_drop, List.length_take]; rfl)) ?_; (with_reducible refine (parts_Cuts.calls k (wrap64 (Int.tmod a0 1001)) (wrap64 (Int.tmod a1 33)) ji8 t290 _ A5.out).mono ?_); rintro e w19 ⟨v291, rfl, ho0, hb⟩; refine ⟨_, rfl, ?_⟩; have n0_ := Aside0.mk (Kd.R_lower ho0 (below_size (by repeat (first | (with_reducible first | exact HB.out | apply below_alloc | apply pw_below_drewN | apply below_drew1) | exact HB.out)))); have n1_ := Aside0.mk (below_step (by repeat (first | (with_reducible first | exact HB.out | apply below_alloc | apply pw_below_drewN | apply below_drew1) | exact HB.out)) hb); clear HB; have HO292 := n0_; have HB := n1_; clear n0_ n1_; (try clear hb); (try clear hb2); (try clear hk); (try clear hi); (try clear ho0); obtain ⟨Ao20, co20, eo20⟩ := Kd.R_slice HO292.out; subst eo20))
            go_ret
            exact ⟨by first | rfl | (simp [errW_none, errW_some] <;> rfl) | (simp only [← hji8, ← hji10]; first | rfl | (simp [errW_none, errW_some] <;> rfl)) | (simp [*, errW_none, errW_some] <;> rfl), by repeat (first | (with_reducible first | exact HB.out | apply below_alloc | apply pw_below_drewN | apply below_drew1) | exact HB.out)⟩
      · rw [if_neg c9] at H
        exact absurd H (by simp)
    · replace c7 := Bool.eq_false_iff.mpr c7
      subst c7
      have H1 : (some false) = some r := by rw [if_neg (show ¬ (false = true) by decide)] at H; exact H
      clear H
      have H := H1
      clear H1
      obtain rfl := Option.some.inj H
      go_enter Try.func4, Try.ntmps4
      go_wp2_with (first | ((with_reducible refine gate_callee (f := 8) rfl ?_); refine goesL_ (some 15) rfl rfl Try.func8 (by kernel_rfl) rfl #[] rfl (by (try simp only [List.map_toArray, List.map_cons, List.map_nil]); first | done | rfl | (simp only [List.length_drop, List.length_take]; rfl)) ?_; (with_reducible refine (serinettelaw14_awake.calls k  false _ A4.out).mono ?_); rintro e w21 ⟨rfl, hb⟩; refine ⟨_, rfl, ?_⟩; have n0_ := Aside0.mk (below_step (by repeat (first | (with_reducible first | exact HB.out | apply below_alloc | apply pw_below_drewN | apply below_drew1) | exact HB.out)) hb); clear HB; have HB := n0_; clear n0_; (try clear hb); (try clear hb2); (try clear hk); (try clear hi)) | ((with_reducible refine gate_callee (f := 12) rfl ?_); refine goesL_ (some 28) rfl rfl Try.func12 (by kernel_rfl) rfl #[.int .i64 (wrap64 (Int.tmod a0 1001)), .int .i64 (wrap64 (Int.tmod a1 33)), .int .i64 (wrap64 (Int.tmod a2 9))] rfl (by (try simp only [List.map_toArray, List.map_cons, List.map_nil]); first | done | rfl | (simp only [List.length_drop, List.length_take]; rfl)) ?_; (with_reducible refine (parts_Cuts.calls k (wrap64 (Int.tmod a0 1001)) (wrap64 (Int.tmod a1 33)) (wrap64 (Int.tmod a2 9)) t290 _ A5.out).mono ?_); rintro e w22 ⟨v291, rfl, ho0, hb⟩; refine ⟨_, rfl, ?_⟩; have n0_ := Aside0.mk (Kd.R_lower ho0 (below_size (by repeat (first | (with_reducible first | exact HB.out | apply below_alloc | apply pw_below_drewN | apply below_drew1) | exact HB.out)))); have n1_ := Aside0.mk (below_step (by repeat (first | (with_reducible first | exact HB.out | apply below_alloc | apply pw_below_drewN | apply below_drew1) | exact HB.out)) hb); clear HB; have HO292 := n0_; have HB := n1_; clear n0_ n1_; (try clear hb); (try clear hb2); (try clear hk); (try clear hi); (try clear ho0); obtain ⟨Ao23, co23, eo23⟩ := Kd.R_slice HO292.out; subst eo23))
      go_ret
      exact ⟨by first | rfl | (simp [errW_none, errW_some] <;> rfl) | (simp [*, errW_none, errW_some] <;> rfl), by repeat (first | (with_reducible first | exact HB.out | apply below_alloc | apply pw_below_drewN | apply below_drew1) | exact HB.out)⟩
  · rw [if_neg c6] at H
    have c6b0 : ((t290.length : Int) == 0) = false := beq_eq_false_iff_ne.mpr c6
    have c6b1 : ((t290.length : Int) != 0) = true := bne_iff_ne.mpr c6
    have c6b2 : ¬ (t290 = []) := fun h_ => c6 (by rw [h_]; rfl)
    have H' := Aside0.mk H
    clear H
    go_enter Try.func4, Try.ntmps4
    go_wp2_with (first | ((with_reducible refine gate_callee (f := 8) rfl ?_); refine goesL_ (some 15) rfl rfl Try.func8 (by kernel_rfl) rfl #[] rfl (by (try simp only [List.map_toArray, List.map_cons, List.map_nil]); first | done | rfl | (simp only [List.length_drop, List.length_take]; rfl)) ?_; (with_reducible refine (serinettelaw14_awake.calls k  t289 _ A4.out).mono ?_); rintro e w24 ⟨rfl, hb⟩; refine ⟨_, rfl, ?_⟩; have n0_ := Aside0.mk (below_step (by repeat (first | (with_reducible first | exact HB.out | apply below_alloc | apply pw_below_drewN | apply below_drew1) | exact HB.out)) hb); clear HB; have HB := n0_; clear n0_; (try clear hb); (try clear hb2); (try clear hk); (try clear hi)) | ((with_reducible refine gate_callee (f := 12) rfl ?_); refine goesL_ (some 28) rfl rfl Try.func12 (by kernel_rfl) rfl #[.int .i64 (wrap64 (Int.tmod a0 1001)), .int .i64 (wrap64 (Int.tmod a1 33)), .int .i64 (wrap64 (Int.tmod a2 9))] rfl (by (try simp only [List.map_toArray, List.map_cons, List.map_nil]); first | done | rfl | (simp only [List.length_drop, List.length_take]; rfl)) ?_; (with_reducible refine (parts_Cuts.calls k (wrap64 (Int.tmod a0 1001)) (wrap64 (Int.tmod a1 33)) (wrap64 (Int.tmod a2 9)) t290 _ A5.out).mono ?_); rintro e w25 ⟨v291, rfl, ho0, hb⟩; refine ⟨_, rfl, ?_⟩; have n0_ := Aside0.mk (Kd.R_lower ho0 (below_size (by repeat (first | (with_reducible first | exact HB.out | apply below_alloc | apply pw_below_drewN | apply below_drew1) | exact HB.out)))); have n1_ := Aside0.mk (below_step (by repeat (first | (with_reducible first | exact HB.out | apply below_alloc | apply pw_below_drewN | apply below_drew1) | exact HB.out)) hb); clear HB; have HO292 := n0_; have HB := n1_; clear n0_ n1_; (try clear hb); (try clear hb2); (try clear hk); (try clear hi); (try clear ho0); obtain ⟨Ao26, co26, eo26⟩ := Kd.R_slice HO292.out; subst eo26))
    go_loopg [12, 13] k (fun kq v12 v13 w' => ∃ (x12_1 : Int) (x13_1 : Int), v12 = .int .i64 x12_1 ∧ v13 = .int .i64 x13_1 ∧ Aside0 (serinettelaw14_PartsSum.l0 kq t289 (wrap64 (Int.tmod a0 1001)) (wrap64 (Int.tmod a1 33)) (wrap64 (Int.tmod a2 9)) t290 x12_1 x13_1 = some r) ∧ Aside0 (kq ≤ k) ∧ Aside0 (Kd.R (Kd.int .i64) 3 w' w.heap.size (fun _ => True) (.slice Ao26 t290.length co26) t290) ∧ Aside0 (Below w.heap.size w w'))
    case atStart => exact ⟨(0), (0), (by first | rfl | (simp; done) | (simp only [i64_w, i32_w]; done) | (simp [*]; done) | (simp only [i64_w, i32_w]; first | rfl | (simp; done) | (simp [*]; done))), (by first | rfl | (simp; done) | (simp only [i64_w, i32_w]; done) | (simp [*]; done) | (simp only [i64_w, i32_w]; first | rfl | (simp; done) | (simp [*]; done))), H', ⟨Nat.le_refl _⟩, ⟨by (with_reducible repeat (first | apply Kd.R_alloc | apply Kd.R_drewN | apply Kd.R_drew)); exact HO292.out⟩, ⟨by repeat (first | (with_reducible first | exact HB.out | apply below_alloc | apply pw_below_drewN | apply below_drew1) | exact HB.out)⟩⟩
    case round =>
      clear H'
      try clear c1
      try clear p2
      try clear c4
      try clear c6
      try clear c6b0
      try clear c6b1
      try clear c6b2
      try clear p6
      try clear c7
      try clear c8
      try clear c9
      try clear c9b0
      try clear c9b1
      try clear c11
      try clear c11b0
      try clear c11b1
      try clear c12
      try clear c12b0
      try clear c12b1
      try clear c13
      try clear c13b0
      try clear c14
      try clear c14b0
      obtain ⟨x12_1, x13_1, rfl, rfl, HA, HK1, HO_11, HB⟩ := hrel
      cases gk with
      | zero => exact absurd HA.out (by simp [serinettelaw14_PartsSum.l0])
      | succ k1 =>
        have H := HA.out
        clear HA
        simp only [serinettelaw14_PartsSum.l0] at H
        by_cases c27 : x13_1 < (t290.length : Int)
        · rw [if_pos c27] at H
          have c27b0 : decide (x13_1 < (t290.length : Int)) = true := decide_eq_true c27
          clear c27
          by_cases c28 : 0 ≤ x13_1
          · rw [if_pos c28] at H
            have c28b0 : decide (0 ≤ x13_1) = true := decide_eq_true c28
            clear c28
            obtain ⟨ji29, hji29⟩ : ∃ j_ : Int, (wrap64 (Int.tmod a2 9)) = j_ := ⟨_, rfl⟩
            replace H : (if 0 ≤ (ji29) then (if (shl .i64 1 (ji29)) = 0 then (none) else (if x13_1 = 0 then (if (rd t290 x13_1) = (wrap64 ((wrap64 (Int.tdiv (wrap64 ((wrap64 (Int.tmod a0 1001)) + (wrap64 (Int.tmod a1 33)))) (shl .i64 1 (ji29)))) - (wrap64 (Int.tmod a1 33)))) then (if (rd t290 x13_1) < 1 then (some false) else (serinettelaw14_PartsSum.l0 k1 t289 (wrap64 (Int.tmod a0 1001)) (wrap64 (Int.tmod a1 33)) (ji29) t290 (wrap64 (x12_1 + (rd t290 x13_1))) (wrap64 (x13_1 + 1)))) else (some false)) else (if (rd t290 x13_1) = (wrap64 (Int.tdiv (wrap64 ((wrap64 (Int.tmod a0 1001)) + (wrap64 (Int.tmod a1 33)))) (shl .i64 1 (ji29)))) then (if (rd t290 x13_1) < 1 then (some false) else (serinettelaw14_PartsSum.l0 k1 t289 (wrap64 (Int.tmod a0 1001)) (wrap64 (Int.tmod a1 33)) (ji29) t290 (wrap64 (x12_1 + (rd t290 x13_1))) (wrap64 (x13_1 + 1)))) else (some false)))) else (none)) = some r := by first | (rw [hji29] at H; exact H) | (simp only [hji29] at H ⊢; exact H)
            have hji29w : (IntKind.i64.wrap (Int.tmod a2 9)) = ji29 := (i64_w _).trans hji29
            by_cases c30 : 0 ≤ (ji29)
            · rw [if_pos c30] at H
              have c30b0 := eq_true c30
              have c30b1 : decide (0 ≤ (ji29)) = true := decide_eq_true c30
              clear c30
              obtain ⟨ji31, hji31⟩ : ∃ j_ : Int, (shl .i64 1 (ji29)) = j_ := ⟨_, rfl⟩
              replace H : (if (ji31) = 0 then (none) else (if x13_1 = 0 then (if (rd t290 x13_1) = (wrap64 ((wrap64 (Int.tdiv (wrap64 ((wrap64 (Int.tmod a0 1001)) + (wrap64 (Int.tmod a1 33)))) (ji31))) - (wrap64 (Int.tmod a1 33)))) then (if (rd t290 x13_1) < 1 then (some false) else (serinettelaw14_PartsSum.l0 k1 t289 (wrap64 (Int.tmod a0 1001)) (wrap64 (Int.tmod a1 33)) (ji29) t290 (wrap64 (x12_1 + (rd t290 x13_1))) (wrap64 (x13_1 + 1)))) else (some false)) else (if (rd t290 x13_1) = (wrap64 (Int.tdiv (wrap64 ((wrap64 (Int.tmod a0 1001)) + (wrap64 (Int.tmod a1 33)))) (ji31))) then (if (rd t290 x13_1) < 1 then (some false) else (serinettelaw14_PartsSum.l0 k1 t289 (wrap64 (Int.tmod a0 1001)) (wrap64 (Int.tmod a1 33)) (ji29) t290 (wrap64 (x12_1 + (rd t290 x13_1))) (wrap64 (x13_1 + 1)))) else (some false)))) = some r := by first | (rw [hji31] at H; exact H) | (simp only [hji31] at H ⊢; exact H)
              have hji31_ : (IntKind.i64.wrap (1 * 2 ^ min (ji29).toNat 64)) = ji31 := hji31
              have hji31z : (ji29) ≤ 64 → (IntKind.i64.wrap (1 * 2 ^ (ji29).toNat)) = ji31 := shl_small hji31
              have hji31u : (IntKind.i64.wrap (2 ^ min (ji29).toNat 64)) = ji31 := by have h_ := hji31_; rw [Int.one_mul] at h_; exact h_
              have hji31v : (ji29) ≤ 64 → (IntKind.i64.wrap (2 ^ (ji29).toNat)) = ji31 := fun hle_ => by have h_ := hji31z hle_; rw [Int.one_mul] at h_; exact h_
              have hji31y : (wrap64 (1 * 2 ^ min (ji29).toNat 64)) = ji31 := (i64_w _).symm.trans hji31_
              have hji31x : (ji29) ≤ 64 → (wrap64 (1 * 2 ^ (ji29).toNat)) = ji31 := fun h_ => (i64_w _).symm.trans (hji31z h_)
              by_cases c32 : (ji31) = 0
              · rw [if_pos c32] at H
                exact absurd H (by simp)
              · rw [if_neg c32] at H
                have c32b0 : ((ji31) == 0) = false := beq_eq_false_iff_ne.mpr c32
                have c32b1 : ((ji31) != 0) = true := bne_iff_ne.mpr c32
                by_cases c33 : x13_1 = 0
                · rw [if_pos c33] at H
                  have c33b0 : (x13_1 == 0) = true := beq_iff_eq.mpr c33
                  have c33b1 : (x13_1 != 0) = false := bne_eq_false_iff_eq.mpr c33
                  clear c33
                  by_cases c34 : (rd t290 x13_1) = (wrap64 ((wrap64 (Int.tdiv (wrap64 ((wrap64 (Int.tmod a0 1001)) + (wrap64 (Int.tmod a1 33)))) (ji31))) - (wrap64 (Int.tmod a1 33))))
                  · rw [if_pos c34] at H
                    have c34b0 : ((rd t290 x13_1) == (wrap64 ((wrap64 (Int.tdiv (wrap64 ((wrap64 (Int.tmod a0 1001)) + (wrap64 (Int.tmod a1 33)))) (ji31))) - (wrap64 (Int.tmod a1 33))))) = true := beq_iff_eq.mpr c34
                    have c34b1 : ((rd t290 x13_1) != (wrap64 ((wrap64 (Int.tdiv (wrap64 ((wrap64 (Int.tmod a0 1001)) + (wrap64 (Int.tmod a1 33)))) (ji31))) - (wrap64 (Int.tmod a1 33))))) = false := bne_eq_false_iff_eq.mpr c34
                    clear c34
                    by_cases c35 : (rd t290 x13_1) < 1
                    · rw [if_pos c35] at H
                      have c35b0 : decide ((rd t290 x13_1) < 1) = true := decide_eq_true c35
                      clear c35
                      obtain rfl := Option.some.inj H
                      have p293 : 0 ≤ (x13_1 : Int) := of_decide_eq_true (by first | (with_reducible assumption) | assumption)
                      have q293 : x13_1 < (t290.length : Int) := of_decide_eq_true (by first | (with_reducible assumption) | assumption)
                      obtain ⟨ad293, e293, hx293_0⟩ := Kd.at_int (Kd.R_reads' HO_11.out).2.2 x13_1 p293 q293
                      cases e293
                      replace p293 := eq_true p293
                      replace q293 := eq_true q293
                      have p294 : 0 ≤ (x13_1 : Int) := of_decide_eq_true (by first | (with_reducible assumption) | assumption)
                      have q294 : x13_1 < (t290.length : Int) := of_decide_eq_true (by first | (with_reducible assumption) | assumption)
                      obtain ⟨ad294, e294, hx294_0⟩ := Kd.at_int (Kd.R_reads' HO_11.out).2.2 x13_1 p294 q294
                      obtain rfl : ad293 = ad294 := (by injection e294)
                      replace p294 := eq_true p294
                      replace q294 := eq_true q294
                      have p295 : 0 ≤ (x13_1 : Int) := of_decide_eq_true (by first | (with_reducible assumption) | assumption)
                      have q295 : x13_1 < (t290.length : Int) := of_decide_eq_true (by first | (with_reducible assumption) | assumption)
                      obtain ⟨ad295, e295, hx295_0⟩ := Kd.at_int (Kd.R_reads' HO_11.out).2.2 x13_1 p295 q295
                      obtain rfl : ad293 = ad295 := (by injection e295)
                      replace p295 := eq_true p295
                      replace q295 := eq_true q295
                      go_wp2
                      go_ret
                      exact ⟨by first | rfl | (simp [errW_none, errW_some] <;> rfl) | (simp only [← hji29, ← hji31]; first | rfl | (simp [errW_none, errW_some] <;> rfl)) | (simp [*, errW_none, errW_some] <;> rfl), by repeat (first | (with_reducible first | exact HB.out | apply below_alloc | apply pw_below_drewN | apply below_drew1) | exact HB.out)⟩
                    · rw [if_neg c35] at H
                      have c35b0 : decide ((rd t290 x13_1) < 1) = false := decide_eq_false c35
                      clear c35
                      have H' := Aside0.mk H
                      clear H
                      have p293 : 0 ≤ (x13_1 : Int) := of_decide_eq_true (by first | (with_reducible assumption) | assumption)
                      have q293 : x13_1 < (t290.length : Int) := of_decide_eq_true (by first | (with_reducible assumption) | assumption)
                      obtain ⟨ad293, e293, hx293_0⟩ := Kd.at_int (Kd.R_reads' HO_11.out).2.2 x13_1 p293 q293
                      cases e293
                      replace p293 := eq_true p293
                      replace q293 := eq_true q293
                      have p294 : 0 ≤ (x13_1 : Int) := of_decide_eq_true (by first | (with_reducible assumption) | assumption)
                      have q294 : x13_1 < (t290.length : Int) := of_decide_eq_true (by first | (with_reducible assumption) | assumption)
                      obtain ⟨ad294, e294, hx294_0⟩ := Kd.at_int (Kd.R_reads' HO_11.out).2.2 x13_1 p294 q294
                      obtain rfl : ad293 = ad294 := (by injection e294)
                      replace p294 := eq_true p294
                      replace q294 := eq_true q294
                      have p295 : 0 ≤ (x13_1 : Int) := of_decide_eq_true (by first | (with_reducible assumption) | assumption)
                      have q295 : x13_1 < (t290.length : Int) := of_decide_eq_true (by first | (with_reducible assumption) | assumption)
                      obtain ⟨ad295, e295, hx295_0⟩ := Kd.at_int (Kd.R_reads' HO_11.out).2.2 x13_1 p295 q295
                      obtain rfl : ad293 = ad295 := (by injection e295)
                      replace p295 := eq_true p295
                      replace q295 := eq_true q295
                      go_wp2
                      (try subst hji29)
                      go_roundg k1
                      case measure => have := HK1.out; omega
                      case rel => exact ⟨(wrap64 (x12_1 + (rd t290 x13_1))), (wrap64 (x13_1 + 1)), (by first | rfl | (simp; done) | (simp only [i64_w, i32_w]; done) | (simp [*]; done) | (simp only [i64_w, i32_w]; first | rfl | (simp; done) | (simp [*]; done))), (by first | rfl | (simp; done) | (simp only [i64_w, i32_w]; done) | (simp [*]; done) | (simp only [i64_w, i32_w]; first | rfl | (simp; done) | (simp [*]; done))), H', ⟨by have := HK1.out; omega⟩, ⟨by (with_reducible repeat (first | apply Kd.R_alloc | apply Kd.R_drewN | apply Kd.R_drew)); exact HO_11.out⟩, ⟨by repeat (first | (with_reducible first | exact HB.out | apply below_alloc | apply pw_below_drewN | apply below_drew1) | exact HB.out)⟩⟩
                  · rw [if_neg c34] at H
                    have c34b0 : ((rd t290 x13_1) == (wrap64 ((wrap64 (Int.tdiv (wrap64 ((wrap64 (Int.tmod a0 1001)) + (wrap64 (Int.tmod a1 33)))) (ji31))) - (wrap64 (Int.tmod a1 33))))) = false := beq_eq_false_iff_ne.mpr c34
                    have c34b1 : ((rd t290 x13_1) != (wrap64 ((wrap64 (Int.tdiv (wrap64 ((wrap64 (Int.tmod a0 1001)) + (wrap64 (Int.tmod a1 33)))) (ji31))) - (wrap64 (Int.tmod a1 33))))) = true := bne_iff_ne.mpr c34
                    obtain rfl := Option.some.inj H
                    have p293 : 0 ≤ (x13_1 : Int) := of_decide_eq_true (by first | (with_reducible assumption) | assumption)
                    have q293 : x13_1 < (t290.length : Int) := of_decide_eq_true (by first | (with_reducible assumption) | assumption)
                    obtain ⟨ad293, e293, hx293_0⟩ := Kd.at_int (Kd.R_reads' HO_11.out).2.2 x13_1 p293 q293
                    cases e293
                    replace p293 := eq_true p293
                    replace q293 := eq_true q293
                    have p294 : 0 ≤ (x13_1 : Int) := of_decide_eq_true (by first | (with_reducible assumption) | assumption)
                    have q294 : x13_1 < (t290.length : Int) := of_decide_eq_true (by first | (with_reducible assumption) | assumption)
                    obtain ⟨ad294, e294, hx294_0⟩ := Kd.at_int (Kd.R_reads' HO_11.out).2.2 x13_1 p294 q294
                    obtain rfl : ad293 = ad294 := (by injection e294)
                    replace p294 := eq_true p294
                    replace q294 := eq_true q294
                    go_wp2
                    go_ret
                    exact ⟨by first | rfl | (simp [errW_none, errW_some] <;> rfl) | (simp only [← hji29, ← hji31]; first | rfl | (simp [errW_none, errW_some] <;> rfl)) | (simp [*, errW_none, errW_some] <;> rfl), by repeat (first | (with_reducible first | exact HB.out | apply below_alloc | apply pw_below_drewN | apply below_drew1) | exact HB.out)⟩
                · rw [if_neg c33] at H
                  have c33b0 : (x13_1 == 0) = false := beq_eq_false_iff_ne.mpr c33
                  have c33b1 : (x13_1 != 0) = true := bne_iff_ne.mpr c33
                  by_cases c36 : (rd t290 x13_1) = (wrap64 (Int.tdiv (wrap64 ((wrap64 (Int.tmod a0 1001)) + (wrap64 (Int.tmod a1 33)))) (ji31)))
                  · rw [if_pos c36] at H
                    have c36b0 : ((rd t290 x13_1) == (wrap64 (Int.tdiv (wrap64 ((wrap64 (Int.tmod a0 1001)) + (wrap64 (Int.tmod a1 33)))) (ji31)))) = true := beq_iff_eq.mpr c36
                    have c36b1 : ((rd t290 x13_1) != (wrap64 (Int.tdiv (wrap64 ((wrap64 (Int.tmod a0 1001)) + (wrap64 (Int.tmod a1 33)))) (ji31)))) = false := bne_eq_false_iff_eq.mpr c36
                    clear c36
                    by_cases c37 : (rd t290 x13_1) < 1
                    · rw [if_pos c37] at H
                      have c37b0 : decide ((rd t290 x13_1) < 1) = true := decide_eq_true c37
                      clear c37
                      obtain rfl := Option.some.inj H
                      have p293 : 0 ≤ (x13_1 : Int) := of_decide_eq_true (by first | (with_reducible assumption) | assumption)
                      have q293 : x13_1 < (t290.length : Int) := of_decide_eq_true (by first | (with_reducible assumption) | assumption)
                      obtain ⟨ad293, e293, hx293_0⟩ := Kd.at_int (Kd.R_reads' HO_11.out).2.2 x13_1 p293 q293
                      cases e293
                      replace p293 := eq_true p293
                      replace q293 := eq_true q293
                      have p296 : 0 ≤ (x13_1 : Int) := of_decide_eq_true (by first | (with_reducible assumption) | assumption)
                      have q296 : x13_1 < (t290.length : Int) := of_decide_eq_true (by first | (with_reducible assumption) | assumption)
                      obtain ⟨ad296, e296, hx296_0⟩ := Kd.at_int (Kd.R_reads' HO_11.out).2.2 x13_1 p296 q296
                      obtain rfl : ad293 = ad296 := (by injection e296)
                      replace p296 := eq_true p296
                      replace q296 := eq_true q296
                      have p297 : 0 ≤ (x13_1 : Int) := of_decide_eq_true (by first | (with_reducible assumption) | assumption)
                      have q297 : x13_1 < (t290.length : Int) := of_decide_eq_true (by first | (with_reducible assumption) | assumption)
                      obtain ⟨ad297, e297, hx297_0⟩ := Kd.at_int (Kd.R_reads' HO_11.out).2.2 x13_1 p297 q297
                      obtain rfl : ad293 = ad297 := (by injection e297)
                      replace p297 := eq_true p297
                      replace q297 := eq_true q297
                      go_wp2
                      go_ret
                      exact ⟨by first | rfl | (simp [errW_none, errW_some] <;> rfl) | (simp only [← hji29, ← hji31]; first | rfl | (simp [errW_none, errW_some] <;> rfl)) | (simp [*, errW_none, errW_some] <;> rfl), by repeat (first | (with_reducible first | exact HB.out | apply below_alloc | apply pw_below_drewN | apply below_drew1) | exact HB.out)⟩
                    · rw [if_neg c37] at H
                      have c37b0 : decide ((rd t290 x13_1) < 1) = false := decide_eq_false c37
                      clear c37
                      have H' := Aside0.mk H
                      clear H
                      have p293 : 0 ≤ (x13_1 : Int) := of_decide_eq_true (by first | (with_reducible assumption) | assumption)
                      have q293 : x13_1 < (t290.length : Int) := of_decide_eq_true (by first | (with_reducible assumption) | assumption)
                      obtain ⟨ad293, e293, hx293_0⟩ := Kd.at_int (Kd.R_reads' HO_11.out).2.2 x13_1 p293 q293
                      cases e293
                      replace p293 := eq_true p293
                      replace q293 := eq_true q293
                      have p296 : 0 ≤ (x13_1 : Int) := of_decide_eq_true (by first | (with_reducible assumption) | assumption)
                      have q296 : x13_1 < (t290.length : Int) := of_decide_eq_true (by first | (with_reducible assumption) | assumption)
                      obtain ⟨ad296, e296, hx296_0⟩ := Kd.at_int (Kd.R_reads' HO_11.out).2.2 x13_1 p296 q296
                      obtain rfl : ad293 = ad296 := (by injection e296)
                      replace p296 := eq_true p296
                      replace q296 := eq_true q296
                      have p297 : 0 ≤ (x13_1 : Int) := of_decide_eq_true (by first | (with_reducible assumption) | assumption)
                      have q297 : x13_1 < (t290.length : Int) := of_decide_eq_true (by first | (with_reducible assumption) | assumption)
                      obtain ⟨ad297, e297, hx297_0⟩ := Kd.at_int (Kd.R_reads' HO_11.out).2.2 x13_1 p297 q297
                      obtain rfl : ad293 = ad297 := (by injection e297)
                      replace p297 := eq_true p297
                      replace q297 := eq_true q297
                      go_wp2
                      (try subst hji29)
                      go_roundg k1
                      case measure => have := HK1.out; omega
                      case rel => exact ⟨(wrap64 (x12_1 + (rd t290 x13_1))), (wrap64 (x13_1 + 1)), (by first | rfl | (simp; done) | (simp only [i64_w, i32_w]; done) | (simp [*]; done) | (simp only [i64_w, i32_w]; first | rfl | (simp; done) | (simp [*]; done))), (by first | rfl | (simp; done) | (simp only [i64_w, i32_w]; done) | (simp [*]; done) | (simp only [i64_w, i32_w]; first | rfl | (simp; done) | (simp [*]; done))), H', ⟨by have := HK1.out; omega⟩, ⟨by (with_reducible repeat (first | apply Kd.R_alloc | apply Kd.R_drewN | apply Kd.R_drew)); exact HO_11.out⟩, ⟨by repeat (first | (with_reducible first | exact HB.out | apply below_alloc | apply pw_below_drewN | apply below_drew1) | exact HB.out)⟩⟩
                  · rw [if_neg c36] at H
                    have c36b0 : ((rd t290 x13_1) == (wrap64 (Int.tdiv (wrap64 ((wrap64 (Int.tmod a0 1001)) + (wrap64 (Int.tmod a1 33)))) (ji31)))) = false := beq_eq_false_iff_ne.mpr c36
                    have c36b1 : ((rd t290 x13_1) != (wrap64 (Int.tdiv (wrap64 ((wrap64 (Int.tmod a0 1001)) + (wrap64 (Int.tmod a1 33)))) (ji31)))) = true := bne_iff_ne.mpr c36
                    obtain rfl := Option.some.inj H
                    have p293 : 0 ≤ (x13_1 : Int) := of_decide_eq_true (by first | (with_reducible assumption) | assumption)
                    have q293 : x13_1 < (t290.length : Int) := of_decide_eq_true (by first | (with_reducible assumption) | assumption)
                    obtain ⟨ad293, e293, hx293_0⟩ := Kd.at_int (Kd.R_reads' HO_11.out).2.2 x13_1 p293 q293
                    cases e293
                    replace p293 := eq_true p293
                    replace q293 := eq_true q293
                    have p296 : 0 ≤ (x13_1 : Int) := of_decide_eq_true (by first | (with_reducible assumption) | assumption)
                    have q296 : x13_1 < (t290.length : Int) := of_decide_eq_true (by first | (with_reducible assumption) | assumption)
                    obtain ⟨ad296, e296, hx296_0⟩ := Kd.at_int (Kd.R_reads' HO_11.out).2.2 x13_1 p296 q296
                    obtain rfl : ad293 = ad296 := (by injection e296)
                    replace p296 := eq_true p296
                    replace q296 := eq_true q296
                    go_wp2
                    go_ret
                    exact ⟨by first | rfl | (simp [errW_none, errW_some] <;> rfl) | (simp only [← hji29, ← hji31]; first | rfl | (simp [errW_none, errW_some] <;> rfl)) | (simp [*, errW_none, errW_some] <;> rfl), by repeat (first | (with_reducible first | exact HB.out | apply below_alloc | apply pw_below_drewN | apply below_drew1) | exact HB.out)⟩
            · rw [if_neg c30] at H
              exact absurd H (by simp)
          · rw [if_neg c28] at H
            exact absurd H (by simp)
        · rw [if_neg c27] at H
          have c27b0 : decide (x13_1 < (t290.length : Int)) = false := decide_eq_false c27
          clear c27
          by_cases c38 : t289 = true
          · subst c38
            have H1 : (if x12_1 = (wrap64 (Int.tmod a0 1001)) then (if 0 ≤ (wrap64 (Int.tmod a2 9)) then (some ((t290.length : Int) == (shl .i64 1 (wrap64 (Int.tmod a2 9))))) else (none)) else (some false)) = some r := by rw [if_pos rfl] at H; exact H
            clear H
            have H := H1
            clear H1
            by_cases c39 : x12_1 = (wrap64 (Int.tmod a0 1001))
            · rw [if_pos c39] at H
              have c39b0 : (x12_1 == (wrap64 (Int.tmod a0 1001))) = true := beq_iff_eq.mpr c39
              have c39b1 : (x12_1 != (wrap64 (Int.tmod a0 1001))) = false := bne_eq_false_iff_eq.mpr c39
              clear c39
              obtain ⟨ji40, hji40⟩ : ∃ j_ : Int, (wrap64 (Int.tmod a2 9)) = j_ := ⟨_, rfl⟩
              replace H : (if 0 ≤ (ji40) then (some ((t290.length : Int) == (shl .i64 1 (ji40)))) else (none)) = some r := by first | (rw [hji40] at H; exact H) | (simp only [hji40] at H ⊢; exact H)
              have hji40w : (IntKind.i64.wrap (Int.tmod a2 9)) = ji40 := (i64_w _).trans hji40
              by_cases c41 : 0 ≤ (ji40)
              · rw [if_pos c41] at H
                have c41b0 := eq_true c41
                have c41b1 : decide (0 ≤ (ji40)) = true := decide_eq_true c41
                clear c41
                obtain ⟨ji42, hji42⟩ : ∃ j_ : Int, (shl .i64 1 (ji40)) = j_ := ⟨_, rfl⟩
                replace H : (some ((t290.length : Int) == (ji42))) = some r := by first | (rw [hji42] at H; exact H) | (simp only [hji42] at H ⊢; exact H)
                have hji42_ : (IntKind.i64.wrap (1 * 2 ^ min (ji40).toNat 64)) = ji42 := hji42
                have hji42z : (ji40) ≤ 64 → (IntKind.i64.wrap (1 * 2 ^ (ji40).toNat)) = ji42 := shl_small hji42
                have hji42u : (IntKind.i64.wrap (2 ^ min (ji40).toNat 64)) = ji42 := by have h_ := hji42_; rw [Int.one_mul] at h_; exact h_
                have hji42v : (ji40) ≤ 64 → (IntKind.i64.wrap (2 ^ (ji40).toNat)) = ji42 := fun hle_ => by have h_ := hji42z hle_; rw [Int.one_mul] at h_; exact h_
                have hji42y : (wrap64 (1 * 2 ^ min (ji40).toNat 64)) = ji42 := (i64_w _).symm.trans hji42_
                have hji42x : (ji40) ≤ 64 → (wrap64 (1 * 2 ^ (ji40).toNat)) = ji42 := fun h_ => (i64_w _).symm.trans (hji42z h_)
                obtain rfl := Option.some.inj H
                go_wp2
                go_ret
                exact ⟨by first | rfl | (simp [errW_none, errW_some] <;> rfl) | (simp only [← hji40, ← hji42]; first | rfl | (simp [errW_none, errW_some] <;> rfl)) | (simp [*, errW_none, errW_some] <;> rfl), by repeat (first | (with_reducible first | exact HB.out | apply below_alloc | apply pw_below_drewN | apply below_drew1) | exact HB.out)⟩
              · rw [if_neg c41] at H
                exact absurd H (by simp)
            · rw [if_neg c39] at H
              have c39b0 : (x12_1 == (wrap64 (Int.tmod a0 1001))) = false := beq_eq_false_iff_ne.mpr c39
              have c39b1 : (x12_1 != (wrap64 (Int.tmod a0 1001))) = true := bne_iff_ne.mpr c39
              obtain rfl := Option.some.inj H
              go_wp2
              go_ret
              exact ⟨by first | rfl | (simp [errW_none, errW_some] <;> rfl) | (simp [*, errW_none, errW_some] <;> rfl), by repeat (first | (with_reducible first | exact HB.out | apply below_alloc | apply pw_below_drewN | apply below_drew1) | exact HB.out)⟩
          · replace c38 := Bool.eq_false_iff.mpr c38
            subst c38
            have H1 : (some false) = some r := by rw [if_neg (show ¬ (false = true) by decide)] at H; exact H
            clear H
            have H := H1
            clear H1
            obtain rfl := Option.some.inj H
            go_wp2
            go_ret
            exact ⟨by first | rfl | (simp [errW_none, errW_some] <;> rfl) | (simp [*, errW_none, errW_some] <;> rfl), by repeat (first | (with_reducible first | exact HB.out | apply below_alloc | apply pw_below_drewN | apply below_drew1) | exact HB.out)⟩

/-- THE ONE PURE STATEMENT of serinettelaw14_PartsSum: yours. -/
def serinettelaw14_PartsSum.Pure : Prop := ∀ (a0 : Int) (a1 : Int) (a2 : Int), (Lit.int .u16 a0).wf = true → (Lit.int .u8 a1).wf = true → (Lit.int .u8 a2).wf = true → ∃ k, serinettelaw14_PartsSum.f k a0 a1 a2 = some true
theorem serinettelaw14_PartsSum.walk (P : serinettelaw14_PartsSum.Pure) (a0 : Int) (a1 : Int) (a2 : Int) (w : World) (w0 : (Lit.int .u16 a0).wf = true) (w1 : (Lit.int .u8 a1).wf = true) (w2 : (Lit.int .u8 a2).wf = true) :
    Calls Try.prog 4 #[.int .u16 a0, .int .u8 a1, .int .u8 a2] w fun e w' => e = .returned (.bool true) ∧ Below w.heap.size w w' := by
  obtain ⟨k, h⟩ := P a0 a1 a2 w0 w1 w2
  refine (serinettelaw14_PartsSum.calls k a0 a1 a2 true w h).mono ?_
  rintro e w' ⟨rfl, hd⟩
  exact ⟨rfl, hd⟩

end Go.Proofs.Ytpoigjkkcehpdaa.PA
