/- Each Go function named below comes to what the plain Lean function of its name answers, wherever that answers (rounds enough, no panic, no row too long); texts by a program of this session by way of the kit's print.py, what that does not take by hand. Condition: what is read lies in memory as each theorem says. -/
import Derived.Test.YtiojcihklmifgaaPAx0
import Derived.Test.YtiojcihklmifgaaPAx1
import Derived.Test.YtiojcihklmifgaaPAx4
namespace Go.Proofs.Ytiojcihklmifgaa.PA
open Go.RowKit Go.Proofs.YtiojcihklmifgaaW.PrintWords Go.Proofs.YtiojcihklmifgaaW.PrintLast Go.Proofs.YtiojcihklmifgaaW.PrintMore
attribute [local go_sem] max2_int min2_int max_two min_two max_three min_three max_four min_four   -- for this text's walks alone
set_option linter.unusedVariables false
set_option linter.unusedSimpArgs false

/-! ### fixed_Restore: function 17 -/
mutual
def fixed_Restore.l0 : Nat → List Int → List Int → List Int → Int → Int → Option (List Int × Int)
  | 0, _, _, _, _, _ => none
  | k + 1, x6, x7, x21, x22, x23 => if x23 < x22 then (if 0 ≤ x23 then (if x23 < (x21.length : Int) then (fixed_Restore.l1 k x6 x7 (rd x21 x23) (wrap64 ((x7.length : Int) - 1)) x21 x22 x23 x6 (x6.length : Int) 0) else (none)) else (none)) else (some (x7, 0))
def fixed_Restore.l1 : Nat → List Int → List Int → Int → Int → List Int → Int → Int → List Int → Int → Int → Option (List Int × Int)
  | 0, _, _, _, _, _, _, _, _, _, _ => none
  | k + 1, x6, x7, x9, x10, x21, x22, x23, x30, x31, x32 => if x32 < x31 then (if 0 ≤ x32 then (if x32 < (x30.length : Int) then (if 0 ≤ (wrap64 (x10 - x32)) then (if (wrap64 (x10 - x32)) < (x7.length : Int) then (fixed_Restore.l1 k x6 x7 (wrap64 (x9 + (wrap64 ((rd x30 x32) * (rd x7 (wrap64 (x10 - x32))))))) x10 x21 x22 x23 x30 x31 (wrap64 (x32 + 1))) else (none)) else (none)) else (none)) else (none)) else (if x7.length < 17592186044416 then (fixed_Restore.l0 k x6 (x7 ++ [x9]) x21 x22 (wrap64 (x23 + 1))) else (none))
end
def fixed_Restore.f (k : Nat) (l0 : List Int) (l1 : List Int) : Option (List Int × Int) := if (l0.length : Int) > 4 then (some (([] : List Int), 1)) else ((fixed_Factors.f (l0.length : Int)).bind fun t137 => ((slices_Clone_int_int.f l0).bind fun t140 => (fixed_Restore.l0 k t137 t140 l1 (l1.length : Int) 0)))
theorem fixed_Restore.mono_l : ∀ k, (∀ y0 y1 y2 y3 y4, LeO (fixed_Restore.l0 k y0 y1 y2 y3 y4) (fixed_Restore.l0 (k + 1) y0 y1 y2 y3 y4)) ∧ (∀ y0 y1 y2 y3 y4 y5 y6 y7 y8 y9, LeO (fixed_Restore.l1 k y0 y1 y2 y3 y4 y5 y6 y7 y8 y9) (fixed_Restore.l1 (k + 1) y0 y1 y2 y3 y4 y5 y6 y7 y8 y9))
  | 0 => ⟨fun _ _ _ _ _ r h => by simp [fixed_Restore.l0] at h, fun _ _ _ _ _ _ _ _ _ _ r h => by simp [fixed_Restore.l1] at h⟩
  | k + 1 => by
    obtain ⟨ih0, ih1⟩ := fixed_Restore.mono_l k
    refine ⟨?_, ?_⟩
    · intro y0 y1 y2 y3 y4
      unfold fixed_Restore.l0
      repeat' first
      | (with_reducible exact ih0 _ _ _ _ _)
      | (with_reducible exact ih1 _ _ _ _ _ _ _ _ _ _)
      | (with_reducible exact LeO.refl _)
      | (with_reducible exact LeO.none _)
      | (with_reducible refine LeO.ite ?_ ?_)
      | (with_reducible refine LeO.bind ?_ (fun _ => ?_))
      | exact ih0 _ _ _ _ _
      | exact ih1 _ _ _ _ _ _ _ _ _ _
      | exact LeO.none _
      | refine LeO.ite ?_ ?_
      | refine LeO.bind ?_ (fun _ => ?_)
    · intro y0 y1 y2 y3 y4 y5 y6 y7 y8 y9
      unfold fixed_Restore.l1
      repeat' first
      | (with_reducible exact ih0 _ _ _ _ _)
      | (with_reducible exact ih1 _ _ _ _ _ _ _ _ _ _)
      | (with_reducible exact LeO.refl _)
      | (with_reducible exact LeO.none _)
      | (with_reducible refine LeO.ite ?_ ?_)
      | (with_reducible refine LeO.bind ?_ (fun _ => ?_))
      | exact ih0 _ _ _ _ _
      | exact ih1 _ _ _ _ _ _ _ _ _ _
      | exact LeO.none _
      | refine LeO.ite ?_ ?_
      | refine LeO.bind ?_ (fun _ => ?_)
theorem fixed_Restore.mono : ∀ a0 a1 k, LeO (fixed_Restore.f k a0 a1) (fixed_Restore.f (k + 1) a0 a1) := by
  intro a0 a1 k
  obtain ⟨ih0, ih1⟩ := fixed_Restore.mono_l k
  unfold fixed_Restore.f
  repeat' first
      | (with_reducible exact ih0 _ _ _ _ _)
      | (with_reducible exact ih1 _ _ _ _ _ _ _ _ _ _)
      | (with_reducible exact LeO.refl _)
      | (with_reducible exact LeO.none _)
      | (with_reducible refine LeO.ite ?_ ?_)
      | (with_reducible refine LeO.bind ?_ (fun _ => ?_))
      | exact ih0 _ _ _ _ _
      | exact ih1 _ _ _ _ _ _ _ _ _ _
      | exact LeO.none _
      | refine LeO.ite ?_ ?_
      | refine LeO.bind ?_ (fun _ => ?_)
set_option maxHeartbeats 8000000 in
set_option maxRecDepth 100000 in
theorem fixed_Restore.calls (k : Nat) (A0 : Option Addr) (c0 : Nat) (l0 : List Int) (A1 : Option Addr) (c1 : Nat) (l1 : List Int) (r1 : List Int) (r2 : Int) (w : World) (hr0 : Kd.C (Kd.int .i64) w A0 l0.length l0) (hc0 : l0.length ≤ c0) (hr1 : Kd.C (Kd.int .i64) w A1 l1.length l1) (hc1 : l1.length ≤ c1) (h : fixed_Restore.f k l0 l1 = some (r1, r2)) :
    Calls Try.prog 17 #[.slice A0 l0.length c0, .slice A1 l1.length c1] w fun e w' => ∃ v0_ : Value, e = .returned (.tuple #[v0_, .int .i64 r2]) ∧ Kd.R (Kd.int .i64) 3 w' w.heap.size (fun _ => True) v0_ r1 ∧ Below w.heap.size w w' := by
  have HR0 := Aside0.mk hr0
  have HC0 := Aside0.mk hc0
  clear hr0 hc0
  have HR1 := Aside0.mk hr1
  have HC1 := Aside0.mk hc1
  clear hr1 hc1
  have HB := Aside0.mk (Below.refl w.heap.size w)
  have H : (if (l0.length : Int) > 4 then (some (([] : List Int), 1)) else ((fixed_Factors.f (l0.length : Int)).bind fun t137 => ((slices_Clone_int_int.f l0).bind fun t140 => (fixed_Restore.l0 k t137 t140 l1 (l1.length : Int) 0)))) = some (r1, r2) := h
  clear h
  by_cases c3 : (l0.length : Int) > 4
  · rw [if_pos c3] at H
    have c3b0 : decide (4 < (l0.length : Int)) = true := decide_eq_true c3
    have c3b1 : decide (4 < l0.length) = true := decide_eq_true (by omega)
    clear c3
    simp only [Option.some.injEq, Prod.mk.injEq] at H
    obtain ⟨rfl, rfl⟩ := H
    go_enter Try.func17, Try.ntmps17
    go_wp2
    go_ret2
    exact ⟨_, by first | rfl | (simp [errW_none, errW_some] <;> rfl) | (simp [*, errW_none, errW_some] <;> rfl), by first | exact Kd.R_nil _ _ _ _ _ | exact Kd.N_nil _ _ _ _ _ | exact Kd.V_nil _ _ _ _ _ | exact Kd.Q_nil _ _ _ _ _ | exact Kd.S_nil _ _ _ _ _, by repeat (first | (with_reducible first | exact HB.out | apply below_alloc | apply pw_below_drewN | apply below_drew1) | exact HB.out)⟩
  · rw [if_neg c3] at H
    have c3b0 : decide (4 < (l0.length : Int)) = false := decide_eq_false c3
    have c3b1 : decide (4 < l0.length) = false := decide_eq_false (by omega)
    clear c3
    replace H := Option.bind_eq_some_iff.mp H
    obtain ⟨t137, A40, H⟩ := H
    replace H : ((slices_Clone_int_int.f l0).bind fun t140 => (fixed_Restore.l0 k t137 t140 l1 (l1.length : Int) 0)) = some (r1, r2) := H
    have A4 := Aside0.mk A40
    clear A40
    replace H := Option.bind_eq_some_iff.mp H
    obtain ⟨t140, A50, H⟩ := H
    replace H : (fixed_Restore.l0 k t137 t140 l1 (l1.length : Int) 0) = some (r1, r2) := H
    have A5 := Aside0.mk A50
    clear A50
    have H' := Aside0.mk H
    clear H
    go_enter Try.func17, Try.ntmps17
    go_wp2_with (first | ((with_reducible refine gate_callee (f := 14) rfl ?_); refine goesL_ (some 18) rfl rfl Try.func14 (by kernel_rfl) rfl #[.int .i64 (l0.length : Int)] rfl (by (try simp only [List.map_toArray, List.map_cons, List.map_nil]); first | done | rfl | (simp only [List.length_drop, List.length_take]; rfl)) ?_; (with_reducible refine (fixed_Factors.calls (l0.length : Int) t137 _ A4.out).mono ?_); rintro e w6 ⟨v138, rfl, ho0, hb⟩; refine ⟨_, rfl, ?_⟩; have n0_ := Aside0.mk (Kd.V_lower (Kd.V_mono (ok' := fun k_ => True) ho0 (fun k_ hk_ => trivial)) (below_size (by repeat (first | (with_reducible first | exact HB.out | apply below_alloc | apply pw_below_drewN | apply below_drew1) | exact HB.out)))); have n1_ := Aside0.mk (below_step (by repeat (first | (with_reducible first | exact HB.out | apply below_alloc | apply pw_below_drewN | apply below_drew1) | exact HB.out)) hb); clear HB; have HO139 := n0_; have HB := n1_; clear n0_ n1_; (try clear hb); (try clear hb2); (try clear hk); (try clear hi); (try clear ho0)) | ((with_reducible refine gate_callee (f := 18) rfl ?_); refine goesL_ (some 20) rfl rfl Try.func18 (by kernel_rfl) rfl #[.slice A0 l0.length c0] rfl (by (try simp only [List.map_toArray, List.map_cons, List.map_nil]); first | done | rfl | (simp only [List.length_drop, List.length_take]; rfl)) ?_; (with_reducible refine (slices_Clone_int_int.calls _ _ l0 t140 _ ?side1 ?side2 A5.out).mono ?_); (case side1 => repeat (first | exact (Kd.C_below HR0.out HB.out) | (with_reducible refine Kd.C_alloc ?_ _) | (with_reducible refine Kd.C_drewN ?_ _) | (with_reducible refine Kd.C_drew ?_))); (case side2 => exact HC0.out); rintro e w7 ⟨v141, rfl, ho0, hb⟩; refine ⟨_, rfl, ?_⟩; have n0_ := Aside0.mk (Kd.V_elder' (by (with_reducible repeat (first | apply Kd.V_alloc | apply Kd.V_drewN | apply Kd.V_drew)); exact HO139.out) (Kd.R_base ho0) hb); have n1_ := Aside0.mk (Kd.R_lower ho0 (below_size (by repeat (first | (with_reducible first | exact HB.out | apply below_alloc | apply pw_below_drewN | apply below_drew1) | exact HB.out)))); have n2_ := Aside0.mk (below_step (by repeat (first | (with_reducible first | exact HB.out | apply below_alloc | apply pw_below_drewN | apply below_drew1) | exact HB.out)) hb); clear HO139; clear HB; have HO139 := n0_; have HO142 := n1_; have HB := n2_; clear n0_ n1_ n2_; (try clear hb); (try clear hb2); (try clear hk); (try clear hi); (try clear ho0)))
    go_loopg [7, 23] k (fun kq v7 v23 w' => ∃ (x7_1 : List Int) (x23_1 : Int), v23 = .int .i64 x23_1 ∧ Aside0 (fixed_Restore.l0 kq t137 x7_1 l1 (l1.length : Int) x23_1 = some (r1, r2)) ∧ Aside0 (kq ≤ k) ∧ Aside0 (Kd.V (Kd.int .i64) 3 w' w.heap.size (fun k_ => some k_ ≠ (v7 : Value).ownBlock) v138 t137) ∧ Aside0 (Kd.R (Kd.int .i64) 3 w' w.heap.size (fun _ => True) v7 x7_1) ∧ Aside0 (Below w.heap.size w w'))
    case atStart => exact ⟨(t140), (0), (by first | rfl | (simp; done) | (simp [*]; done)), H', ⟨Nat.le_refl _⟩, ⟨by (with_reducible repeat (first | apply Kd.V_alloc | apply Kd.V_drewN | apply Kd.V_drew)); exact Kd.V_mono HO139.out (fun _ hk => hk.2)⟩, ⟨by (with_reducible repeat (first | apply Kd.R_alloc | apply Kd.R_drewN | apply Kd.R_drew)); exact HO142.out⟩, ⟨by repeat (first | (with_reducible first | exact HB.out | apply below_alloc | apply pw_below_drewN | apply below_drew1) | exact HB.out)⟩⟩
    case round =>
      clear H'
      try clear c1
      try clear p2
      try clear c3
      try clear c3b0
      try clear c3b1
      obtain ⟨x7_1, x23_1, rfl, HA, HK1, HO_6, HO_7, HB⟩ := hrel
      cases gk with
      | zero => exact absurd HA.out (by simp [fixed_Restore.l0])
      | succ k1 =>
        have H := HA.out
        clear HA
        simp only [fixed_Restore.l0] at H
        by_cases c8 : x23_1 < (l1.length : Int)
        · rw [if_pos c8] at H
          have c8b0 : decide (x23_1 < (l1.length : Int)) = true := decide_eq_true c8
          clear c8
          by_cases c9 : 0 ≤ x23_1
          · rw [if_pos c9] at H
            have c9b0 : decide (0 ≤ x23_1) = true := decide_eq_true c9
            clear c9
            by_cases c10 : x23_1 < (l1.length : Int)
            · rw [if_pos c10] at H
              have c10b0 : decide (x23_1 < (l1.length : Int)) = true := decide_eq_true c10
              clear c10
              have H' := Aside0.mk H
              clear H
              have p143 : 0 ≤ (x23_1 : Int) := of_decide_eq_true (by first | (with_reducible assumption) | assumption)
              have q143 : x23_1 < (l1.length : Int) := of_decide_eq_true (by first | (with_reducible assumption) | assumption)
              obtain ⟨ad143, e143, hx143_0⟩ := Kd.at_int HR1.out x23_1 p143 q143
              cases e143
              replace hx143_0 := (HB.out.cell (World.block_lt_of_cell? w _ hx143_0)).trans hx143_0
              replace p143 := eq_true p143
              replace q143 := eq_true q143
              obtain ⟨Ao11, co11, eo11⟩ := Kd.R_slice HO_7.out
              subst eo11
              obtain ⟨Ao12, co12, eo12⟩ := Kd.V_slice HO_6.out
              subst eo12
              go_wp2
              go_loopg [9, 32] k1 (fun kq v9 v32 w' => ∃ (x9_2 : Int) (x32_2 : Int), v9 = .int .i64 x9_2 ∧ v32 = .int .i64 x32_2 ∧ Aside0 (fixed_Restore.l1 kq t137 x7_1 x9_2 (wrap64 ((x7_1.length : Int) - 1)) l1 (l1.length : Int) x23_1 t137 (t137.length : Int) x32_2 = some (r1, r2)) ∧ Aside0 (kq ≤ k1) ∧ Aside0 (Kd.V (Kd.int .i64) 3 w' w.heap.size (fun k_ => some k_ ≠ ((.slice Ao11 x7_1.length co11) : Value).ownBlock) (.slice Ao12 t137.length co12) t137) ∧ Aside0 (Kd.R (Kd.int .i64) 3 w' w.heap.size (fun _ => True) (.slice Ao11 x7_1.length co11) x7_1) ∧ Aside0 (Kd.V (Kd.int .i64) 3 w' w.heap.size (fun k_ => some k_ ≠ ((.slice Ao11 x7_1.length co11) : Value).ownBlock) (.slice Ao12 t137.length co12) t137) ∧ Aside0 (Below w.heap.size w w'))
              case atStart => exact ⟨(rd l1 x23_1), (0), (by first | rfl | (simp; done) | (simp [*]; done)), (by first | rfl | (simp; done) | (simp [*]; done)), H', ⟨Nat.le_refl _⟩, ⟨by (with_reducible repeat (first | apply Kd.V_alloc | apply Kd.V_drewN | apply Kd.V_drew)); exact HO_6.out⟩, ⟨by (with_reducible repeat (first | apply Kd.R_alloc | apply Kd.R_drewN | apply Kd.R_drew)); exact HO_7.out⟩, ⟨by (with_reducible repeat (first | apply Kd.V_alloc | apply Kd.V_drewN | apply Kd.V_drew)); exact HO_6.out⟩, ⟨by repeat (first | (with_reducible first | exact HB.out | apply below_alloc | apply pw_below_drewN | apply below_drew1) | exact HB.out)⟩⟩
              case round =>
                clear H'
                try clear c1
                try clear p1
                try clear q1
                try clear hx1
                try clear p2
                try clear c3
                try clear c3b0
                try clear c3b1
                try clear p6
                try clear c8
                try clear c8b0
                try clear c9
                try clear c9b0
                try clear c10
                try clear c10b0
                try clear hx143_0
                try clear p143
                try clear p2
                try clear q143
                obtain ⟨x9_2, x32_2, rfl, rfl, HA, HK2, HO_6, HO_7, HO_30, HB⟩ := hrel
                cases gk with
                | zero => exact absurd HA.out (by simp [fixed_Restore.l1])
                | succ k2 =>
                  have H := HA.out
                  clear HA
                  simp only [fixed_Restore.l1] at H
                  by_cases c13 : x32_2 < (t137.length : Int)
                  · rw [if_pos c13] at H
                    have c13b0 : decide (x32_2 < (t137.length : Int)) = true := decide_eq_true c13
                    clear c13
                    by_cases c14 : 0 ≤ x32_2
                    · rw [if_pos c14] at H
                      have c14b0 : decide (0 ≤ x32_2) = true := decide_eq_true c14
                      clear c14
                      by_cases c15 : x32_2 < (t137.length : Int)
                      · rw [if_pos c15] at H
                        have c15b0 : decide (x32_2 < (t137.length : Int)) = true := decide_eq_true c15
                        clear c15
                        obtain ⟨ji16, hji16⟩ : ∃ j_ : Int, (wrap64 ((wrap64 ((x7_1.length : Int) - 1)) - x32_2)) = j_ := ⟨_, rfl⟩
                        replace H : (if 0 ≤ (ji16) then (if (ji16) < (x7_1.length : Int) then (fixed_Restore.l1 k2 t137 x7_1 (wrap64 (x9_2 + (wrap64 ((rd t137 x32_2) * (rd x7_1 (ji16)))))) (wrap64 ((x7_1.length : Int) - 1)) l1 (l1.length : Int) x23_1 t137 (t137.length : Int) (wrap64 (x32_2 + 1))) else (none)) else (none)) = some (r1, r2) := by first | (rw [hji16] at H; exact H) | (simp only [hji16] at H ⊢; exact H)
                        have hji16w : (IntKind.i64.wrap ((wrap64 ((x7_1.length : Int) - 1)) - x32_2)) = ji16 := (i64_w _).trans hji16
                        by_cases c17 : 0 ≤ (ji16)
                        · rw [if_pos c17] at H
                          have c17b0 : decide (0 ≤ (ji16)) = true := decide_eq_true c17
                          clear c17
                          by_cases c18 : (ji16) < (x7_1.length : Int)
                          · rw [if_pos c18] at H
                            have c18b0 : decide ((ji16) < (x7_1.length : Int)) = true := decide_eq_true c18
                            clear c18
                            have H' := Aside0.mk H
                            clear H
                            have p144 : 0 ≤ (x32_2 : Int) := of_decide_eq_true (by first | (with_reducible assumption) | assumption)
                            have q144 : x32_2 < (t137.length : Int) := of_decide_eq_true (by first | (with_reducible assumption) | assumption)
                            obtain ⟨ad144, e144, hx144_0⟩ := Kd.at_int (Kd.V_reads' HO_30.out).2.2 x32_2 p144 q144
                            cases e144
                            replace p144 := eq_true p144
                            replace q144 := eq_true q144
                            have p145 : 0 ≤ ((ji16) : Int) := of_decide_eq_true (by first | (with_reducible assumption) | assumption)
                            have q145 : (ji16) < (x7_1.length : Int) := of_decide_eq_true (by first | (with_reducible assumption) | assumption)
                            obtain ⟨ad145, e145, hx145_0⟩ := Kd.at_int (Kd.R_reads' HO_7.out).2.2 (ji16) p145 q145
                            cases e145
                            replace p145 := eq_true p145
                            replace q145 := eq_true q145
                            go_wp2
                            go_roundg k2
                            case measure => have := HK1.out; have := HK2.out; omega
                            case rel => exact ⟨(wrap64 (x9_2 + (wrap64 ((rd t137 x32_2) * (rd x7_1 (ji16)))))), (wrap64 (x32_2 + 1)), (by first | rfl | (simp; done) | (simp only [← hji16] <;> (first | rfl | simp)) | (simp [*]; done)), (by first | rfl | (simp; done) | (simp [*]; done)), H', ⟨by have := HK1.out; have := HK2.out; omega⟩, ⟨by (with_reducible repeat (first | apply Kd.V_alloc | apply Kd.V_drewN | apply Kd.V_drew)); exact HO_6.out⟩, ⟨by (with_reducible repeat (first | apply Kd.R_alloc | apply Kd.R_drewN | apply Kd.R_drew)); exact HO_7.out⟩, ⟨by (with_reducible repeat (first | apply Kd.V_alloc | apply Kd.V_drewN | apply Kd.V_drew)); exact HO_30.out⟩, ⟨by repeat (first | (with_reducible first | exact HB.out | apply below_alloc | apply pw_below_drewN | apply below_drew1) | exact HB.out)⟩⟩
                          · rw [if_neg c18] at H
                            exact absurd H (by simp)
                        · rw [if_neg c17] at H
                          exact absurd H (by simp)
                      · rw [if_neg c15] at H
                        exact absurd H (by simp)
                    · rw [if_neg c14] at H
                      exact absurd H (by simp)
                  · rw [if_neg c13] at H
                    have c13b0 : decide (x32_2 < (t137.length : Int)) = false := decide_eq_false c13
                    clear c13
                    by_cases c19 : x7_1.length < 17592186044416
                    · rw [if_pos c19] at H
                      have LMc19 := Aside0.mk c19
                      clear c19
                      obtain ⟨y146, hy146⟩ : ∃ y_ : List Int, y_ = (x7_1 ++ [x9_2]) := ⟨_, rfl⟩
                      replace H : (fixed_Restore.l0 k2 t137 y146 l1 (l1.length : Int) (wrap64 (x23_1 + 1))) = some (r1, r2) := by first | (rw [hy146]; with_reducible exact H) | (have H2_ := (Option.bind_some _ _).symm.trans H; rw [hy146]; with_reducible exact H2_) | (have H2_ := (Option.bind_some _ _).symm.trans H; with_reducible exact H2_) | with_reducible exact H | (rw [hy146]; exact H) | exact H
                      have Ny146 := Aside0.mk hy146
                      clear hy146
                      have H' := Aside0.mk H
                      clear H
                      go_wp2_with (first | ((with_reducible refine gate_builtin (b := .append) (xs := #[.tmp 48, .tmp 50]) rfl ?_); at_builtin; refine Kd.R_append (Kd.int .i64) (w0 := w) w.heap.size rfl (.tmp 48) (.tmp 50) 22 3 (.int .i64 0) 8 rfl Try.underlying22 info3 rfl (by decide) (by omega) (.slice Ao11 x7_1.length co11) x7_1 x9_2 [.int .i64 x9_2] (fun _ => True) (fun _ => False) rfl rfl ?aP (fun _ hk => hk.elim) ?aF ?aO ?aB ?aS ?aL ?_; (case aP => exact rfl); (case aB => exact (by repeat (first | (with_reducible first | exact HB.out | apply below_alloc | apply pw_below_drewN | apply below_drew1) | exact HB.out))); (case aF => exact (fun _ _ => trivial)); (case aO => exact (by (with_reducible repeat (first | apply Kd.R_alloc | apply Kd.R_drewN | apply Kd.R_drew)); exact HO_7.out)); (case aS => exact (below_size (by repeat (first | (with_reducible first | exact HB.out | apply below_alloc | apply pw_below_drewN | apply below_drew1) | exact HB.out)))); (case aL => have := LMc19.out; omega); intro v147 w20 ho hb hg hat; rw [← Ny146.out] at ho; have n0_ := Aside0.mk (Kd.V_afterv (ok := (fun _ => True)) (by (with_reducible repeat (first | apply Kd.V_alloc | apply Kd.V_drewN | apply Kd.V_drew)); exact Kd.V_mono HO_6.out (fun _ hk => ⟨trivial, hk⟩)) hg hat); have n1_ := Aside0.mk (Kd.V_afterv (ok := (fun _ => True)) (by (with_reducible repeat (first | apply Kd.V_alloc | apply Kd.V_drewN | apply Kd.V_drew)); exact Kd.V_mono HO_30.out (fun _ hk => ⟨trivial, hk⟩)) hg hat); have n2_ := Aside0.mk (hb); have n3_ := Aside0.mk (ho); clear HO_6; clear HO_30; clear HB; clear HO_7; have HO_6 := n0_; have HO_30 := n1_; have HB := n2_; have HO148 := n3_; clear n0_ n1_ n2_ n3_; clear ho hb hg hat))
                      go_roundg k2
                      case measure => have := HK1.out; have := HK2.out; omega
                      case rel => exact ⟨(y146), (wrap64 (x23_1 + 1)), (by first | rfl | (simp; done) | (simp [*]; done)), H', ⟨by have := HK1.out; have := HK2.out; omega⟩, ⟨by (with_reducible repeat (first | apply Kd.V_alloc | apply Kd.V_drewN | apply Kd.V_drew)); exact Kd.V_mono HO_6.out (fun _ hk => hk.2)⟩, ⟨by (with_reducible repeat (first | apply Kd.R_alloc | apply Kd.R_drewN | apply Kd.R_drew)); exact HO148.out⟩, ⟨by repeat (first | (with_reducible first | exact HB.out | apply below_alloc | apply pw_below_drewN | apply below_drew1) | exact HB.out)⟩⟩
                    · rw [if_neg c19] at H
                      exact absurd H (by simp)
            · rw [if_neg c10] at H
              exact absurd H (by simp)
          · rw [if_neg c9] at H
            exact absurd H (by simp)
        · rw [if_neg c8] at H
          have c8b0 : decide (x23_1 < (l1.length : Int)) = false := decide_eq_false c8
          clear c8
          simp only [Option.some.injEq, Prod.mk.injEq] at H
          obtain ⟨rfl, rfl⟩ := H
          go_wp2
          go_ret2
          exact ⟨_, by first | rfl | (simp [errW_none, errW_some] <;> rfl) | (simp [*, errW_none, errW_some] <;> rfl), by (with_reducible repeat (first | apply Kd.R_alloc | apply Kd.R_drewN | apply Kd.R_drew)); exact HO_7.out, by repeat (first | (with_reducible first | exact HB.out | apply below_alloc | apply pw_below_drewN | apply below_drew1) | exact HB.out)⟩

end Go.Proofs.Ytiojcihklmifgaa.PA
