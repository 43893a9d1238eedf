/- Each Go function named below comes to what the plain Lean function of its name answers, wherever that answers (rounds enough, no panic, no row too long); texts by a program of this session by way of the kit's print.py, what that does not take by hand. Condition: what is read lies in memory as each theorem says. -/
import Derived.Test.YtafbagphbonpiaaPAx0
import Derived.Test.YtafbagphbonpiaaPAx5
import Derived.Test.YtafbagphbonpiaaPAx8
import Derived.Test.YtafbagphbonpiaaPAx9
import Derived.Test.YtafbagphbonpiaaPAx10
namespace Go.Proofs.Ytafbagphbonpiaa.PA
open Go.RowKit Go.Proofs.YtafbagphbonpiaaW.PrintWords Go.Proofs.YtafbagphbonpiaaW.PrintLast Go.Proofs.YtafbagphbonpiaaW.PrintMore
attribute [local go_sem] max2_int min2_int max_two min_two max_three min_three max_four min_four   -- for this text's walks alone
set_option linter.unusedVariables false
set_option linter.unusedSimpArgs false

/-! ### serinettelaw09_LagsTurn: function 5 -/
mutual
def serinettelaw09_LagsTurn.j0 : Nat → List Int → Int → Int → Int → Bool → Bool → Option (Bool)
  | 0, _, _, _, _, _, _ => none
  | k + 1, x0, x1, x2, x3, x9, x25 => if x25 = true then (some x9) else (serinettelaw09_LagsTurn.l0 k x0 x2 x3 x9 (wrap64 (Int.tmod x1 33)) ([] : List Int) (wrap64 ((x0.length : Int) - 1)))
def serinettelaw09_LagsTurn.l0 : Nat → List Int → Int → Int → Bool → Int → List Int → Int → Option (Bool)
  | 0, _, _, _, _, _, _, _ => none
  | k + 1, x0, x2, x3, x9, x11, x12, x13 => if x13 ≥ 0 then (if 0 ≤ x13 then (if x13 < (x0.length : Int) then (if x12.length < 17592186044416 then (serinettelaw09_LagsTurn.l0 k x0 x2 x3 x9 x11 (x12 ++ [rd x0 x13]) (wrap64 (x13 - 1))) else (none)) else (none)) else (none)) else (if 0 ≤ (wrap64 (Int.tmod x2 20)) then (if (wrap64 (Int.tmod x2 20) : Int).toNat ≤ 35184372088832 then ((some (List.replicate (wrap64 (Int.tmod x2 20) : Int).toNat 0 : List Int)).bind fun y190 => (if y190.length + x0.length < 17592186044416 then ((some (y190 ++ x0 : List Int)).bind fun y193 => (if 0 ≤ (wrap64 (Int.tmod x3 20)) then (if y193.length + (wrap64 (Int.tmod x3 20) : Int).toNat < 17592186044416 then ((lags_Of.f k x0 x11).bind fun t199 => (if x9 = true then ((lags_Of.f k x12 x11).bind fun t202 => ((serinetteref01_Ints.f k t202 t199).bind fun t205 => (if t205 = true then ((lags_Of.f k (y193 ++ List.replicate (wrap64 (Int.tmod x3 20) : Int).toNat 0) x11).bind fun t206 => ((serinetteref01_Ints.f k t206 t199).bind fun t209 => (some t209))) else (some false)))) else (some false))) else (none)) else (none))) else (none))) else (none)) else (none))
end
def serinettelaw09_LagsTurn.f (k : Nat) (l0 : List Int) (a1 : Int) (a2 : Int) (a3 : Int) : Option (Bool) := (serinettelaw09_awake.f k).bind fun t184 => ((serinetteref07_Near.f k l0).bind fun t185 => (if (l0.length : Int) > 60 then (serinettelaw09_LagsTurn.j0 k l0 a1 a2 a3 t184 true) else (serinettelaw09_LagsTurn.j0 k l0 a1 a2 a3 t184 (!t185))))
theorem serinettelaw09_LagsTurn.mono_l : ∀ k, (∀ y0 y1 y2 y3 y4 y5, LeO (serinettelaw09_LagsTurn.j0 k y0 y1 y2 y3 y4 y5) (serinettelaw09_LagsTurn.j0 (k + 1) y0 y1 y2 y3 y4 y5)) ∧ (∀ y0 y1 y2 y3 y4 y5 y6, LeO (serinettelaw09_LagsTurn.l0 k y0 y1 y2 y3 y4 y5 y6) (serinettelaw09_LagsTurn.l0 (k + 1) y0 y1 y2 y3 y4 y5 y6))
  | 0 => ⟨fun _ _ _ _ _ _ r h => by simp [serinettelaw09_LagsTurn.j0] at h, fun _ _ _ _ _ _ _ r h => by simp [serinettelaw09_LagsTurn.l0] at h⟩
  | k + 1 => by
    obtain ⟨ih0, ih1⟩ := serinettelaw09_LagsTurn.mono_l k
    refine ⟨?_, ?_⟩
    · intro y0 y1 y2 y3 y4 y5
      unfold serinettelaw09_LagsTurn.j0
      repeat' first
      | (with_reducible exact ih0 _ _ _ _ _ _)
      | (with_reducible exact ih1 _ _ _ _ _ _ _)
      | (with_reducible exact lags_Of.mono _ _ _)
      | (with_reducible exact serinettelaw09_awake.mono _)
      | (with_reducible exact serinetteref01_Ints.mono _ _ _)
      | (with_reducible exact serinetteref07_Near.mono _ _)
      | (with_reducible exact LeO.refl _)
      | (with_reducible exact LeO.none _)
      | (with_reducible refine LeO.ite ?_ ?_)
      | (with_reducible refine LeO.bind ?_ (fun _ => ?_))
      | exact ih0 _ _ _ _ _ _
      | exact ih1 _ _ _ _ _ _ _
      | exact lags_Of.mono _ _ _
      | exact serinettelaw09_awake.mono _
      | exact serinetteref01_Ints.mono _ _ _
      | exact serinetteref07_Near.mono _ _
      | exact LeO.none _
      | refine LeO.ite ?_ ?_
      | refine LeO.bind ?_ (fun _ => ?_)
    · intro y0 y1 y2 y3 y4 y5 y6
      unfold serinettelaw09_LagsTurn.l0
      repeat' first
      | (with_reducible exact ih0 _ _ _ _ _ _)
      | (with_reducible exact ih1 _ _ _ _ _ _ _)
      | (with_reducible exact lags_Of.mono _ _ _)
      | (with_reducible exact serinettelaw09_awake.mono _)
      | (with_reducible exact serinetteref01_Ints.mono _ _ _)
      | (with_reducible exact serinetteref07_Near.mono _ _)
      | (with_reducible exact LeO.refl _)
      | (with_reducible exact LeO.none _)
      | (with_reducible refine LeO.ite ?_ ?_)
      | (with_reducible refine LeO.bind ?_ (fun _ => ?_))
      | exact ih0 _ _ _ _ _ _
      | exact ih1 _ _ _ _ _ _ _
      | exact lags_Of.mono _ _ _
      | exact serinettelaw09_awake.mono _
      | exact serinetteref01_Ints.mono _ _ _
      | exact serinetteref07_Near.mono _ _
      | exact LeO.none _
      | refine LeO.ite ?_ ?_
      | refine LeO.bind ?_ (fun _ => ?_)
theorem serinettelaw09_LagsTurn.mono : ∀ a0 a1 a2 a3 k, LeO (serinettelaw09_LagsTurn.f k a0 a1 a2 a3) (serinettelaw09_LagsTurn.f (k + 1) a0 a1 a2 a3) := by
  intro a0 a1 a2 a3 k
  obtain ⟨ih0, ih1⟩ := serinettelaw09_LagsTurn.mono_l k
  unfold serinettelaw09_LagsTurn.f
  repeat' first
      | (with_reducible exact ih0 _ _ _ _ _ _)
      | (with_reducible exact ih1 _ _ _ _ _ _ _)
      | (with_reducible exact lags_Of.mono _ _ _)
      | (with_reducible exact serinettelaw09_awake.mono _)
      | (with_reducible exact serinetteref01_Ints.mono _ _ _)
      | (with_reducible exact serinetteref07_Near.mono _ _)
      | (with_reducible exact LeO.refl _)
      | (with_reducible exact LeO.none _)
      | (with_reducible refine LeO.ite ?_ ?_)
      | (with_reducible refine LeO.bind ?_ (fun _ => ?_))
      | exact ih0 _ _ _ _ _ _
      | exact ih1 _ _ _ _ _ _ _
      | exact lags_Of.mono _ _ _
      | exact serinettelaw09_awake.mono _
      | exact serinetteref01_Ints.mono _ _ _
      | exact serinetteref07_Near.mono _ _
      | exact LeO.none _
      | refine LeO.ite ?_ ?_
      | refine LeO.bind ?_ (fun _ => ?_)
set_option maxHeartbeats 8000000 in
set_option maxRecDepth 100000 in
theorem serinettelaw09_LagsTurn.calls (k : Nat) (A0 : Option Addr) (c0 : Nat) (l0 : List Int) (a1 : Int) (a2 : Int) (a3 : Int) (r : Bool) (w : World) (hr0 : Kd.C (Kd.int .i64) w A0 l0.length l0) (hc0 : l0.length ≤ c0) (h : serinettelaw09_LagsTurn.f k l0 a1 a2 a3 = some r) :
    Calls Try.prog 5 #[.slice A0 l0.length c0, .int .u8 a1, .int .u8 a2, .int .u8 a3] w fun e w' => e = .returned (.bool r) ∧ Below w.heap.size w w' := by
  have HR0 := Aside0.mk hr0
  have HC0 := Aside0.mk hc0
  clear hr0 hc0
  have HB := Aside0.mk (Below.refl w.heap.size w)
  have H : ((serinettelaw09_awake.f k).bind fun t184 => ((serinetteref07_Near.f k l0).bind fun t185 => (if (l0.length : Int) > 60 then (serinettelaw09_LagsTurn.j0 k l0 a1 a2 a3 t184 true) else (serinettelaw09_LagsTurn.j0 k l0 a1 a2 a3 t184 (!t185))))) = some r := h
  clear h
  replace H := Option.bind_eq_some_iff.mp H
  obtain ⟨t184, A50, H⟩ := H
  replace H : ((serinetteref07_Near.f k l0).bind fun t185 => (if (l0.length : Int) > 60 then (serinettelaw09_LagsTurn.j0 k l0 a1 a2 a3 t184 true) else (serinettelaw09_LagsTurn.j0 k l0 a1 a2 a3 t184 (!t185)))) = some r := H
  have A5 := Aside0.mk A50
  clear A50
  replace H := Option.bind_eq_some_iff.mp H
  obtain ⟨t185, A60, H⟩ := H
  replace H : (if (l0.length : Int) > 60 then (serinettelaw09_LagsTurn.j0 k l0 a1 a2 a3 t184 true) else (serinettelaw09_LagsTurn.j0 k l0 a1 a2 a3 t184 (!t185))) = some r := H
  have A6 := Aside0.mk A60
  clear A60
  have HC7 := Aside0.mk H
  clear H
  go_enter Try.func5, Try.ntmps5
  go_upto_region 3 with (first | ((with_reducible refine gate_callee (f := 9) rfl ?_); refine goesL_ (some 16) rfl rfl Try.func9 (by kernel_rfl) rfl #[] rfl (by (try simp only [List.map_toArray, List.map_cons, List.map_nil]); first | done | rfl | (simp only [List.length_drop, List.length_take]; rfl)) ?_; (with_reducible refine (serinettelaw09_awake.calls k  t184 _ A5.out).mono ?_); rintro e w8 ⟨rfl, hb⟩; refine ⟨_, rfl, ?_⟩; have n0_ := Aside0.mk (below_step (by repeat (first | (with_reducible first | exact HB.out | apply below_alloc | apply pw_below_drewN | apply below_drew1) | exact HB.out)) hb); clear HB; have HB := n0_; clear n0_; (try clear hb); (try clear hb2); (try clear hk); (try clear hi)) | ((with_reducible refine gate_callee (f := 10) rfl ?_); refine goesL_ (some 18) rfl rfl Try.func10 (by kernel_rfl) rfl #[.slice A0 l0.length c0] rfl (by (try simp only [List.map_toArray, List.map_cons, List.map_nil]); first | done | rfl | (simp only [List.length_drop, List.length_take]; rfl)) ?_; (with_reducible refine (serinetteref07_Near.calls k _ _ l0 t185 _ ?side1 ?side2 A6.out).mono ?_); (case side1 => repeat (first | exact (Kd.C_below HR0.out HB.out) | (with_reducible refine Kd.C_alloc ?_ _) | (with_reducible refine Kd.C_drewN ?_ _) | (with_reducible refine Kd.C_drew ?_))); (case side2 => exact HC0.out); rintro e w' ⟨rfl, ⟨nd, rfl⟩⟩; refine ⟨_, rfl, ?_⟩))
  (try simp only [Act.put, List.setIfInBounds_toArray, List.set_cons_zero, List.set_cons_succ])
  go_cut [25] (fun v25 wc => ∃ (kq : Nat) (x25_6 : Bool), v25 = .bool x25_6 ∧ Aside0 (serinettelaw09_LagsTurn.j0 kq l0 a1 a2 a3 t184 x25_6 = some r) ∧ Aside0 (kq ≤ k) ∧ Aside0 (Below w.heap.size w wc))
  case first =>
    have H := HC7.out
    clear HC7
    by_cases c9 : (l0.length : Int) > 60
    · rw [if_pos c9] at H
      have c9b0 : decide (60 < (l0.length : Int)) = true := decide_eq_true c9
      have c9b1 : decide (60 < l0.length) = true := decide_eq_true (by omega)
      clear c9
      (first | rw [c9b0] | (simp only [i64_w, i32_w]; rw [c9b0]) | skip)
      have H' := Aside0.mk H
      clear H
      go_wp2
      go_meet
      case rel => exact ⟨_, (true), (by first | rfl | (simp; done) | (simp only [i64_w, i32_w]; done) | (simp [*]; done) | (simp only [i64_w, i32_w]; first | rfl | (simp; done) | (simp [*]; done))), H', ⟨by first | omega | exact Nat.le_refl _⟩, ⟨by repeat (first | (with_reducible first | exact HB.out | apply below_alloc | apply pw_below_drewN | apply below_drew1) | exact HB.out)⟩⟩
    · rw [if_neg c9] at H
      have c9b0 : decide (60 < (l0.length : Int)) = false := decide_eq_false c9
      have c9b1 : decide (60 < l0.length) = false := decide_eq_false (by omega)
      clear c9
      (first | rw [c9b0] | (simp only [i64_w, i32_w]; rw [c9b0]) | skip)
      have H' := Aside0.mk H
      clear H
      go_wp2
      go_meet
      case rel => exact ⟨_, (!t185), (by first | rfl | (simp; done) | (simp only [i64_w, i32_w]; done) | (simp [*]; done) | (simp only [i64_w, i32_w]; first | rfl | (simp; done) | (simp [*]; done))), H', ⟨by first | omega | exact Nat.le_refl _⟩, ⟨by repeat (first | (with_reducible first | exact HB.out | apply below_alloc | apply pw_below_drewN | apply below_drew1) | exact HB.out)⟩⟩
  case rest =>
    clear HC7
    try clear c1
    try clear p2
    try clear c5
    try clear c9
    try clear c9b0
    try clear c9b1
    obtain ⟨kq, x25_6, rfl, HA, HJ6, HB⟩ := hcut
    cases kq with
    | zero => exact absurd HA.out (by simp [serinettelaw09_LagsTurn.j0])
    | succ kj6 =>
      have H := HA.out
      clear HA
      simp only [serinettelaw09_LagsTurn.j0] at H
      by_cases c10 : x25_6 = true
      · subst c10
        have H1 : (some t184) = some r := by rw [if_pos rfl] at H; exact H
        clear H
        have H := H1
        clear H1
        obtain rfl := Option.some.inj H
        go_wp2
        go_ret
        exact ⟨by first | rfl | (simp [errW_none, errW_some] <;> rfl) | (simp [*, errW_none, errW_some] <;> rfl), by repeat (first | (with_reducible first | exact HB.out | apply below_alloc | apply pw_below_drewN | apply below_drew1) | exact HB.out)⟩
      · replace c10 := Bool.eq_false_iff.mpr c10
        subst c10
        have H1 : (serinettelaw09_LagsTurn.l0 kj6 l0 a2 a3 t184 (wrap64 (Int.tmod a1 33)) ([] : List Int) (wrap64 ((l0.length : Int) - 1))) = some r := by rw [if_neg (show ¬ (false = true) by decide)] at H; exact H
        clear H
        have H := H1
        clear H1
        have H' := Aside0.mk H
        clear H
        go_wp2
        go_loopg [12, 13] kj6 (fun kq v12 v13 w' => ∃ (x12_2 : List Int) (x13_2 : Int), v13 = .int .i64 x13_2 ∧ Aside0 (serinettelaw09_LagsTurn.l0 kq l0 a2 a3 t184 (wrap64 (Int.tmod a1 33)) x12_2 x13_2 = some r) ∧ Aside0 (kq ≤ kj6) ∧ Aside0 (Kd.R (Kd.int .i64) 3 w' w.heap.size (fun _ => True) v12 x12_2) ∧ Aside0 (Below w.heap.size w w'))
        case atStart => exact ⟨(([] : List Int)), (wrap64 ((l0.length : Int) - 1)), (by first | rfl | (simp; done) | (simp only [i64_w, i32_w]; done) | (simp [*]; done) | (simp only [i64_w, i32_w]; first | rfl | (simp; done) | (simp [*]; done))), H', ⟨Nat.le_refl _⟩, ⟨by first | exact Kd.R_nil _ _ _ _ _ | exact Kd.N_nil _ _ _ _ _ | exact Kd.V_nil _ _ _ _ _ | exact Kd.Q_nil _ _ _ _ _ | exact Kd.S_nil _ _ _ _ _⟩, ⟨by repeat (first | (with_reducible first | exact HB.out | apply below_alloc | apply pw_below_drewN | apply below_drew1) | exact HB.out)⟩⟩
        case round =>
          clear H'
          try clear c1
          try clear p2
          try clear c5
          try clear p6
          try clear c9
          try clear c9b0
          try clear c9b1
          try clear c10
          try clear p2
          obtain ⟨x12_2, x13_2, rfl, HA, HK2, HO_12, HB⟩ := hrel
          cases gk with
          | zero => exact absurd HA.out (by simp [serinettelaw09_LagsTurn.l0])
          | succ k2 =>
            have H := HA.out
            clear HA
            simp only [serinettelaw09_LagsTurn.l0] at H
            by_cases c11 : x13_2 ≥ 0
            · rw [if_pos c11] at H
              have c11b0 : decide (0 ≤ x13_2) = true := decide_eq_true c11
              clear c11
              by_cases c12 : 0 ≤ x13_2
              · rw [if_pos c12] at H
                have c12b0 : decide (0 ≤ x13_2) = true := decide_eq_true c12
                clear c12
                by_cases c13 : x13_2 < (l0.length : Int)
                · rw [if_pos c13] at H
                  have c13b0 : decide (x13_2 < (l0.length : Int)) = true := decide_eq_true c13
                  clear c13
                  by_cases c14 : x12_2.length < 17592186044416
                  · rw [if_pos c14] at H
                    have LMc14 := Aside0.mk c14
                    clear c14
                    obtain ⟨y187, hy187⟩ : ∃ y_ : List Int, y_ = (x12_2 ++ [rd l0 x13_2]) := ⟨_, rfl⟩
                    replace H : (serinettelaw09_LagsTurn.l0 k2 l0 a2 a3 t184 (wrap64 (Int.tmod a1 33)) y187 (wrap64 (x13_2 - 1))) = some r := by first | (rw [hy187]; with_reducible exact H) | (have H2_ := (Option.bind_some _ _).symm.trans H; rw [hy187]; with_reducible exact H2_) | (have H2_ := (Option.bind_some _ _).symm.trans H; with_reducible exact H2_) | with_reducible exact H | (rw [hy187]; exact H) | exact H
                    have Ny187 := Aside0.mk hy187
                    clear hy187
                    have H' := Aside0.mk H
                    clear H
                    have p186 : 0 ≤ (x13_2 : Int) := of_decide_eq_true (by first | (with_reducible assumption) | assumption)
                    have q186 : x13_2 < (l0.length : Int) := of_decide_eq_true (by first | (with_reducible assumption) | assumption)
                    obtain ⟨ad186, e186, hx186_0⟩ := Kd.at_int HR0.out x13_2 p186 q186
                    cases e186
                    replace hx186_0 := (HB.out.cell (World.block_lt_of_cell? w _ hx186_0)).trans hx186_0
                    replace p186 := eq_true p186
                    replace q186 := eq_true q186
                    go_wp2_with (first | ((with_reducible refine gate_builtin (b := .append) (xs := #[.tmp 37, .tmp 42]) rfl ?_); at_builtin; refine Kd.R_append (Kd.int .i64) (w0 := w) w.heap.size rfl (.tmp 37) (.tmp 42) 22 3 (.int .i64 0) 8 rfl Try.underlying22 info3 rfl (by decide) (by omega) u12 x12_2 (rd l0 x13_2) [.int .i64 (rd l0 x13_2)] (fun _ => True) (fun _ => False) rfl rfl ?aP (fun _ hk => hk.elim) ?aF ?aO ?aB ?aS ?aL ?_; (case aP => exact rfl); (case aB => exact (by repeat (first | (with_reducible first | exact HB.out | apply below_alloc | apply pw_below_drewN | apply below_drew1) | exact HB.out))); (case aF => exact (fun _ _ => trivial)); (case aO => exact (by (with_reducible repeat (first | apply Kd.R_alloc | apply Kd.R_drewN | apply Kd.R_drew)); exact HO_12.out)); (case aS => exact (below_size (by repeat (first | (with_reducible first | exact HB.out | apply below_alloc | apply pw_below_drewN | apply below_drew1) | exact HB.out)))); (case aL => have := LMc14.out; omega); intro v188 w15 ho hb hg hat; rw [← Ny187.out] at ho; have n0_ := Aside0.mk (hb); have n1_ := Aside0.mk (ho); clear HB; clear HO_12; have HB := n0_; have HO189 := n1_; clear n0_ n1_; clear ho hb hg hat))
                    go_roundg k2
                    case measure => have := HJ6.out; have := HK2.out; omega
                    case rel => exact ⟨(y187), (wrap64 (x13_2 - 1)), (by first | rfl | (simp; done) | (simp only [i64_w, i32_w]; done) | (simp [*]; done) | (simp only [i64_w, i32_w]; first | rfl | (simp; done) | (simp [*]; done))), H', ⟨by have := HJ6.out; have := HK2.out; omega⟩, ⟨by (with_reducible repeat (first | apply Kd.R_alloc | apply Kd.R_drewN | apply Kd.R_drew)); exact HO189.out⟩, ⟨by repeat (first | (with_reducible first | exact HB.out | apply below_alloc | apply pw_below_drewN | apply below_drew1) | exact HB.out)⟩⟩
                  · rw [if_neg c14] at H
                    exact absurd H (by simp)
                · rw [if_neg c13] at H
                  exact absurd H (by simp)
              · rw [if_neg c12] at H
                exact absurd H (by simp)
            · rw [if_neg c11] at H
              have c11b0 : decide (0 ≤ x13_2) = false := decide_eq_false c11
              clear c11
              obtain ⟨ji16, hji16⟩ : ∃ j_ : Int, (wrap64 (Int.tmod a2 20)) = j_ := ⟨_, rfl⟩
              replace H : (if 0 ≤ (ji16) then (if (ji16 : Int).toNat ≤ 35184372088832 then ((some (List.replicate (ji16 : Int).toNat 0 : List Int)).bind fun y190 => (if y190.length + l0.length < 17592186044416 then ((some (y190 ++ l0 : List Int)).bind fun y193 => (if 0 ≤ (wrap64 (Int.tmod a3 20)) then (if y193.length + (wrap64 (Int.tmod a3 20) : Int).toNat < 17592186044416 then ((lags_Of.f k2 l0 (wrap64 (Int.tmod a1 33))).bind fun t199 => (if t184 = true then ((lags_Of.f k2 x12_2 (wrap64 (Int.tmod a1 33))).bind fun t202 => ((serinetteref01_Ints.f k2 t202 t199).bind fun t205 => (if t205 = true then ((lags_Of.f k2 (y193 ++ List.replicate (wrap64 (Int.tmod a3 20) : Int).toNat 0) (wrap64 (Int.tmod a1 33))).bind fun t206 => ((serinetteref01_Ints.f k2 t206 t199).bind fun t209 => (some t209))) else (some false)))) else (some false))) else (none)) else (none))) else (none))) else (none)) else (none)) = some r := by first | (rw [hji16] at H; exact H) | (simp only [hji16] at H ⊢; exact H)
              have hji16w : (IntKind.i64.wrap (Int.tmod a2 20)) = ji16 := (i64_w _).trans hji16
              by_cases c17 : 0 ≤ (ji16)
              · rw [if_pos c17] at H
                have c17b0 := eq_true c17
                have c17b1 : decide (0 ≤ (ji16)) = true := decide_eq_true c17
                clear c17
                by_cases c18 : (ji16 : Int).toNat ≤ 35184372088832
                · rw [if_pos c18] at H
                  have c18b0 := eq_true c18
                  have c18b1 : decide ((ji16 : Int).toNat ≤ 35184372088832) = true := decide_eq_true c18
                  clear c18
                  obtain ⟨y190, hy190⟩ : ∃ y_ : List Int, y_ = (List.replicate (ji16 : Int).toNat 0) := ⟨_, rfl⟩
                  replace H : (if y190.length + l0.length < 17592186044416 then ((some (y190 ++ l0 : List Int)).bind fun y193 => (if 0 ≤ (wrap64 (Int.tmod a3 20)) then (if y193.length + (wrap64 (Int.tmod a3 20) : Int).toNat < 17592186044416 then ((lags_Of.f k2 l0 (wrap64 (Int.tmod a1 33))).bind fun t199 => (if t184 = true then ((lags_Of.f k2 x12_2 (wrap64 (Int.tmod a1 33))).bind fun t202 => ((serinetteref01_Ints.f k2 t202 t199).bind fun t205 => (if t205 = true then ((lags_Of.f k2 (y193 ++ List.replicate (wrap64 (Int.tmod a3 20) : Int).toNat 0) (wrap64 (Int.tmod a1 33))).bind fun t206 => ((serinetteref01_Ints.f k2 t206 t199).bind fun t209 => (some t209))) else (some false)))) else (some false))) else (none)) else (none))) else (none)) = some r := by first | (rw [hy190]; with_reducible exact H) | (have H2_ := (Option.bind_some _ _).symm.trans H; rw [hy190]; with_reducible exact H2_) | (have H2_ := (Option.bind_some _ _).symm.trans H; with_reducible exact H2_) | with_reducible exact H | (rw [hy190]; exact H) | exact H
                  have Ny190 := Aside0.mk hy190
                  clear hy190
                  by_cases c19 : y190.length + l0.length < 17592186044416
                  · rw [if_pos c19] at H
                    have LMc19 := Aside0.mk c19
                    clear c19
                    obtain ⟨y193, hy193⟩ : ∃ y_ : List Int, y_ = (y190 ++ l0) := ⟨_, rfl⟩
                    replace H : (if 0 ≤ (wrap64 (Int.tmod a3 20)) then (if y193.length + (wrap64 (Int.tmod a3 20) : Int).toNat < 17592186044416 then ((lags_Of.f k2 l0 (wrap64 (Int.tmod a1 33))).bind fun t199 => (if t184 = true then ((lags_Of.f k2 x12_2 (wrap64 (Int.tmod a1 33))).bind fun t202 => ((serinetteref01_Ints.f k2 t202 t199).bind fun t205 => (if t205 = true then ((lags_Of.f k2 (y193 ++ List.replicate (wrap64 (Int.tmod a3 20) : Int).toNat 0) (wrap64 (Int.tmod a1 33))).bind fun t206 => ((serinetteref01_Ints.f k2 t206 t199).bind fun t209 => (some t209))) else (some false)))) else (some false))) else (none)) else (none)) = some r := by first | (rw [hy193]; with_reducible exact H) | (have H2_ := (Option.bind_some _ _).symm.trans H; rw [hy193]; with_reducible exact H2_) | (have H2_ := (Option.bind_some _ _).symm.trans H; with_reducible exact H2_) | with_reducible exact H | (rw [hy193]; exact H) | exact H
                    have Ny193 := Aside0.mk hy193
                    clear hy193
                    obtain ⟨ji20, hji20⟩ : ∃ j_ : Int, (wrap64 (Int.tmod a3 20)) = j_ := ⟨_, rfl⟩
                    replace H : (if 0 ≤ (ji20) then (if y193.length + (ji20 : Int).toNat < 17592186044416 then ((lags_Of.f k2 l0 (wrap64 (Int.tmod a1 33))).bind fun t199 => (if t184 = true then ((lags_Of.f k2 x12_2 (wrap64 (Int.tmod a1 33))).bind fun t202 => ((serinetteref01_Ints.f k2 t202 t199).bind fun t205 => (if t205 = true then ((lags_Of.f k2 (y193 ++ List.replicate (ji20 : Int).toNat 0) (wrap64 (Int.tmod a1 33))).bind fun t206 => ((serinetteref01_Ints.f k2 t206 t199).bind fun t209 => (some t209))) else (some false)))) else (some false))) else (none)) else (none)) = some r := by first | (rw [hji20] at H; exact H) | (simp only [hji20] at H ⊢; exact H)
                    have hji20w : (IntKind.i64.wrap (Int.tmod a3 20)) = ji20 := (i64_w _).trans hji20
                    by_cases c21 : 0 ≤ (ji20)
                    · rw [if_pos c21] at H
                      have c21b0 := eq_true c21
                      have c21b1 : decide (0 ≤ (ji20)) = true := decide_eq_true c21
                      clear c21
                      by_cases c22 : y193.length + (ji20 : Int).toNat < 17592186044416
                      · rw [if_pos c22] at H
                        have LMc22 := Aside0.mk c22
                        clear c22
                        obtain ⟨y196, hy196⟩ : ∃ y_ : List Int, y_ = (y193 ++ List.replicate (ji20 : Int).toNat 0) := ⟨_, rfl⟩
                        replace H : ((lags_Of.f k2 l0 (wrap64 (Int.tmod a1 33))).bind fun t199 => (if t184 = true then ((lags_Of.f k2 x12_2 (wrap64 (Int.tmod a1 33))).bind fun t202 => ((serinetteref01_Ints.f k2 t202 t199).bind fun t205 => (if t205 = true then ((lags_Of.f k2 y196 (wrap64 (Int.tmod a1 33))).bind fun t206 => ((serinetteref01_Ints.f k2 t206 t199).bind fun t209 => (some t209))) else (some false)))) else (some false))) = some r := by first | (rw [hy196]; with_reducible exact H) | (have H2_ := (Option.bind_some _ _).symm.trans H; rw [hy196]; with_reducible exact H2_) | (have H2_ := (Option.bind_some _ _).symm.trans H; with_reducible exact H2_) | with_reducible exact H | (rw [hy196]; exact H) | exact H
                        have Ny196 := Aside0.mk hy196
                        clear hy196
                        replace H := Option.bind_eq_some_iff.mp H
                        obtain ⟨t199, A230, H⟩ := H
                        replace H : (if t184 = true then ((lags_Of.f k2 x12_2 (wrap64 (Int.tmod a1 33))).bind fun t202 => ((serinetteref01_Ints.f k2 t202 t199).bind fun t205 => (if t205 = true then ((lags_Of.f k2 y196 (wrap64 (Int.tmod a1 33))).bind fun t206 => ((serinetteref01_Ints.f k2 t206 t199).bind fun t209 => (some t209))) else (some false)))) else (some false)) = some r := H
                        have A23 := Aside0.mk A230
                        clear A230
                        by_cases c24 : t184 = true
                        · subst c24
                          have H1 : ((lags_Of.f k2 x12_2 (wrap64 (Int.tmod a1 33))).bind fun t202 => ((serinetteref01_Ints.f k2 t202 t199).bind fun t205 => (if t205 = true then ((lags_Of.f k2 y196 (wrap64 (Int.tmod a1 33))).bind fun t206 => ((serinetteref01_Ints.f k2 t206 t199).bind fun t209 => (some t209))) else (some false)))) = some r := by rw [if_pos rfl] at H; exact H
                          clear H
                          have H := H1
                          clear H1
                          replace H := Option.bind_eq_some_iff.mp H
                          obtain ⟨t202, A250, H⟩ := H
                          replace H : ((serinetteref01_Ints.f k2 t202 t199).bind fun t205 => (if t205 = true then ((lags_Of.f k2 y196 (wrap64 (Int.tmod a1 33))).bind fun t206 => ((serinetteref01_Ints.f k2 t206 t199).bind fun t209 => (some t209))) else (some false))) = some r := H
                          have A25 := Aside0.mk A250
                          clear A250
                          replace H := Option.bind_eq_some_iff.mp H
                          obtain ⟨t205, A260, H⟩ := H
                          replace H : (if t205 = true then ((lags_Of.f k2 y196 (wrap64 (Int.tmod a1 33))).bind fun t206 => ((serinetteref01_Ints.f k2 t206 t199).bind fun t209 => (some t209))) else (some false)) = some r := H
                          have A26 := Aside0.mk A260
                          clear A260
                          by_cases c27 : t205 = true
                          · subst c27
                            have H1 : ((lags_Of.f k2 y196 (wrap64 (Int.tmod a1 33))).bind fun t206 => ((serinetteref01_Ints.f k2 t206 t199).bind fun t209 => (some t209))) = some r := by rw [if_pos rfl] at H; exact H
                            clear H
                            have H := H1
                            clear H1
                            replace H := Option.bind_eq_some_iff.mp H
                            obtain ⟨t206, A280, H⟩ := H
                            replace H : ((serinetteref01_Ints.f k2 t206 t199).bind fun t209 => (some t209)) = some r := H
                            have A28 := Aside0.mk A280
                            clear A280
                            replace H := Option.bind_eq_some_iff.mp H
                            obtain ⟨t209, A290, H⟩ := H
                            replace H : (some t209) = some r := H
                            have A29 := Aside0.mk A290
                            clear A290
                            obtain rfl := Option.some.inj H
                            go_wp2_with (first | ((with_reducible refine gate_dst (N := 47) rfl ?_); refine Kd.R_make (Kd.int .i64) _ 3 rfl (N := 47) rfl 22 _ _ rfl ji16 rfl rfl Try.underlying22 (.int .i64 0) 8 info3 rfl (by decide) (by omega) 0 (ok := fun _ => True) (okp := fun _ => True) rfl (fun _ hk => hk) trivial (of_decide_eq_true (by first | (with_reducible assumption) | assumption)) (Nat.le_trans (Nat.mul_le_mul_right _ (of_decide_eq_true (by first | (with_reducible assumption) | assumption) : ji16.toNat ≤ 35184372088832)) (by omega)) (Below.refl _ _) (Nat.le_refl _) ?_; intro v191 w30 ho31 hb hg_ hnew_; clear hg_ hnew_; (first | rw [← Ny190.out] at ho31 | (simp only [Int.reduceToNat] at ho31; rw [← Ny190.out] at ho31)); have n0_ := Aside0.mk (Kd.R_elder' (by (with_reducible repeat (first | apply Kd.R_alloc | apply Kd.R_drewN | apply Kd.R_drew)); exact HO_12.out) (Kd.R_base ho31) hb); have n1_ := Aside0.mk (Kd.R_lower (Kd.R_new' ho31 (Kd.R_lt (by (with_reducible repeat (first | apply Kd.R_alloc | apply Kd.R_drewN | apply Kd.R_drew)); exact HO_12.out))) (below_size (by repeat (first | (with_reducible first | exact HB.out | apply below_alloc | apply pw_below_drewN | apply below_drew1) | exact HB.out)))); have n2_ := Aside0.mk (below_step (by repeat (first | (with_reducible first | exact HB.out | apply below_alloc | apply pw_below_drewN | apply below_drew1) | exact HB.out)) hb); clear HO_12; clear HB; have HO_12 := n0_; have HO192 := n1_; have HB := n2_; clear n0_ n1_ n2_; clear hb ho31) | ((with_reducible refine gate_builtin (b := .append) (xs := #[.tmp 47, .tmp 48]) rfl ?_); at_builtin; refine Kd.R_append_rows (Kd.int .i64) (w0 := w) w.heap.size rfl (.tmp 47) (.tmp 48) 22 3 (.int .i64 0) 8 rfl Try.underlying22 info3 rfl (by decide) (by omega) v191 y190 l0 _ _ _ (fun k_ => some k_ ≠ (u12 : Value).ownBlock) (fun _ => False) rfl rfl ?aO ?aR (fun _ _ h => h) (fun _ h => h.elim) ?aF ?aB ?aS ?aL ?_; (case aR => repeat (first | exact (Kd.C_below HR0.out HB.out) | (with_reducible refine Kd.C_alloc ?_ _) | (with_reducible refine Kd.C_drewN ?_ _) | (with_reducible refine Kd.C_drew ?_))); (case aB => exact (by repeat (first | (with_reducible first | exact HB.out | apply below_alloc | apply pw_below_drewN | apply below_drew1) | exact HB.out))); (case aF => exact (fun k_ hk => Kd.fresh' (Kd.R_lt (by (with_reducible repeat (first | apply Kd.R_alloc | apply Kd.R_drewN | apply Kd.R_drew)); exact HO_12.out)) k_ hk)); (case aO => exact (by (with_reducible repeat (first | apply Kd.R_alloc | apply Kd.R_drewN | apply Kd.R_drew)); exact Kd.R_mono HO192.out (fun _ hk => hk.2))); (case aS => exact (below_size (by repeat (first | (with_reducible first | exact HB.out | apply below_alloc | apply pw_below_drewN | apply below_drew1) | exact HB.out)))); (case aL => have := LMc19.out; omega); intro v194 w32 ho hb hg hat; rw [← Ny193.out] at ho; have n0_ := Aside0.mk (Kd.R_after (ok := (fun _ => True)) (by (with_reducible repeat (first | apply Kd.R_alloc | apply Kd.R_drewN | apply Kd.R_drew)); exact HO_12.out) hg hat); have n1_ := Aside0.mk (hb); have n2_ := Aside0.mk (ho); clear HO_12; clear HB; clear HO192; have HO_12 := n0_; have HB := n1_; have HO195 := n2_; clear n0_ n1_ n2_; clear ho hb hg hat) | (at_builtin; refine Kd.R_append_zeros (Kd.int .i64) (w0 := w) w.heap.size rfl (.tmp 49) (.tmp 52) 22 3 3 (.int .i64 0) 8 rfl Try.underlying22 Try.underlying3 info3 rfl (by decide) (by omega) v194 y193 0 (ji20 : Int) (fun k_ => some k_ ≠ (u12 : Value).ownBlock) rfl rfl rfl ?aF ?aO (of_decide_eq_true (by first | (with_reducible assumption) | assumption)) ?aB ?aS ?aL ?_; (case aB => exact (by repeat (first | (with_reducible first | exact HB.out | apply below_alloc | apply pw_below_drewN | apply below_drew1) | exact HB.out))); (case aF => exact (fun k_ hk => Kd.fresh' (Kd.R_lt (by (with_reducible repeat (first | apply Kd.R_alloc | apply Kd.R_drewN | apply Kd.R_drew)); exact HO_12.out)) k_ hk)); (case aO => exact (by (with_reducible repeat (first | apply Kd.R_alloc | apply Kd.R_drewN | apply Kd.R_drew)); exact HO195.out)); (case aS => exact (below_size (by repeat (first | (with_reducible first | exact HB.out | apply below_alloc | apply pw_below_drewN | apply below_drew1) | exact HB.out)))); (case aL => have := LMc22.out; omega); intro v197 w33 ho hb hg hat; rw [← Ny196.out] at ho; have n0_ := Aside0.mk (Kd.R_after (ok := (fun _ => True)) (by (with_reducible repeat (first | apply Kd.R_alloc | apply Kd.R_drewN | apply Kd.R_drew)); exact HO_12.out) hg hat); have n1_ := Aside0.mk (hb); have n2_ := Aside0.mk (ho); clear HO_12; clear HB; clear HO195; have HO_12 := n0_; have HB := n1_; have HO198 := n2_; clear n0_ n1_ n2_; clear ho hb hg hat) | ((with_reducible refine gate_callee (f := 14) rfl ?_); refine goesL_ (some 56) rfl rfl Try.func14 (by kernel_rfl) rfl #[.slice A0 l0.length c0, .int .i64 (wrap64 (Int.tmod a1 33))] rfl (by (try simp only [List.map_toArray, List.map_cons, List.map_nil]); first | done | rfl | (simp only [List.length_drop, List.length_take]; rfl)) ?_; (with_reducible refine (lags_Of.calls k2 _ _ l0 (wrap64 (Int.tmod a1 33)) t199 _ ?side1 ?side2 A23.out).mono ?_); (case side1 => repeat (first | exact (Kd.C_below HR0.out HB.out) | (with_reducible refine Kd.C_alloc ?_ _) | (with_reducible refine Kd.C_drewN ?_ _) | (with_reducible refine Kd.C_drew ?_))); (case side2 => exact HC0.out); rintro e w34 ⟨v200, rfl, ho0, hb⟩; refine ⟨_, rfl, ?_⟩; have n0_ := Aside0.mk (Kd.R_elder' (by (with_reducible repeat (first | apply Kd.R_alloc | apply Kd.R_drewN | apply Kd.R_drew)); exact HO_12.out) (Kd.R_base ho0) hb); have n1_ := Aside0.mk (Kd.R_elder' (by (with_reducible repeat (first | apply Kd.R_alloc | apply Kd.R_drewN | apply Kd.R_drew)); exact HO198.out) (Kd.R_base ho0) hb); have n2_ := Aside0.mk (Kd.R_lower (Kd.R_new' (Kd.R_new' ho0 (Kd.R_lt (by (with_reducible repeat (first | apply Kd.R_alloc | apply Kd.R_drewN | apply Kd.R_drew)); exact HO_12.out))) (Kd.R_lt (by (with_reducible repeat (first | apply Kd.R_alloc | apply Kd.R_drewN | apply Kd.R_drew)); exact HO198.out))) (below_size (by repeat (first | (with_reducible first | exact HB.out | apply below_alloc | apply pw_below_drewN | apply below_drew1) | exact HB.out)))); have n3_ := Aside0.mk (below_step (by repeat (first | (with_reducible first | exact HB.out | apply below_alloc | apply pw_below_drewN | apply below_drew1) | exact HB.out)) hb); clear HO_12; clear HO198; clear HB; have HO_12 := n0_; have HO198 := n1_; have HO201 := n2_; have HB := n3_; clear n0_ n1_ n2_ n3_; (try clear hb); (try clear hb2); (try clear hk); (try clear hi); (try clear ho0); obtain ⟨Ao35, co35, eo35⟩ := Kd.R_slice HO_12.out; subst eo35) | (go_at_call 14; (with_reducible refine (lags_Of.calls k2 _ _ x12_2 (wrap64 (Int.tmod a1 33)) t202 _ ?side1 ?side2 A25.out).mono ?_); (case side1 => repeat (first | exact (Kd.R_reads' HO_12.out).2.2 | (with_reducible refine Kd.C_alloc ?_ _) | (with_reducible refine Kd.C_drewN ?_ _) | (with_reducible refine Kd.C_drew ?_))); (case side2 => exact (Kd.R_reads' HO_12.out).2.1); rintro e w36 ⟨v203, rfl, ho0, hb⟩; have n0_ := Aside0.mk (Kd.R_elder' (by (with_reducible repeat (first | apply Kd.R_alloc | apply Kd.R_drewN | apply Kd.R_drew)); exact HO_12.out) (Kd.R_base ho0) hb); have n1_ := Aside0.mk (Kd.R_elder' (by (with_reducible repeat (first | apply Kd.R_alloc | apply Kd.R_drewN | apply Kd.R_drew)); exact HO198.out) (Kd.R_base ho0) hb); have n2_ := Aside0.mk (Kd.R_elder' (by (with_reducible repeat (first | apply Kd.R_alloc | apply Kd.R_drewN | apply Kd.R_drew)); exact HO201.out) (Kd.R_base ho0) hb); have n3_ := Aside0.mk (Kd.R_lower (Kd.R_new' (Kd.R_new' (Kd.R_new' ho0 (Kd.R_lt (by (with_reducible repeat (first | apply Kd.R_alloc | apply Kd.R_drewN | apply Kd.R_drew)); exact HO_12.out))) (Kd.R_lt (by (with_reducible repeat (first | apply Kd.R_alloc | apply Kd.R_drewN | apply Kd.R_drew)); exact HO198.out))) (Kd.R_lt (by (with_reducible repeat (first | apply Kd.R_alloc | apply Kd.R_drewN | apply Kd.R_drew)); exact HO201.out))) (below_size (by repeat (first | (with_reducible first | exact HB.out | apply below_alloc | apply pw_below_drewN | apply below_drew1) | exact HB.out)))); have n4_ := Aside0.mk (below_step (by repeat (first | (with_reducible first | exact HB.out | apply below_alloc | apply pw_below_drewN | apply below_drew1) | exact HB.out)) hb); clear HO_12; clear HO198; clear HO201; clear HB; have HO_12 := n0_; have HO198 := n1_; have HO201 := n2_; have HO204 := n3_; have HB := n4_; clear n0_ n1_ n2_ n3_ n4_; (try clear hb); (try clear hb2); (try clear hk); (try clear hi); (try clear ho0); obtain ⟨Ao37, co37, eo37⟩ := Kd.R_slice HO204.out; subst eo37; obtain ⟨Ao38, co38, eo38⟩ := Kd.R_slice HO201.out; subst eo38) | (go_at_call 13; (with_reducible refine (serinetteref01_Ints.calls k2 _ _ t202 _ _ t199 true _ ?side1 ?side2 ?side3 ?side4 A26.out).mono ?_); (case side1 => repeat (first | exact (Kd.R_reads' HO204.out).2.2 | (with_reducible refine Kd.C_alloc ?_ _) | (with_reducible refine Kd.C_drewN ?_ _) | (with_reducible refine Kd.C_drew ?_))); (case side2 => exact (Kd.R_reads' HO204.out).2.1); (case side3 => repeat (first | exact (Kd.R_reads' HO201.out).2.2 | (with_reducible refine Kd.C_alloc ?_ _) | (with_reducible refine Kd.C_drewN ?_ _) | (with_reducible refine Kd.C_drew ?_))); (case side4 => exact (Kd.R_reads' HO201.out).2.1); rintro e w' ⟨rfl, ⟨nd, rfl⟩⟩; obtain ⟨Ao39, co39, eo39⟩ := Kd.R_slice HO198.out; subst eo39) | (go_at_call 14; (with_reducible refine (lags_Of.calls k2 _ _ y196 (wrap64 (Int.tmod a1 33)) t206 _ ?side1 ?side2 A28.out).mono ?_); (case side1 => repeat (first | exact (Kd.R_reads' HO198.out).2.2 | (with_reducible refine Kd.C_alloc ?_ _) | (with_reducible refine Kd.C_drewN ?_ _) | (with_reducible refine Kd.C_drew ?_))); (case side2 => exact (Kd.R_reads' HO198.out).2.1); rintro e w40 ⟨v207, rfl, ho0, hb⟩; have n0_ := Aside0.mk (Kd.R_elder' (by (with_reducible repeat (first | apply Kd.R_alloc | apply Kd.R_drewN | apply Kd.R_drew)); exact HO_12.out) (Kd.R_base ho0) hb); have n1_ := Aside0.mk (Kd.R_elder' (by (with_reducible repeat (first | apply Kd.R_alloc | apply Kd.R_drewN | apply Kd.R_drew)); exact HO198.out) (Kd.R_base ho0) hb); have n2_ := Aside0.mk (Kd.R_elder' (by (with_reducible repeat (first | apply Kd.R_alloc | apply Kd.R_drewN | apply Kd.R_drew)); exact HO201.out) (Kd.R_base ho0) hb); have n3_ := Aside0.mk (Kd.R_elder' (by (with_reducible repeat (first | apply Kd.R_alloc | apply Kd.R_drewN | apply Kd.R_drew)); exact HO204.out) (Kd.R_base ho0) hb); have n4_ := Aside0.mk (Kd.R_lower (Kd.R_new' (Kd.R_new' (Kd.R_new' (Kd.R_new' ho0 (Kd.R_lt (by (with_reducible repeat (first | apply Kd.R_alloc | apply Kd.R_drewN | apply Kd.R_drew)); exact HO_12.out))) (Kd.R_lt (by (with_reducible repeat (first | apply Kd.R_alloc | apply Kd.R_drewN | apply Kd.R_drew)); exact HO198.out))) (Kd.R_lt (by (with_reducible repeat (first | apply Kd.R_alloc | apply Kd.R_drewN | apply Kd.R_drew)); exact HO201.out))) (Kd.R_lt (by (with_reducible repeat (first | apply Kd.R_alloc | apply Kd.R_drewN | apply Kd.R_drew)); exact HO204.out))) (below_size (by repeat (first | (with_reducible first | exact HB.out | apply below_alloc | apply pw_below_drewN | apply below_drew1) | exact HB.out)))); have n5_ := Aside0.mk (below_step (by repeat (first | (with_reducible first | exact HB.out | apply below_alloc | apply pw_below_drewN | apply below_drew1) | exact HB.out)) hb); clear HO_12; clear HO198; clear HO201; clear HO204; clear HB; have HO_12 := n0_; have HO198 := n1_; have HO201 := n2_; have HO204 := n3_; have HO208 := n4_; have HB := n5_; clear n0_ n1_ n2_ n3_ n4_ n5_; (try clear hb); (try clear hb2); (try clear hk); (try clear hi); (try clear ho0); obtain ⟨Ao41, co41, eo41⟩ := Kd.R_slice HO208.out; subst eo41) | (go_at_call 13; (with_reducible refine (serinetteref01_Ints.calls k2 _ _ t206 _ _ t199 t209 _ ?side1 ?side2 ?side3 ?side4 A29.out).mono ?_); (case side1 => repeat (first | exact (Kd.R_reads' HO208.out).2.2 | (with_reducible refine Kd.C_alloc ?_ _) | (with_reducible refine Kd.C_drewN ?_ _) | (with_reducible refine Kd.C_drew ?_))); (case side2 => exact (Kd.R_reads' HO208.out).2.1); (case side3 => repeat (first | exact (Kd.R_reads' HO201.out).2.2 | (with_reducible refine Kd.C_alloc ?_ _) | (with_reducible refine Kd.C_drewN ?_ _) | (with_reducible refine Kd.C_drew ?_))); (case side4 => exact (Kd.R_reads' HO201.out).2.1); rintro e w' ⟨rfl, ⟨nd, rfl⟩⟩))
                            go_ret
                            exact ⟨by first | rfl | (simp [errW_none, errW_some] <;> rfl) | (simp only [← hji16, ← hji20]; first | rfl | (simp [errW_none, errW_some] <;> rfl)) | (simp [*, errW_none, errW_some] <;> rfl), by repeat (first | (with_reducible first | exact HB.out | apply below_alloc | apply pw_below_drewN | apply below_drew1) | exact HB.out)⟩
                          · replace c27 := Bool.eq_false_iff.mpr c27
                            subst c27
                            have H1 : (some false) = some r := by rw [if_neg (show ¬ (false = true) by decide)] at H; exact H
                            clear H
                            have H := H1
                            clear H1
                            obtain rfl := Option.some.inj H
                            go_wp2_with (first | ((with_reducible refine gate_dst (N := 47) rfl ?_); refine Kd.R_make (Kd.int .i64) _ 3 rfl (N := 47) rfl 22 _ _ rfl ji16 rfl rfl Try.underlying22 (.int .i64 0) 8 info3 rfl (by decide) (by omega) 0 (ok := fun _ => True) (okp := fun _ => True) rfl (fun _ hk => hk) trivial (of_decide_eq_true (by first | (with_reducible assumption) | assumption)) (Nat.le_trans (Nat.mul_le_mul_right _ (of_decide_eq_true (by first | (with_reducible assumption) | assumption) : ji16.toNat ≤ 35184372088832)) (by omega)) (Below.refl _ _) (Nat.le_refl _) ?_; intro v191 w42 ho43 hb hg_ hnew_; clear hg_ hnew_; (first | rw [← Ny190.out] at ho43 | (simp only [Int.reduceToNat] at ho43; rw [← Ny190.out] at ho43)); have n0_ := Aside0.mk (Kd.R_elder' (by (with_reducible repeat (first | apply Kd.R_alloc | apply Kd.R_drewN | apply Kd.R_drew)); exact HO_12.out) (Kd.R_base ho43) hb); have n1_ := Aside0.mk (Kd.R_lower (Kd.R_new' ho43 (Kd.R_lt (by (with_reducible repeat (first | apply Kd.R_alloc | apply Kd.R_drewN | apply Kd.R_drew)); exact HO_12.out))) (below_size (by repeat (first | (with_reducible first | exact HB.out | apply below_alloc | apply pw_below_drewN | apply below_drew1) | exact HB.out)))); have n2_ := Aside0.mk (below_step (by repeat (first | (with_reducible first | exact HB.out | apply below_alloc | apply pw_below_drewN | apply below_drew1) | exact HB.out)) hb); clear HO_12; clear HB; have HO_12 := n0_; have HO192 := n1_; have HB := n2_; clear n0_ n1_ n2_; clear hb ho43) | ((with_reducible refine gate_builtin (b := .append) (xs := #[.tmp 47, .tmp 48]) rfl ?_); at_builtin; refine Kd.R_append_rows (Kd.int .i64) (w0 := w) w.heap.size rfl (.tmp 47) (.tmp 48) 22 3 (.int .i64 0) 8 rfl Try.underlying22 info3 rfl (by decide) (by omega) v191 y190 l0 _ _ _ (fun k_ => some k_ ≠ (u12 : Value).ownBlock) (fun _ => False) rfl rfl ?aO ?aR (fun _ _ h => h) (fun _ h => h.elim) ?aF ?aB ?aS ?aL ?_; (case aR => repeat (first | exact (Kd.C_below HR0.out HB.out) | (with_reducible refine Kd.C_alloc ?_ _) | (with_reducible refine Kd.C_drewN ?_ _) | (with_reducible refine Kd.C_drew ?_))); (case aB => exact (by repeat (first | (with_reducible first | exact HB.out | apply below_alloc | apply pw_below_drewN | apply below_drew1) | exact HB.out))); (case aF => exact (fun k_ hk => Kd.fresh' (Kd.R_lt (by (with_reducible repeat (first | apply Kd.R_alloc | apply Kd.R_drewN | apply Kd.R_drew)); exact HO_12.out)) k_ hk)); (case aO => exact (by (with_reducible repeat (first | apply Kd.R_alloc | apply Kd.R_drewN | apply Kd.R_drew)); exact Kd.R_mono HO192.out (fun _ hk => hk.2))); (case aS => exact (below_size (by repeat (first | (with_reducible first | exact HB.out | apply below_alloc | apply pw_below_drewN | apply below_drew1) | exact HB.out)))); (case aL => have := LMc19.out; omega); intro v194 w44 ho hb hg hat; rw [← Ny193.out] at ho; have n0_ := Aside0.mk (Kd.R_after (ok := (fun _ => True)) (by (with_reducible repeat (first | apply Kd.R_alloc | apply Kd.R_drewN | apply Kd.R_drew)); exact HO_12.out) hg hat); have n1_ := Aside0.mk (hb); have n2_ := Aside0.mk (ho); clear HO_12; clear HB; clear HO192; have HO_12 := n0_; have HB := n1_; have HO195 := n2_; clear n0_ n1_ n2_; clear ho hb hg hat) | (at_builtin; refine Kd.R_append_zeros (Kd.int .i64) (w0 := w) w.heap.size rfl (.tmp 49) (.tmp 52) 22 3 3 (.int .i64 0) 8 rfl Try.underlying22 Try.underlying3 info3 rfl (by decide) (by omega) v194 y193 0 (ji20 : Int) (fun k_ => some k_ ≠ (u12 : Value).ownBlock) rfl rfl rfl ?aF ?aO (of_decide_eq_true (by first | (with_reducible assumption) | assumption)) ?aB ?aS ?aL ?_; (case aB => exact (by repeat (first | (with_reducible first | exact HB.out | apply below_alloc | apply pw_below_drewN | apply below_drew1) | exact HB.out))); (case aF => exact (fun k_ hk => Kd.fresh' (Kd.R_lt (by (with_reducible repeat (first | apply Kd.R_alloc | apply Kd.R_drewN | apply Kd.R_drew)); exact HO_12.out)) k_ hk)); (case aO => exact (by (with_reducible repeat (first | apply Kd.R_alloc | apply Kd.R_drewN | apply Kd.R_drew)); exact HO195.out)); (case aS => exact (below_size (by repeat (first | (with_reducible first | exact HB.out | apply below_alloc | apply pw_below_drewN | apply below_drew1) | exact HB.out)))); (case aL => have := LMc22.out; omega); intro v197 w45 ho hb hg hat; rw [← Ny196.out] at ho; have n0_ := Aside0.mk (Kd.R_after (ok := (fun _ => True)) (by (with_reducible repeat (first | apply Kd.R_alloc | apply Kd.R_drewN | apply Kd.R_drew)); exact HO_12.out) hg hat); have n1_ := Aside0.mk (hb); have n2_ := Aside0.mk (ho); clear HO_12; clear HB; clear HO195; have HO_12 := n0_; have HB := n1_; have HO198 := n2_; clear n0_ n1_ n2_; clear ho hb hg hat) | ((with_reducible refine gate_callee (f := 14) rfl ?_); refine goesL_ (some 56) rfl rfl Try.func14 (by kernel_rfl) rfl #[.slice A0 l0.length c0, .int .i64 (wrap64 (Int.tmod a1 33))] rfl (by (try simp only [List.map_toArray, List.map_cons, List.map_nil]); first | done | rfl | (simp only [List.length_drop, List.length_take]; rfl)) ?_; (with_reducible refine (lags_Of.calls k2 _ _ l0 (wrap64 (Int.tmod a1 33)) t199 _ ?side1 ?side2 A23.out).mono ?_); (case side1 => repeat (first | exact (Kd.C_below HR0.out HB.out) | (with_reducible refine Kd.C_alloc ?_ _) | (with_reducible refine Kd.C_drewN ?_ _) | (with_reducible refine Kd.C_drew ?_))); (case side2 => exact HC0.out); rintro e w46 ⟨v200, rfl, ho0, hb⟩; refine ⟨_, rfl, ?_⟩; have n0_ := Aside0.mk (Kd.R_elder' (by (with_reducible repeat (first | apply Kd.R_alloc | apply Kd.R_drewN | apply Kd.R_drew)); exact HO_12.out) (Kd.R_base ho0) hb); have n1_ := Aside0.mk (Kd.R_elder' (by (with_reducible repeat (first | apply Kd.R_alloc | apply Kd.R_drewN | apply Kd.R_drew)); exact HO198.out) (Kd.R_base ho0) hb); have n2_ := Aside0.mk (Kd.R_lower (Kd.R_new' (Kd.R_new' ho0 (Kd.R_lt (by (with_reducible repeat (first | apply Kd.R_alloc | apply Kd.R_drewN | apply Kd.R_drew)); exact HO_12.out))) (Kd.R_lt (by (with_reducible repeat (first | apply Kd.R_alloc | apply Kd.R_drewN | apply Kd.R_drew)); exact HO198.out))) (below_size (by repeat (first | (with_reducible first | exact HB.out | apply below_alloc | apply pw_below_drewN | apply below_drew1) | exact HB.out)))); have n3_ := Aside0.mk (below_step (by repeat (first | (with_reducible first | exact HB.out | apply below_alloc | apply pw_below_drewN | apply below_drew1) | exact HB.out)) hb); clear HO_12; clear HO198; clear HB; have HO_12 := n0_; have HO198 := n1_; have HO201 := n2_; have HB := n3_; clear n0_ n1_ n2_ n3_; (try clear hb); (try clear hb2); (try clear hk); (try clear hi); (try clear ho0); obtain ⟨Ao47, co47, eo47⟩ := Kd.R_slice HO_12.out; subst eo47) | (go_at_call 14; (with_reducible refine (lags_Of.calls k2 _ _ x12_2 (wrap64 (Int.tmod a1 33)) t202 _ ?side1 ?side2 A25.out).mono ?_); (case side1 => repeat (first | exact (Kd.R_reads' HO_12.out).2.2 | (with_reducible refine Kd.C_alloc ?_ _) | (with_reducible refine Kd.C_drewN ?_ _) | (with_reducible refine Kd.C_drew ?_))); (case side2 => exact (Kd.R_reads' HO_12.out).2.1); rintro e w48 ⟨v203, rfl, ho0, hb⟩; have n0_ := Aside0.mk (Kd.R_elder' (by (with_reducible repeat (first | apply Kd.R_alloc | apply Kd.R_drewN | apply Kd.R_drew)); exact HO_12.out) (Kd.R_base ho0) hb); have n1_ := Aside0.mk (Kd.R_elder' (by (with_reducible repeat (first | apply Kd.R_alloc | apply Kd.R_drewN | apply Kd.R_drew)); exact HO198.out) (Kd.R_base ho0) hb); have n2_ := Aside0.mk (Kd.R_elder' (by (with_reducible repeat (first | apply Kd.R_alloc | apply Kd.R_drewN | apply Kd.R_drew)); exact HO201.out) (Kd.R_base ho0) hb); have n3_ := Aside0.mk (Kd.R_lower (Kd.R_new' (Kd.R_new' (Kd.R_new' ho0 (Kd.R_lt (by (with_reducible repeat (first | apply Kd.R_alloc | apply Kd.R_drewN | apply Kd.R_drew)); exact HO_12.out))) (Kd.R_lt (by (with_reducible repeat (first | apply Kd.R_alloc | apply Kd.R_drewN | apply Kd.R_drew)); exact HO198.out))) (Kd.R_lt (by (with_reducible repeat (first | apply Kd.R_alloc | apply Kd.R_drewN | apply Kd.R_drew)); exact HO201.out))) (below_size (by repeat (first | (with_reducible first | exact HB.out | apply below_alloc | apply pw_below_drewN | apply below_drew1) | exact HB.out)))); have n4_ := Aside0.mk (below_step (by repeat (first | (with_reducible first | exact HB.out | apply below_alloc | apply pw_below_drewN | apply below_drew1) | exact HB.out)) hb); clear HO_12; clear HO198; clear HO201; clear HB; have HO_12 := n0_; have HO198 := n1_; have HO201 := n2_; have HO204 := n3_; have HB := n4_; clear n0_ n1_ n2_ n3_ n4_; (try clear hb); (try clear hb2); (try clear hk); (try clear hi); (try clear ho0); obtain ⟨Ao49, co49, eo49⟩ := Kd.R_slice HO204.out; subst eo49; obtain ⟨Ao50, co50, eo50⟩ := Kd.R_slice HO201.out; subst eo50) | (go_at_call 13; (with_reducible refine (serinetteref01_Ints.calls k2 _ _ t202 _ _ t199 false _ ?side1 ?side2 ?side3 ?side4 A26.out).mono ?_); (case side1 => repeat (first | exact (Kd.R_reads' HO204.out).2.2 | (with_reducible refine Kd.C_alloc ?_ _) | (with_reducible refine Kd.C_drewN ?_ _) | (with_reducible refine Kd.C_drew ?_))); (case side2 => exact (Kd.R_reads' HO204.out).2.1); (case side3 => repeat (first | exact (Kd.R_reads' HO201.out).2.2 | (with_reducible refine Kd.C_alloc ?_ _) | (with_reducible refine Kd.C_drewN ?_ _) | (with_reducible refine Kd.C_drew ?_))); (case side4 => exact (Kd.R_reads' HO201.out).2.1); rintro e w' ⟨rfl, ⟨nd, rfl⟩⟩))
                            go_ret
                            exact ⟨by first | rfl | (simp [errW_none, errW_some] <;> rfl) | (simp only [← hji16, ← hji20]; first | rfl | (simp [errW_none, errW_some] <;> rfl)) | (simp [*, errW_none, errW_some] <;> rfl), by repeat (first | (with_reducible first | exact HB.out | apply below_alloc | apply pw_below_drewN | apply below_drew1) | exact HB.out)⟩
                        · replace c24 := Bool.eq_false_iff.mpr c24
                          subst c24
                          have H1 : (some false) = some r := by rw [if_neg (show ¬ (false = true) by decide)] at H; exact H
                          clear H
                          have H := H1
                          clear H1
                          obtain rfl := Option.some.inj H
                          go_wp2_with (first | ((with_reducible refine gate_dst (N := 47) rfl ?_); refine Kd.R_make (Kd.int .i64) _ 3 rfl (N := 47) rfl 22 _ _ rfl ji16 rfl rfl Try.underlying22 (.int .i64 0) 8 info3 rfl (by decide) (by omega) 0 (ok := fun _ => True) (okp := fun _ => True) rfl (fun _ hk => hk) trivial (of_decide_eq_true (by first | (with_reducible assumption) | assumption)) (Nat.le_trans (Nat.mul_le_mul_right _ (of_decide_eq_true (by first | (with_reducible assumption) | assumption) : ji16.toNat ≤ 35184372088832)) (by omega)) (Below.refl _ _) (Nat.le_refl _) ?_; intro v191 w51 ho52 hb hg_ hnew_; clear hg_ hnew_; (first | rw [← Ny190.out] at ho52 | (simp only [Int.reduceToNat] at ho52; rw [← Ny190.out] at ho52)); have n0_ := Aside0.mk (Kd.R_elder' (by (with_reducible repeat (first | apply Kd.R_alloc | apply Kd.R_drewN | apply Kd.R_drew)); exact HO_12.out) (Kd.R_base ho52) hb); have n1_ := Aside0.mk (Kd.R_lower (Kd.R_new' ho52 (Kd.R_lt (by (with_reducible repeat (first | apply Kd.R_alloc | apply Kd.R_drewN | apply Kd.R_drew)); exact HO_12.out))) (below_size (by repeat (first | (with_reducible first | exact HB.out | apply below_alloc | apply pw_below_drewN | apply below_drew1) | exact HB.out)))); have n2_ := Aside0.mk (below_step (by repeat (first | (with_reducible first | exact HB.out | apply below_alloc | apply pw_below_drewN | apply below_drew1) | exact HB.out)) hb); clear HO_12; clear HB; have HO_12 := n0_; have HO192 := n1_; have HB := n2_; clear n0_ n1_ n2_; clear hb ho52) | ((with_reducible refine gate_builtin (b := .append) (xs := #[.tmp 47, .tmp 48]) rfl ?_); at_builtin; refine Kd.R_append_rows (Kd.int .i64) (w0 := w) w.heap.size rfl (.tmp 47) (.tmp 48) 22 3 (.int .i64 0) 8 rfl Try.underlying22 info3 rfl (by decide) (by omega) v191 y190 l0 _ _ _ (fun k_ => some k_ ≠ (u12 : Value).ownBlock) (fun _ => False) rfl rfl ?aO ?aR (fun _ _ h => h) (fun _ h => h.elim) ?aF ?aB ?aS ?aL ?_; (case aR => repeat (first | exact (Kd.C_below HR0.out HB.out) | (with_reducible refine Kd.C_alloc ?_ _) | (with_reducible refine Kd.C_drewN ?_ _) | (with_reducible refine Kd.C_drew ?_))); (case aB => exact (by repeat (first | (with_reducible first | exact HB.out | apply below_alloc | apply pw_below_drewN | apply below_drew1) | exact HB.out))); (case aF => exact (fun k_ hk => Kd.fresh' (Kd.R_lt (by (with_reducible repeat (first | apply Kd.R_alloc | apply Kd.R_drewN | apply Kd.R_drew)); exact HO_12.out)) k_ hk)); (case aO => exact (by (with_reducible repeat (first | apply Kd.R_alloc | apply Kd.R_drewN | apply Kd.R_drew)); exact Kd.R_mono HO192.out (fun _ hk => hk.2))); (case aS => exact (below_size (by repeat (first | (with_reducible first | exact HB.out | apply below_alloc | apply pw_below_drewN | apply below_drew1) | exact HB.out)))); (case aL => have := LMc19.out; omega); intro v194 w53 ho hb hg hat; rw [← Ny193.out] at ho; have n0_ := Aside0.mk (Kd.R_after (ok := (fun _ => True)) (by (with_reducible repeat (first | apply Kd.R_alloc | apply Kd.R_drewN | apply Kd.R_drew)); exact HO_12.out) hg hat); have n1_ := Aside0.mk (hb); have n2_ := Aside0.mk (ho); clear HO_12; clear HB; clear HO192; have HO_12 := n0_; have HB := n1_; have HO195 := n2_; clear n0_ n1_ n2_; clear ho hb hg hat) | (at_builtin; refine Kd.R_append_zeros (Kd.int .i64) (w0 := w) w.heap.size rfl (.tmp 49) (.tmp 52) 22 3 3 (.int .i64 0) 8 rfl Try.underlying22 Try.underlying3 info3 rfl (by decide) (by omega) v194 y193 0 (ji20 : Int) (fun k_ => some k_ ≠ (u12 : Value).ownBlock) rfl rfl rfl ?aF ?aO (of_decide_eq_true (by first | (with_reducible assumption) | assumption)) ?aB ?aS ?aL ?_; (case aB => exact (by repeat (first | (with_reducible first | exact HB.out | apply below_alloc | apply pw_below_drewN | apply below_drew1) | exact HB.out))); (case aF => exact (fun k_ hk => Kd.fresh' (Kd.R_lt (by (with_reducible repeat (first | apply Kd.R_alloc | apply Kd.R_drewN | apply Kd.R_drew)); exact HO_12.out)) k_ hk)); (case aO => exact (by (with_reducible repeat (first | apply Kd.R_alloc | apply Kd.R_drewN | apply Kd.R_drew)); exact HO195.out)); (case aS => exact (below_size (by repeat (first | (with_reducible first | exact HB.out | apply below_alloc | apply pw_below_drewN | apply below_drew1) | exact HB.out)))); (case aL => have := LMc22.out; omega); intro v197 w54 ho hb hg hat; rw [← Ny196.out] at ho; have n0_ := Aside0.mk (Kd.R_after (ok := (fun _ => True)) (by (with_reducible repeat (first | apply Kd.R_alloc | apply Kd.R_drewN | apply Kd.R_drew)); exact HO_12.out) hg hat); have n1_ := Aside0.mk (hb); have n2_ := Aside0.mk (ho); clear HO_12; clear HB; clear HO195; have HO_12 := n0_; have HB := n1_; have HO198 := n2_; clear n0_ n1_ n2_; clear ho hb hg hat) | ((with_reducible refine gate_callee (f := 14) rfl ?_); refine goesL_ (some 56) rfl rfl Try.func14 (by kernel_rfl) rfl #[.slice A0 l0.length c0, .int .i64 (wrap64 (Int.tmod a1 33))] rfl (by (try simp only [List.map_toArray, List.map_cons, List.map_nil]); first | done | rfl | (simp only [List.length_drop, List.length_take]; rfl)) ?_; (with_reducible refine (lags_Of.calls k2 _ _ l0 (wrap64 (Int.tmod a1 33)) t199 _ ?side1 ?side2 A23.out).mono ?_); (case side1 => repeat (first | exact (Kd.C_below HR0.out HB.out) | (with_reducible refine Kd.C_alloc ?_ _) | (with_reducible refine Kd.C_drewN ?_ _) | (with_reducible refine Kd.C_drew ?_))); (case side2 => exact HC0.out); rintro e w55 ⟨v200, rfl, ho0, hb⟩; refine ⟨_, rfl, ?_⟩; have n0_ := Aside0.mk (Kd.R_elder' (by (with_reducible repeat (first | apply Kd.R_alloc | apply Kd.R_drewN | apply Kd.R_drew)); exact HO_12.out) (Kd.R_base ho0) hb); have n1_ := Aside0.mk (Kd.R_elder' (by (with_reducible repeat (first | apply Kd.R_alloc | apply Kd.R_drewN | apply Kd.R_drew)); exact HO198.out) (Kd.R_base ho0) hb); have n2_ := Aside0.mk (Kd.R_lower (Kd.R_new' (Kd.R_new' ho0 (Kd.R_lt (by (with_reducible repeat (first | apply Kd.R_alloc | apply Kd.R_drewN | apply Kd.R_drew)); exact HO_12.out))) (Kd.R_lt (by (with_reducible repeat (first | apply Kd.R_alloc | apply Kd.R_drewN | apply Kd.R_drew)); exact HO198.out))) (below_size (by repeat (first | (with_reducible first | exact HB.out | apply below_alloc | apply pw_below_drewN | apply below_drew1) | exact HB.out)))); have n3_ := Aside0.mk (below_step (by repeat (first | (with_reducible first | exact HB.out | apply below_alloc | apply pw_below_drewN | apply below_drew1) | exact HB.out)) hb); clear HO_12; clear HO198; clear HB; have HO_12 := n0_; have HO198 := n1_; have HO201 := n2_; have HB := n3_; clear n0_ n1_ n2_ n3_; (try clear hb); (try clear hb2); (try clear hk); (try clear hi); (try clear ho0)))
                          go_ret
                          exact ⟨by first | rfl | (simp [errW_none, errW_some] <;> rfl) | (simp only [← hji16, ← hji20]; first | rfl | (simp [errW_none, errW_some] <;> rfl)) | (simp [*, errW_none, errW_some] <;> rfl), by repeat (first | (with_reducible first | exact HB.out | apply below_alloc | apply pw_below_drewN | apply below_drew1) | exact HB.out)⟩
                      · rw [if_neg c22] at H
                        exact absurd H (by simp)
                    · rw [if_neg c21] at H
                      exact absurd H (by simp)
                  · rw [if_neg c19] at H
                    exact absurd H (by simp)
                · rw [if_neg c18] at H
                  exact absurd H (by simp)
              · rw [if_neg c17] at H
                exact absurd H (by simp)

/-- THE ONE PURE STATEMENT of serinettelaw09_LagsTurn: yours. -/
def serinettelaw09_LagsTurn.Pure : Prop := ∀ (l0 : List Int) (a1 : Int) (a2 : Int) (a3 : Int), l0.length ≤ maxLen → l0.length * 8 ≤ 140737488351232 → (∀ x ∈ l0, (Lit.int .i64 x).wf = true) → (Lit.int .u8 a1).wf = true → (Lit.int .u8 a2).wf = true → (Lit.int .u8 a3).wf = true → ∃ k, serinettelaw09_LagsTurn.f k l0 a1 a2 a3 = some true
theorem serinettelaw09_LagsTurn.walk (P : serinettelaw09_LagsTurn.Pure) (a0 : Option Addr) (len0 cap0 : Nat) (z0 : List Int) (a1 : Int) (a2 : Int) (a3 : Int) (w : World) (w0 : (a0 = none ∧ len0 = 0 ∧ cap0 = 0 ∧ z0 = []) ∨ ∃ x, a0 = some x ∧ len0 ≤ cap0 ∧ cap0 ≤ maxLen ∧ z0.length = cap0 ∧ (∀ i, i < z0.length → w.cell? (x.add i) = some (.int .i64 (z0.getD i 0))) ∧ ∀ n ∈ z0, (Lit.int .i64 n).wf = true) (y0 : len0 * 8 ≤ 140737488351232) (w1 : (Lit.int .u8 a1).wf = true) (w2 : (Lit.int .u8 a2).wf = true) (w3 : (Lit.int .u8 a3).wf = true) :
    Calls Try.prog 5 #[.slice a0 len0 cap0, .int .u8 a1, .int .u8 a2, .int .u8 a3] w fun e w' => e = .returned (.bool true) ∧ Below w.heap.size w w' := by
  obtain ⟨l0, rfl, hr0, hm0, hw0, hc0⟩ := ReadsInt.ofRowC w0
  obtain ⟨k, h⟩ := P l0 a1 a2 a3 hm0 y0 hw0 w1 w2 w3
  refine (serinettelaw09_LagsTurn.calls k _ _ l0 a1 a2 a3 true w (Kd.C_of_reads (d := (0 : Int)) (h1 := fun _ => rfl) hr0) hc0 h).mono ?_
  rintro e w' ⟨rfl, hd⟩
  exact ⟨rfl, hd⟩

end Go.Proofs.Ytafbagphbonpiaa.PA
