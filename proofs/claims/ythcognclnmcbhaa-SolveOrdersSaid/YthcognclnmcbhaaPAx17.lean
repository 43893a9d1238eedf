/- Each Go function named below comes to what the plain Lean function of its name answers, wherever that answers (rounds enough, no panic, no row too long); texts by a program of this session by way of the kit's print.py, what that does not take by hand. Condition: what is read lies in memory as each theorem says. -/
import Derived.Test.YthcognclnmcbhaaPAx0
import Derived.Test.YthcognclnmcbhaaPAx9
import Derived.Test.YthcognclnmcbhaaPAx11
import Derived.Test.YthcognclnmcbhaaPAx12
import Derived.Test.YthcognclnmcbhaaPAx13
namespace Go.Proofs.Ythcognclnmcbhaa.PA
open Go.RowKit Go.Proofs.YthcognclnmcbhaaW.PrintWords Go.Proofs.YthcognclnmcbhaaW.PrintLast Go.Proofs.YthcognclnmcbhaaW.PrintMore
attribute [local go_sem] max2_int min2_int max_two min_two max_three min_three max_four min_four   -- for this text's walks alone
set_option linter.unusedVariables false
set_option linter.unusedSimpArgs false

/-! ### serinettelaw10_SolveOrders: function 4 -/
mutual
def serinettelaw10_SolveOrders.j0 : Nat → List Int → Int → Int → Bool → Bool → Option (Bool)
  | 0, _, _, _, _, _ => none
  | k + 1, x0, x1, x2, x7, x24 => if x24 = true then (some x7) else ((solve_Solve.f k x0 (wrap64 (Int.tmod (mn x1 x2) 33))).bind fun t225 => ((solve_Solve.f k x0 (wrap64 ((wrap64 (Int.tmod (mn x1 x2) 33)) + (wrap64 (Int.tmod (mx x1 x2) 9))))).bind fun t228 => (if (t225.length : Int) > (wrap64 (Int.tmod (mn x1 x2) 33)) then (serinettelaw10_SolveOrders.j1 k x7 t228 true) else (if (t228.length : Int) < (t225.length : Int) then (serinettelaw10_SolveOrders.j1 k x7 t228 true) else (if (t228.length : Int) > (mn (wrap64 ((wrap64 (Int.tmod (mn x1 x2) 33)) + (wrap64 (Int.tmod (mx x1 x2) 9)))) 32) then (serinettelaw10_SolveOrders.j1 k x7 t228 true) else (if 0 ≤ (t225.length : Int) then (if (t225.length : Int) ≤ (t228.length : Int) then ((serinetteref10_Same.f k t225 (t228.take ((t225.length : Int) : Int).toNat)).bind fun t235 => (if t235 = true then (if (t225.length : Int) < (wrap64 (Int.tmod (mn x1 x2) 33)) then (serinettelaw10_SolveOrders.j1 k x7 t228 ((t228.length : Int) != (t225.length : Int))) else (serinettelaw10_SolveOrders.j1 k x7 t228 false)) else (serinettelaw10_SolveOrders.j1 k x7 t228 true))) else (none)) else (none)))))))
def serinettelaw10_SolveOrders.j1 : Nat → Bool → List (List Int) → Bool → Option (Bool)
  | 0, _, _, _ => none
  | k + 1, x7, x12, x83 => if x83 = true then (some false) else (serinettelaw10_SolveOrders.l0 k x7 x12 0)
def serinettelaw10_SolveOrders.l0 : Nat → Bool → List (List Int) → Int → Option (Bool)
  | 0, _, _, _ => none
  | k + 1, x7, x12, x13 => if x13 < (x12.length : Int) then (if 0 ≤ x13 then (if ((rd_L1 x12 x13).length : Int) = (wrap64 (x13 + 1)) then (if x13 < ((rd_L1 x12 x13).length : Int) then (if (rd (rd_L1 x12 x13) x13) ≥ 1048576 then (serinettelaw10_SolveOrders.j3 k x7 x12 x13 true) else (serinettelaw10_SolveOrders.j3 k x7 x12 x13 (decide ((rd (rd_L1 x12 x13) x13) ≤ (-1048576))))) else (none)) else (serinettelaw10_SolveOrders.j3 k x7 x12 x13 true)) else (none)) else (some x7)
def serinettelaw10_SolveOrders.j3 : Nat → Bool → List (List Int) → Int → Bool → Option (Bool)
  | 0, _, _, _, _ => none
  | k + 1, x7, x12, x13, x117 => if x117 = true then (some false) else (serinettelaw10_SolveOrders.l1 k x7 x12 x13 0)
def serinettelaw10_SolveOrders.l1 : Nat → Bool → List (List Int) → Int → Int → Option (Bool)
  | 0, _, _, _, _ => none
  | k + 1, x7, x12, x13, x14 => if x14 ≤ x13 then (if 0 ≤ x13 then (if x13 < (x12.length : Int) then (if 0 ≤ x14 then (if x14 < ((rd_L1 x12 x13).length : Int) then (if (rd (rd_L1 x12 x13) x14) > 67108864 then (some false) else (if (rd (rd_L1 x12 x13) x14) < (-67108864) then (some false) else (serinettelaw10_SolveOrders.l1 k x7 x12 x13 (wrap64 (x14 + 1))))) else (none)) else (none)) else (none)) else (none)) else (serinettelaw10_SolveOrders.l0 k x7 x12 (wrap64 (x13 + 1)))
end
def serinettelaw10_SolveOrders.f (k : Nat) (l0 : List Int) (a1 : Int) (a2 : Int) : Option (Bool) := (serinettelaw10_awake.f k).bind fun t223 => ((serinetteref10_Right.f k l0).bind fun t224 => (if (l0.length : Int) > 40 then (serinettelaw10_SolveOrders.j0 k l0 a1 a2 t223 true) else (serinettelaw10_SolveOrders.j0 k l0 a1 a2 t223 (!t224))))
theorem serinettelaw10_SolveOrders.mono_l : ∀ k, (∀ y0 y1 y2 y3 y4, LeO (serinettelaw10_SolveOrders.j0 k y0 y1 y2 y3 y4) (serinettelaw10_SolveOrders.j0 (k + 1) y0 y1 y2 y3 y4)) ∧ (∀ y0 y1 y2, LeO (serinettelaw10_SolveOrders.j1 k y0 y1 y2) (serinettelaw10_SolveOrders.j1 (k + 1) y0 y1 y2)) ∧ (∀ y0 y1 y2, LeO (serinettelaw10_SolveOrders.l0 k y0 y1 y2) (serinettelaw10_SolveOrders.l0 (k + 1) y0 y1 y2)) ∧ (∀ y0 y1 y2 y3, LeO (serinettelaw10_SolveOrders.j3 k y0 y1 y2 y3) (serinettelaw10_SolveOrders.j3 (k + 1) y0 y1 y2 y3)) ∧ (∀ y0 y1 y2 y3, LeO (serinettelaw10_SolveOrders.l1 k y0 y1 y2 y3) (serinettelaw10_SolveOrders.l1 (k + 1) y0 y1 y2 y3))
  | 0 => ⟨fun _ _ _ _ _ r h => by simp [serinettelaw10_SolveOrders.j0] at h, fun _ _ _ r h => by simp [serinettelaw10_SolveOrders.j1] at h, fun _ _ _ r h => by simp [serinettelaw10_SolveOrders.l0] at h, fun _ _ _ _ r h => by simp [serinettelaw10_SolveOrders.j3] at h, fun _ _ _ _ r h => by simp [serinettelaw10_SolveOrders.l1] at h⟩
  | k + 1 => by
    obtain ⟨ih0, ih1, ih2, ih3, ih4⟩ := serinettelaw10_SolveOrders.mono_l k
    refine ⟨?_, ?_, ?_, ?_, ?_⟩
    · intro y0 y1 y2 y3 y4
      unfold serinettelaw10_SolveOrders.j0
      repeat' first
      | (with_reducible exact ih0 _ _ _ _ _)
      | (with_reducible exact ih1 _ _ _)
      | (with_reducible exact ih2 _ _ _)
      | (with_reducible exact ih3 _ _ _ _)
      | (with_reducible exact ih4 _ _ _ _)
      | (with_reducible exact serinettelaw10_awake.mono _)
      | (with_reducible exact serinetteref10_Right.mono _ _)
      | (with_reducible exact serinetteref10_Same.mono _ _ _)
      | (with_reducible exact solve_Solve.mono _ _ _)
      | (with_reducible exact LeO.refl _)
      | (with_reducible exact LeO.none _)
      | (with_reducible refine LeO.ite ?_ ?_)
      | (with_reducible refine LeO.bind ?_ (fun _ => ?_))
      | exact ih0 _ _ _ _ _
      | exact ih1 _ _ _
      | exact ih2 _ _ _
      | exact ih3 _ _ _ _
      | exact ih4 _ _ _ _
      | exact serinettelaw10_awake.mono _
      | exact serinetteref10_Right.mono _ _
      | exact serinetteref10_Same.mono _ _ _
      | exact solve_Solve.mono _ _ _
      | exact LeO.none _
      | refine LeO.ite ?_ ?_
      | refine LeO.bind ?_ (fun _ => ?_)
    · intro y0 y1 y2
      unfold serinettelaw10_SolveOrders.j1
      repeat' first
      | (with_reducible exact ih0 _ _ _ _ _)
      | (with_reducible exact ih1 _ _ _)
      | (with_reducible exact ih2 _ _ _)
      | (with_reducible exact ih3 _ _ _ _)
      | (with_reducible exact ih4 _ _ _ _)
      | (with_reducible exact serinettelaw10_awake.mono _)
      | (with_reducible exact serinetteref10_Right.mono _ _)
      | (with_reducible exact serinetteref10_Same.mono _ _ _)
      | (with_reducible exact solve_Solve.mono _ _ _)
      | (with_reducible exact LeO.refl _)
      | (with_reducible exact LeO.none _)
      | (with_reducible refine LeO.ite ?_ ?_)
      | (with_reducible refine LeO.bind ?_ (fun _ => ?_))
      | exact ih0 _ _ _ _ _
      | exact ih1 _ _ _
      | exact ih2 _ _ _
      | exact ih3 _ _ _ _
      | exact ih4 _ _ _ _
      | exact serinettelaw10_awake.mono _
      | exact serinetteref10_Right.mono _ _
      | exact serinetteref10_Same.mono _ _ _
      | exact solve_Solve.mono _ _ _
      | exact LeO.none _
      | refine LeO.ite ?_ ?_
      | refine LeO.bind ?_ (fun _ => ?_)
    · intro y0 y1 y2
      unfold serinettelaw10_SolveOrders.l0
      repeat' first
      | (with_reducible exact ih0 _ _ _ _ _)
      | (with_reducible exact ih1 _ _ _)
      | (with_reducible exact ih2 _ _ _)
      | (with_reducible exact ih3 _ _ _ _)
      | (with_reducible exact ih4 _ _ _ _)
      | (with_reducible exact serinettelaw10_awake.mono _)
      | (with_reducible exact serinetteref10_Right.mono _ _)
      | (with_reducible exact serinetteref10_Same.mono _ _ _)
      | (with_reducible exact solve_Solve.mono _ _ _)
      | (with_reducible exact LeO.refl _)
      | (with_reducible exact LeO.none _)
      | (with_reducible refine LeO.ite ?_ ?_)
      | (with_reducible refine LeO.bind ?_ (fun _ => ?_))
      | exact ih0 _ _ _ _ _
      | exact ih1 _ _ _
      | exact ih2 _ _ _
      | exact ih3 _ _ _ _
      | exact ih4 _ _ _ _
      | exact serinettelaw10_awake.mono _
      | exact serinetteref10_Right.mono _ _
      | exact serinetteref10_Same.mono _ _ _
      | exact solve_Solve.mono _ _ _
      | exact LeO.none _
      | refine LeO.ite ?_ ?_
      | refine LeO.bind ?_ (fun _ => ?_)
    · intro y0 y1 y2 y3
      unfold serinettelaw10_SolveOrders.j3
      repeat' first
      | (with_reducible exact ih0 _ _ _ _ _)
      | (with_reducible exact ih1 _ _ _)
      | (with_reducible exact ih2 _ _ _)
      | (with_reducible exact ih3 _ _ _ _)
      | (with_reducible exact ih4 _ _ _ _)
      | (with_reducible exact serinettelaw10_awake.mono _)
      | (with_reducible exact serinetteref10_Right.mono _ _)
      | (with_reducible exact serinetteref10_Same.mono _ _ _)
      | (with_reducible exact solve_Solve.mono _ _ _)
      | (with_reducible exact LeO.refl _)
      | (with_reducible exact LeO.none _)
      | (with_reducible refine LeO.ite ?_ ?_)
      | (with_reducible refine LeO.bind ?_ (fun _ => ?_))
      | exact ih0 _ _ _ _ _
      | exact ih1 _ _ _
      | exact ih2 _ _ _
      | exact ih3 _ _ _ _
      | exact ih4 _ _ _ _
      | exact serinettelaw10_awake.mono _
      | exact serinetteref10_Right.mono _ _
      | exact serinetteref10_Same.mono _ _ _
      | exact solve_Solve.mono _ _ _
      | exact LeO.none _
      | refine LeO.ite ?_ ?_
      | refine LeO.bind ?_ (fun _ => ?_)
    · intro y0 y1 y2 y3
      unfold serinettelaw10_SolveOrders.l1
      repeat' first
      | (with_reducible exact ih0 _ _ _ _ _)
      | (with_reducible exact ih1 _ _ _)
      | (with_reducible exact ih2 _ _ _)
      | (with_reducible exact ih3 _ _ _ _)
      | (with_reducible exact ih4 _ _ _ _)
      | (with_reducible exact serinettelaw10_awake.mono _)
      | (with_reducible exact serinetteref10_Right.mono _ _)
      | (with_reducible exact serinetteref10_Same.mono _ _ _)
      | (with_reducible exact solve_Solve.mono _ _ _)
      | (with_reducible exact LeO.refl _)
      | (with_reducible exact LeO.none _)
      | (with_reducible refine LeO.ite ?_ ?_)
      | (with_reducible refine LeO.bind ?_ (fun _ => ?_))
      | exact ih0 _ _ _ _ _
      | exact ih1 _ _ _
      | exact ih2 _ _ _
      | exact ih3 _ _ _ _
      | exact ih4 _ _ _ _
      | exact serinettelaw10_awake.mono _
      | exact serinetteref10_Right.mono _ _
      | exact serinetteref10_Same.mono _ _ _
      | exact solve_Solve.mono _ _ _
      | exact LeO.none _
      | refine LeO.ite ?_ ?_
      | refine LeO.bind ?_ (fun _ => ?_)
theorem serinettelaw10_SolveOrders.mono : ∀ a0 a1 a2 k, LeO (serinettelaw10_SolveOrders.f k a0 a1 a2) (serinettelaw10_SolveOrders.f (k + 1) a0 a1 a2) := by
  intro a0 a1 a2 k
  obtain ⟨ih0, ih1, ih2, ih3, ih4⟩ := serinettelaw10_SolveOrders.mono_l k
  unfold serinettelaw10_SolveOrders.f
  repeat' first
      | (with_reducible exact ih0 _ _ _ _ _)
      | (with_reducible exact ih1 _ _ _)
      | (with_reducible exact ih2 _ _ _)
      | (with_reducible exact ih3 _ _ _ _)
      | (with_reducible exact ih4 _ _ _ _)
      | (with_reducible exact serinettelaw10_awake.mono _)
      | (with_reducible exact serinetteref10_Right.mono _ _)
      | (with_reducible exact serinetteref10_Same.mono _ _ _)
      | (with_reducible exact solve_Solve.mono _ _ _)
      | (with_reducible exact LeO.refl _)
      | (with_reducible exact LeO.none _)
      | (with_reducible refine LeO.ite ?_ ?_)
      | (with_reducible refine LeO.bind ?_ (fun _ => ?_))
      | exact ih0 _ _ _ _ _
      | exact ih1 _ _ _
      | exact ih2 _ _ _
      | exact ih3 _ _ _ _
      | exact ih4 _ _ _ _
      | exact serinettelaw10_awake.mono _
      | exact serinetteref10_Right.mono _ _
      | exact serinetteref10_Same.mono _ _ _
      | exact solve_Solve.mono _ _ _
      | exact LeO.none _
      | refine LeO.ite ?_ ?_
      | refine LeO.bind ?_ (fun _ => ?_)
set_option maxHeartbeats 8000000 in
set_option maxRecDepth 100000 in
theorem serinettelaw10_SolveOrders.calls (k : Nat) (A0 : Option Addr) (c0 : Nat) (l0 : List Int) (a1 : Int) (a2 : Int) (r : Bool) (w : World) (hr0 : Kd.C (Kd.int .i64) w A0 l0.length l0) (hc0 : l0.length ≤ c0) (h : serinettelaw10_SolveOrders.f k l0 a1 a2 = some r) :
    Calls Try.prog 4 #[.slice A0 l0.length c0, .int .u8 a1, .int .u8 a2] w fun e w' => e = .returned (.bool r) ∧ Below w.heap.size w w' := by
  have HR0 := Aside0.mk hr0
  have HC0 := Aside0.mk hc0
  clear hr0 hc0
  have HB := Aside0.mk (Below.refl w.heap.size w)
  have H : ((serinettelaw10_awake.f k).bind fun t223 => ((serinetteref10_Right.f k l0).bind fun t224 => (if (l0.length : Int) > 40 then (serinettelaw10_SolveOrders.j0 k l0 a1 a2 t223 true) else (serinettelaw10_SolveOrders.j0 k l0 a1 a2 t223 (!t224))))) = some r := h
  clear h
  replace H := Option.bind_eq_some_iff.mp H
  obtain ⟨t223, A40, H⟩ := H
  replace H : ((serinetteref10_Right.f k l0).bind fun t224 => (if (l0.length : Int) > 40 then (serinettelaw10_SolveOrders.j0 k l0 a1 a2 t223 true) else (serinettelaw10_SolveOrders.j0 k l0 a1 a2 t223 (!t224)))) = some r := H
  have A4 := Aside0.mk A40
  clear A40
  replace H := Option.bind_eq_some_iff.mp H
  obtain ⟨t224, A50, H⟩ := H
  replace H : (if (l0.length : Int) > 40 then (serinettelaw10_SolveOrders.j0 k l0 a1 a2 t223 true) else (serinettelaw10_SolveOrders.j0 k l0 a1 a2 t223 (!t224))) = some r := H
  have A5 := Aside0.mk A50
  clear A50
  have HC6 := Aside0.mk H
  clear H
  go_enter Try.func4, Try.ntmps4
  go_upto_region 3 with (first | ((with_reducible refine gate_callee (f := 9) rfl ?_); refine goesL_ (some 15) rfl rfl Try.func9 (by kernel_rfl) rfl #[] rfl (by (try simp only [List.map_toArray, List.map_cons, List.map_nil]); first | done | rfl | (simp only [List.length_drop, List.length_take]; rfl)) ?_; (with_reducible refine (serinettelaw10_awake.calls k  t223 _ A4.out).mono ?_); rintro e w7 ⟨rfl, hb⟩; refine ⟨_, rfl, ?_⟩; have n0_ := Aside0.mk (below_step (by repeat (first | (with_reducible first | exact HB.out | apply below_alloc | apply pw_below_drewN | apply below_drew1) | exact HB.out)) hb); clear HB; have HB := n0_; clear n0_; (try clear hb); (try clear hb2); (try clear hk); (try clear hi)) | ((with_reducible refine gate_callee (f := 10) rfl ?_); refine goesL_ (some 17) rfl rfl Try.func10 (by kernel_rfl) rfl #[.slice A0 l0.length c0] rfl (by (try simp only [List.map_toArray, List.map_cons, List.map_nil]); first | done | rfl | (simp only [List.length_drop, List.length_take]; rfl)) ?_; (with_reducible refine (serinetteref10_Right.calls k _ _ l0 t224 _ ?side1 ?side2 A5.out).mono ?_); (case side1 => repeat (first | exact (Kd.C_below HR0.out HB.out) | (with_reducible refine Kd.C_alloc ?_ _) | (with_reducible refine Kd.C_drewN ?_ _) | (with_reducible refine Kd.C_drew ?_))); (case side2 => exact HC0.out); rintro e w' ⟨rfl, ⟨nd, rfl⟩⟩; refine ⟨_, rfl, ?_⟩))
  (try simp only [Act.put, List.setIfInBounds_toArray, List.set_cons_zero, List.set_cons_succ])
  go_cut [24] (fun v24 wc => ∃ (kq : Nat) (x24_5 : Bool), v24 = .bool x24_5 ∧ Aside0 (serinettelaw10_SolveOrders.j0 kq l0 a1 a2 t223 x24_5 = some r) ∧ Aside0 (kq ≤ k) ∧ Aside0 (Below w.heap.size w wc))
  case first =>
    have H := HC6.out
    clear HC6
    by_cases c8 : (l0.length : Int) > 40
    · rw [if_pos c8] at H
      have c8b0 : decide (40 < (l0.length : Int)) = true := decide_eq_true c8
      have c8b1 : decide (40 < l0.length) = true := decide_eq_true (by omega)
      clear c8
      (first | rw [c8b0] | (simp only [i64_w, i32_w]; rw [c8b0]) | skip)
      have H' := Aside0.mk H
      clear H
      go_wp2
      go_meet
      case rel => exact ⟨_, (true), (by first | rfl | (simp; done) | (simp only [i64_w, i32_w]; done) | (simp [*]; done) | (simp only [i64_w, i32_w]; first | rfl | (simp; done) | (simp [*]; done))), H', ⟨by first | omega | exact Nat.le_refl _⟩, ⟨by repeat (first | (with_reducible first | exact HB.out | apply below_alloc | apply pw_below_drewN | apply below_drew1) | exact HB.out)⟩⟩
    · rw [if_neg c8] at H
      have c8b0 : decide (40 < (l0.length : Int)) = false := decide_eq_false c8
      have c8b1 : decide (40 < l0.length) = false := decide_eq_false (by omega)
      clear c8
      (first | rw [c8b0] | (simp only [i64_w, i32_w]; rw [c8b0]) | skip)
      have H' := Aside0.mk H
      clear H
      go_wp2
      go_meet
      case rel => exact ⟨_, (!t224), (by first | rfl | (simp; done) | (simp only [i64_w, i32_w]; done) | (simp [*]; done) | (simp only [i64_w, i32_w]; first | rfl | (simp; done) | (simp [*]; done))), H', ⟨by first | omega | exact Nat.le_refl _⟩, ⟨by repeat (first | (with_reducible first | exact HB.out | apply below_alloc | apply pw_below_drewN | apply below_drew1) | exact HB.out)⟩⟩
  case rest =>
    clear HC6
    try clear c1
    try clear p2
    try clear c4
    try clear c8
    try clear c8b0
    try clear c8b1
    obtain ⟨kq, x24_5, rfl, HA, HJ5, HB⟩ := hcut
    cases kq with
    | zero => exact absurd HA.out (by simp [serinettelaw10_SolveOrders.j0])
    | succ kj5 =>
      have H := HA.out
      clear HA
      simp only [serinettelaw10_SolveOrders.j0] at H
      by_cases c9 : x24_5 = true
      · subst c9
        have H1 : (some t223) = some r := by rw [if_pos rfl] at H; exact H
        clear H
        have H := H1
        clear H1
        obtain rfl := Option.some.inj H
        go_wp2
        go_ret
        exact ⟨by first | rfl | (simp [errW_none, errW_some] <;> rfl) | (simp [*, errW_none, errW_some] <;> rfl), by repeat (first | (with_reducible first | exact HB.out | apply below_alloc | apply pw_below_drewN | apply below_drew1) | exact HB.out)⟩
      · replace c9 := Bool.eq_false_iff.mpr c9
        subst c9
        have H1 : ((solve_Solve.f kj5 l0 (wrap64 (Int.tmod (mn a1 a2) 33))).bind fun t225 => ((solve_Solve.f kj5 l0 (wrap64 ((wrap64 (Int.tmod (mn a1 a2) 33)) + (wrap64 (Int.tmod (mx a1 a2) 9))))).bind fun t228 => (if (t225.length : Int) > (wrap64 (Int.tmod (mn a1 a2) 33)) then (serinettelaw10_SolveOrders.j1 kj5 t223 t228 true) else (if (t228.length : Int) < (t225.length : Int) then (serinettelaw10_SolveOrders.j1 kj5 t223 t228 true) else (if (t228.length : Int) > (mn (wrap64 ((wrap64 (Int.tmod (mn a1 a2) 33)) + (wrap64 (Int.tmod (mx a1 a2) 9)))) 32) then (serinettelaw10_SolveOrders.j1 kj5 t223 t228 true) else (if 0 ≤ (t225.length : Int) then (if (t225.length : Int) ≤ (t228.length : Int) then ((serinetteref10_Same.f kj5 t225 (t228.take ((t225.length : Int) : Int).toNat)).bind fun t235 => (if t235 = true then (if (t225.length : Int) < (wrap64 (Int.tmod (mn a1 a2) 33)) then (serinettelaw10_SolveOrders.j1 kj5 t223 t228 ((t228.length : Int) != (t225.length : Int))) else (serinettelaw10_SolveOrders.j1 kj5 t223 t228 false)) else (serinettelaw10_SolveOrders.j1 kj5 t223 t228 true))) else (none)) else (none))))))) = some r := by rw [if_neg (show ¬ (false = true) by decide)] at H; exact H
        clear H
        have H := H1
        clear H1
        obtain ⟨ji10, hji10⟩ : ∃ j_ : Int, (mn a1 a2) = j_ := ⟨_, rfl⟩
        replace H : ((solve_Solve.f kj5 l0 (wrap64 (Int.tmod (ji10) 33))).bind fun t225 => ((solve_Solve.f kj5 l0 (wrap64 ((wrap64 (Int.tmod (ji10) 33)) + (wrap64 (Int.tmod (mx a1 a2) 9))))).bind fun t228 => (if (t225.length : Int) > (wrap64 (Int.tmod (ji10) 33)) then (serinettelaw10_SolveOrders.j1 kj5 t223 t228 true) else (if (t228.length : Int) < (t225.length : Int) then (serinettelaw10_SolveOrders.j1 kj5 t223 t228 true) else (if (t228.length : Int) > (mn (wrap64 ((wrap64 (Int.tmod (ji10) 33)) + (wrap64 (Int.tmod (mx a1 a2) 9)))) 32) then (serinettelaw10_SolveOrders.j1 kj5 t223 t228 true) else (if 0 ≤ (t225.length : Int) then (if (t225.length : Int) ≤ (t228.length : Int) then ((serinetteref10_Same.f kj5 t225 (t228.take ((t225.length : Int) : Int).toNat)).bind fun t235 => (if t235 = true then (if (t225.length : Int) < (wrap64 (Int.tmod (ji10) 33)) then (serinettelaw10_SolveOrders.j1 kj5 t223 t228 ((t228.length : Int) != (t225.length : Int))) else (serinettelaw10_SolveOrders.j1 kj5 t223 t228 false)) else (serinettelaw10_SolveOrders.j1 kj5 t223 t228 true))) else (none)) else (none))))))) = some r := by first | (rw [hji10] at H; exact H) | (simp only [hji10] at H ⊢; exact H)
        have hji10_ : (if a2 < a1 then a2 else a1) = ji10 := hji10
        obtain ⟨ji11, hji11⟩ : ∃ j_ : Int, (mx a1 a2) = j_ := ⟨_, rfl⟩
        replace H : ((solve_Solve.f kj5 l0 (wrap64 (Int.tmod (ji10) 33))).bind fun t225 => ((solve_Solve.f kj5 l0 (wrap64 ((wrap64 (Int.tmod (ji10) 33)) + (wrap64 (Int.tmod (ji11) 9))))).bind fun t228 => (if (t225.length : Int) > (wrap64 (Int.tmod (ji10) 33)) then (serinettelaw10_SolveOrders.j1 kj5 t223 t228 true) else (if (t228.length : Int) < (t225.length : Int) then (serinettelaw10_SolveOrders.j1 kj5 t223 t228 true) else (if (t228.length : Int) > (mn (wrap64 ((wrap64 (Int.tmod (ji10) 33)) + (wrap64 (Int.tmod (ji11) 9)))) 32) then (serinettelaw10_SolveOrders.j1 kj5 t223 t228 true) else (if 0 ≤ (t225.length : Int) then (if (t225.length : Int) ≤ (t228.length : Int) then ((serinetteref10_Same.f kj5 t225 (t228.take ((t225.length : Int) : Int).toNat)).bind fun t235 => (if t235 = true then (if (t225.length : Int) < (wrap64 (Int.tmod (ji10) 33)) then (serinettelaw10_SolveOrders.j1 kj5 t223 t228 ((t228.length : Int) != (t225.length : Int))) else (serinettelaw10_SolveOrders.j1 kj5 t223 t228 false)) else (serinettelaw10_SolveOrders.j1 kj5 t223 t228 true))) else (none)) else (none))))))) = some r := by first | (rw [hji11] at H; exact H) | (simp only [hji11] at H ⊢; exact H)
        have hji11_ : (if a1 < a2 then a2 else a1) = ji11 := hji11
        replace H := Option.bind_eq_some_iff.mp H
        obtain ⟨t225, A120, H⟩ := H
        replace H : ((solve_Solve.f kj5 l0 (wrap64 ((wrap64 (Int.tmod (ji10) 33)) + (wrap64 (Int.tmod (ji11) 9))))).bind fun t228 => (if (t225.length : Int) > (wrap64 (Int.tmod (ji10) 33)) then (serinettelaw10_SolveOrders.j1 kj5 t223 t228 true) else (if (t228.length : Int) < (t225.length : Int) then (serinettelaw10_SolveOrders.j1 kj5 t223 t228 true) else (if (t228.length : Int) > (mn (wrap64 ((wrap64 (Int.tmod (ji10) 33)) + (wrap64 (Int.tmod (ji11) 9)))) 32) then (serinettelaw10_SolveOrders.j1 kj5 t223 t228 true) else (if 0 ≤ (t225.length : Int) then (if (t225.length : Int) ≤ (t228.length : Int) then ((serinetteref10_Same.f kj5 t225 (t228.take ((t225.length : Int) : Int).toNat)).bind fun t235 => (if t235 = true then (if (t225.length : Int) < (wrap64 (Int.tmod (ji10) 33)) then (serinettelaw10_SolveOrders.j1 kj5 t223 t228 ((t228.length : Int) != (t225.length : Int))) else (serinettelaw10_SolveOrders.j1 kj5 t223 t228 false)) else (serinettelaw10_SolveOrders.j1 kj5 t223 t228 true))) else (none)) else (none)))))) = some r := H
        have A12 := Aside0.mk A120
        clear A120
        replace H := Option.bind_eq_some_iff.mp H
        obtain ⟨t228, A130, H⟩ := H
        replace H : (if (t225.length : Int) > (wrap64 (Int.tmod (ji10) 33)) then (serinettelaw10_SolveOrders.j1 kj5 t223 t228 true) else (if (t228.length : Int) < (t225.length : Int) then (serinettelaw10_SolveOrders.j1 kj5 t223 t228 true) else (if (t228.length : Int) > (mn (wrap64 ((wrap64 (Int.tmod (ji10) 33)) + (wrap64 (Int.tmod (ji11) 9)))) 32) then (serinettelaw10_SolveOrders.j1 kj5 t223 t228 true) else (if 0 ≤ (t225.length : Int) then (if (t225.length : Int) ≤ (t228.length : Int) then ((serinetteref10_Same.f kj5 t225 (t228.take ((t225.length : Int) : Int).toNat)).bind fun t235 => (if t235 = true then (if (t225.length : Int) < (wrap64 (Int.tmod (ji10) 33)) then (serinettelaw10_SolveOrders.j1 kj5 t223 t228 ((t228.length : Int) != (t225.length : Int))) else (serinettelaw10_SolveOrders.j1 kj5 t223 t228 false)) else (serinettelaw10_SolveOrders.j1 kj5 t223 t228 true))) else (none)) else (none))))) = some r := H
        have A13 := Aside0.mk A130
        clear A130
        have HC14 := Aside0.mk H
        clear H
        go_upto_region 9 with (first | ((with_reducible refine gate_callee (f := 12) rfl ?_); refine goesL_ (some 40) rfl rfl Try.func12 (by kernel_rfl) rfl #[.slice A0 l0.length c0, .int .i64 (wrap64 (Int.tmod (ji10) 33))] rfl (by (try simp only [List.map_toArray, List.map_cons, List.map_nil]); first | done | (simp only [hji10]; rfl) | rfl | (simp only [List.length_drop, List.length_take]; rfl)) ?_; (with_reducible refine (solve_Solve.calls kj5 _ _ l0 (wrap64 (Int.tmod (ji10) 33)) t225 _ ?side1 ?side2 A12.out).mono ?_); (case side1 => repeat (first | exact (Kd.C_below HR0.out HB.out) | (with_reducible refine Kd.C_alloc ?_ _) | (with_reducible refine Kd.C_drewN ?_ _) | (with_reducible refine Kd.C_drew ?_))); (case side2 => exact HC0.out); rintro e w15 ⟨v226, rfl, ho0, hb⟩; refine ⟨_, rfl, ?_⟩; have n0_ := Aside0.mk (Kd.S_lower ho0 (below_size (by repeat (first | (with_reducible first | exact HB.out | apply below_alloc | apply pw_below_drewN | apply below_drew1) | exact HB.out)))); have n1_ := Aside0.mk (below_step (by repeat (first | (with_reducible first | exact HB.out | apply below_alloc | apply pw_below_drewN | apply below_drew1) | exact HB.out)) hb); clear HB; have HO227 := n0_; have HB := n1_; clear n0_ n1_; (try clear hb); (try clear hb2); (try clear hk); (try clear hi); (try clear ho0)) | ((with_reducible refine gate_callee (f := 12) rfl ?_); refine goesL_ (some 43) rfl rfl Try.func12 (by kernel_rfl) rfl #[.slice A0 l0.length c0, .int .i64 (wrap64 ((wrap64 (Int.tmod (ji10) 33)) + (wrap64 (Int.tmod (ji11) 9))))] rfl (by (try simp only [List.map_toArray, List.map_cons, List.map_nil]); first | done | (simp only [hji10, hji11]; rfl) | rfl | (simp only [List.length_drop, List.length_take]; rfl)) ?_; (with_reducible refine (solve_Solve.calls kj5 _ _ l0 (wrap64 ((wrap64 (Int.tmod (ji10) 33)) + (wrap64 (Int.tmod (ji11) 9)))) t228 _ ?side1 ?side2 A13.out).mono ?_); (case side1 => repeat (first | exact (Kd.C_below HR0.out HB.out) | (with_reducible refine Kd.C_alloc ?_ _) | (with_reducible refine Kd.C_drewN ?_ _) | (with_reducible refine Kd.C_drew ?_))); (case side2 => exact HC0.out); rintro e w16 ⟨v229, rfl, ho0, hb⟩; refine ⟨_, rfl, ?_⟩; have n0_ := Aside0.mk (Kd.S_elder' (by (with_reducible repeat (first | apply Kd.S_alloc | apply Kd.S_drewN | apply Kd.S_drew)); exact HO227.out) (Kd.S_base ho0) hb); have n1_ := Aside0.mk (Kd.S_lower (Kd.S_new' ho0 (Kd.S_lt (by (with_reducible repeat (first | apply Kd.S_alloc | apply Kd.S_drewN | apply Kd.S_drew)); exact HO227.out))) (below_size (by repeat (first | (with_reducible first | exact HB.out | apply below_alloc | apply pw_below_drewN | apply below_drew1) | exact HB.out)))); have n2_ := Aside0.mk (below_step (by repeat (first | (with_reducible first | exact HB.out | apply below_alloc | apply pw_below_drewN | apply below_drew1) | exact HB.out)) hb); clear HO227; clear HB; have HO227 := n0_; have HO230 := n1_; have HB := n2_; clear n0_ n1_ n2_; (try clear hb); (try clear hb2); (try clear hk); (try clear hi); (try clear ho0)))
        (try simp only [Act.put, List.setIfInBounds_toArray, List.set_cons_zero, List.set_cons_succ])
        go_cut [83] (fun v83 wc => ∃ (kq : Nat) (x83_13 : Bool), v83 = .bool x83_13 ∧ Aside0 (serinettelaw10_SolveOrders.j1 kq t223 t228 x83_13 = some r) ∧ Aside0 (kq ≤ kj5) ∧ Aside0 (Kd.S (Kd.slice 3 (Kd.int .i64)) 22 wc w.heap.size (fun _ => True) v229 t228) ∧ Aside0 (Below w.heap.size w wc))
        case first =>
          have H := HC14.out
          clear HC14
          by_cases c17 : (t225.length : Int) > (wrap64 (Int.tmod (ji10) 33))
          · rw [if_pos c17] at H
            have c17b0 : decide ((wrap64 (Int.tmod (ji10) 33)) < (t225.length : Int)) = true := decide_eq_true c17
            clear c17
            (first | rw [c17b0] | (simp only [i64_w, i32_w]; rw [c17b0]) | skip)
            have H' := Aside0.mk H
            clear H
            obtain ⟨Ao18, co18, eo18⟩ := Kd.S_slice HO227.out
            subst eo18
            go_wp2
            go_meet
            case rel => exact ⟨_, (true), (by first | rfl | (simp; done) | (simp only [i64_w, i32_w]; done) | (simp [*]; done) | (simp only [i64_w, i32_w]; first | rfl | (simp; done) | (simp [*]; done))), H', ⟨by have := HJ5.out; first | omega | exact Nat.le_refl _⟩, ⟨by (with_reducible repeat (first | apply Kd.S_alloc | apply Kd.S_drewN | apply Kd.S_drew)); exact Kd.S_mono HO230.out (fun _ hk => trivial)⟩, ⟨by repeat (first | (with_reducible first | exact HB.out | apply below_alloc | apply pw_below_drewN | apply below_drew1) | exact HB.out)⟩⟩
          · rw [if_neg c17] at H
            have c17b0 : decide ((wrap64 (Int.tmod (ji10) 33)) < (t225.length : Int)) = false := decide_eq_false c17
            clear c17
            (first | rw [c17b0] | (simp only [i64_w, i32_w]; rw [c17b0]) | skip)
            by_cases c19 : (t228.length : Int) < (t225.length : Int)
            · rw [if_pos c19] at H
              have c19b0 : decide ((t228.length : Int) < (t225.length : Int)) = true := decide_eq_true c19
              have c19b1 : decide (t228.length < t225.length) = true := decide_eq_true (Int.ofNat_lt.mp c19)
              clear c19
              have H' := Aside0.mk H
              clear H
              obtain ⟨Ao20, co20, eo20⟩ := Kd.S_slice HO227.out
              subst eo20
              obtain ⟨Ao21, co21, eo21⟩ := Kd.S_slice HO230.out
              subst eo21
              go_wp2
              go_meet
              case rel => exact ⟨_, (true), (by first | rfl | (simp; done) | (simp only [i64_w, i32_w]; done) | (simp [*]; done) | (simp only [i64_w, i32_w]; first | rfl | (simp; done) | (simp [*]; done))), H', ⟨by have := HJ5.out; first | omega | exact Nat.le_refl _⟩, ⟨by (with_reducible repeat (first | apply Kd.S_alloc | apply Kd.S_drewN | apply Kd.S_drew)); exact Kd.S_mono HO230.out (fun _ hk => trivial)⟩, ⟨by repeat (first | (with_reducible first | exact HB.out | apply below_alloc | apply pw_below_drewN | apply below_drew1) | exact HB.out)⟩⟩
            · rw [if_neg c19] at H
              have c19b0 : decide ((t228.length : Int) < (t225.length : Int)) = false := decide_eq_false c19
              have c19b1 : decide (t228.length < t225.length) = false := decide_eq_false (fun h => c19 (Int.ofNat_lt.mpr h))
              clear c19
              obtain ⟨ji22, hji22⟩ : ∃ j_ : Int, (mn (wrap64 ((wrap64 (Int.tmod (ji10) 33)) + (wrap64 (Int.tmod (ji11) 9)))) 32) = j_ := ⟨_, rfl⟩
              replace H : (if (t228.length : Int) > (ji22) then (serinettelaw10_SolveOrders.j1 kj5 t223 t228 true) else (if 0 ≤ (t225.length : Int) then (if (t225.length : Int) ≤ (t228.length : Int) then ((serinetteref10_Same.f kj5 t225 (t228.take ((t225.length : Int) : Int).toNat)).bind fun t235 => (if t235 = true then (if (t225.length : Int) < (wrap64 (Int.tmod (ji10) 33)) then (serinettelaw10_SolveOrders.j1 kj5 t223 t228 ((t228.length : Int) != (t225.length : Int))) else (serinettelaw10_SolveOrders.j1 kj5 t223 t228 false)) else (serinettelaw10_SolveOrders.j1 kj5 t223 t228 true))) else (none)) else (none))) = some r := by first | (rw [hji22] at H; exact H) | (simp only [hji22] at H ⊢; exact H)
              have hji22_ : (if 32 < (wrap64 ((wrap64 (Int.tmod (ji10) 33)) + (wrap64 (Int.tmod (ji11) 9)))) then 32 else (wrap64 ((wrap64 (Int.tmod (ji10) 33)) + (wrap64 (Int.tmod (ji11) 9))))) = ji22 := hji22
              by_cases c23 : (t228.length : Int) > (ji22)
              · rw [if_pos c23] at H
                have c23b0 : decide ((ji22) < (t228.length : Int)) = true := decide_eq_true c23
                clear c23
                have H' := Aside0.mk H
                clear H
                obtain ⟨Ao24, co24, eo24⟩ := Kd.S_slice HO227.out
                subst eo24
                obtain ⟨Ao25, co25, eo25⟩ := Kd.S_slice HO230.out
                subst eo25
                go_wp2
                go_meet
                case rel => exact ⟨_, (true), (by first | rfl | (simp; done) | (simp only [i64_w, i32_w]; done) | (simp [*]; done) | (simp only [i64_w, i32_w]; first | rfl | (simp; done) | (simp [*]; done))), H', ⟨by have := HJ5.out; first | omega | exact Nat.le_refl _⟩, ⟨by (with_reducible repeat (first | apply Kd.S_alloc | apply Kd.S_drewN | apply Kd.S_drew)); exact Kd.S_mono HO230.out (fun _ hk => trivial)⟩, ⟨by repeat (first | (with_reducible first | exact HB.out | apply below_alloc | apply pw_below_drewN | apply below_drew1) | exact HB.out)⟩⟩
              · rw [if_neg c23] at H
                have c23b0 : decide ((ji22) < (t228.length : Int)) = false := decide_eq_false c23
                clear c23
                by_cases c26 : 0 ≤ (t225.length : Int)
                · rw [if_pos c26] at H
                  have c26b0 := eq_true c26
                  have c26b1 : decide (0 ≤ (t225.length : Int)) = true := decide_eq_true c26
                  clear c26
                  by_cases c27 : (t225.length : Int) ≤ (t228.length : Int)
                  · rw [if_pos c27] at H
                    have c27b0 := eq_true c27
                    have c27b1 : decide ((t225.length : Int) ≤ (t228.length : Int)) = true := decide_eq_true c27
                    clear c27
                    obtain ⟨y231, hy231⟩ : ∃ y_ : List (List Int), y_ = (t228.take ((t225.length : Int) : Int).toNat) := ⟨_, rfl⟩
                    replace H : ((serinetteref10_Same.f kj5 t225 y231).bind fun t235 => (if t235 = true then (if (t225.length : Int) < (wrap64 (Int.tmod (ji10) 33)) then (serinettelaw10_SolveOrders.j1 kj5 t223 t228 ((t228.length : Int) != (t225.length : Int))) else (serinettelaw10_SolveOrders.j1 kj5 t223 t228 false)) else (serinettelaw10_SolveOrders.j1 kj5 t223 t228 true))) = some r := by first | (rw [hy231]; with_reducible exact H) | (have H2_ := (Option.bind_some _ _).symm.trans H; rw [hy231]; with_reducible exact H2_) | (have H2_ := (Option.bind_some _ _).symm.trans H; with_reducible exact H2_) | with_reducible exact H | (rw [hy231]; exact H) | exact H
                    have Ny231 := Aside0.mk hy231
                    clear hy231
                    replace H := Option.bind_eq_some_iff.mp H
                    obtain ⟨t235, A280, H⟩ := H
                    replace H : (if t235 = true then (if (t225.length : Int) < (wrap64 (Int.tmod (ji10) 33)) then (serinettelaw10_SolveOrders.j1 kj5 t223 t228 ((t228.length : Int) != (t225.length : Int))) else (serinettelaw10_SolveOrders.j1 kj5 t223 t228 false)) else (serinettelaw10_SolveOrders.j1 kj5 t223 t228 true)) = some r := H
                    have A28 := Aside0.mk A280
                    clear A280
                    by_cases c29 : t235 = true
                    · subst c29
                      have H1 : (if (t225.length : Int) < (wrap64 (Int.tmod (ji10) 33)) then (serinettelaw10_SolveOrders.j1 kj5 t223 t228 ((t228.length : Int) != (t225.length : Int))) else (serinettelaw10_SolveOrders.j1 kj5 t223 t228 false)) = some r := by rw [if_pos rfl] at H; exact H
                      clear H
                      have H := H1
                      clear H1
                      by_cases c30 : (t225.length : Int) < (wrap64 (Int.tmod (ji10) 33))
                      · rw [if_pos c30] at H
                        have c30b0 : decide ((t225.length : Int) < (wrap64 (Int.tmod (ji10) 33))) = true := decide_eq_true c30
                        clear c30
                        have H' := Aside0.mk H
                        clear H
                        obtain ⟨Ao31, co31, eo31⟩ := Kd.S_slice HO227.out
                        subst eo31
                        obtain ⟨Ao32, co32, eo32⟩ := Kd.S_slice HO230.out
                        subst eo32
                        have q33 : ((t225.length : Int) : Int) ≤ ((t228.length : Int) : Int) := of_decide_eq_true (by first | (with_reducible assumption) | assumption)
                        obtain ⟨i033, hi033, _, hsz33, _⟩ := info_parts info22
                        have hroom33 : t228.length ≤ co32 := (Kd.S_reads' HO230.out).2.1
                        have hC33 : Kd.C (Kd.slice 3 (Kd.int .i64)) _ Ao32 t228.length t228 := (Kd.S_reads' HO230.out).2.2
                        have hcut33 := cut_to (P := Try.prog) 26 22 .i64 Try.underlying26 hi033 Ao32 t228.length co32 (t225.length : Int) (of_decide_eq_true (by first | (with_reducible assumption) | assumption)) q33 hroom33
                        have hr33 := Kd.C_take (m := ((t225.length : Int) : Int).toNat) hC33 (by omega)
                        have hy33 : y231.length = ((t225.length : Int) : Int).toNat := (by rw [Ny231.out, List.length_take]; omega)
                        rw [← Ny231.out] at hr33
                        rw [← hy33] at hcut33
                        have HR234 := Aside0.mk hr33
                        have HC234 := Aside0.mk (show y231.length ≤ co32 from by omega)
                        clear hr33 hC33 hroom33 hi033 hsz33
                        have KY33 := Aside0.mk hy33
                        clear hy33
                        have KL33 := Aside0.mk (show ((t225.length : Int) : Int).toNat ≤ t228.length from by omega)
                        replace q33 := eq_true q33
                        go_wp2_with (first | (go_at_call 11; (with_reducible refine (serinetteref10_Same.calls kj5 _ _ t225 _ _ y231 true _ ?side1 ?side2 ?side3 ?side4 A28.out).mono ?_); (case side1 => repeat (first | exact (Kd.S_reads' HO227.out).2.2 | (with_reducible refine Kd.C_alloc ?_ _) | (with_reducible refine Kd.C_drewN ?_ _) | (with_reducible refine Kd.C_drew ?_))); (case side2 => exact (Kd.S_reads' HO227.out).2.1); (case side3 => repeat (first | exact (by repeat (first | (with_reducible exact HR234.out) | (with_reducible refine Kd.C_alloc ?_ _) | (with_reducible refine Kd.C_drewN ?_ _) | (with_reducible refine Kd.C_drew ?_) | exact HR234.out)) | (with_reducible refine Kd.C_alloc ?_ _) | (with_reducible refine Kd.C_drewN ?_ _) | (with_reducible refine Kd.C_drew ?_))); (case side4 => exact HC234.out); rintro e w' ⟨rfl, ⟨nd, rfl⟩⟩))
                        go_meet
                        case rel => exact ⟨_, (((t228.length : Int) != (t225.length : Int))), (by first | rfl | (simp; done) | (simp only [i64_w, i32_w]; done) | (simp [*]; done) | (simp only [i64_w, i32_w]; first | rfl | (simp; done) | (simp [*]; done))), H', ⟨by have := HJ5.out; first | omega | exact Nat.le_refl _⟩, ⟨by (with_reducible repeat (first | apply Kd.S_alloc | apply Kd.S_drewN | apply Kd.S_drew)); exact Kd.S_mono HO230.out (fun _ hk => trivial)⟩, ⟨by repeat (first | (with_reducible first | exact HB.out | apply below_alloc | apply pw_below_drewN | apply below_drew1) | exact HB.out)⟩⟩
                      · rw [if_neg c30] at H
                        have c30b0 : decide ((t225.length : Int) < (wrap64 (Int.tmod (ji10) 33))) = false := decide_eq_false c30
                        clear c30
                        have H' := Aside0.mk H
                        clear H
                        obtain ⟨Ao34, co34, eo34⟩ := Kd.S_slice HO227.out
                        subst eo34
                        obtain ⟨Ao35, co35, eo35⟩ := Kd.S_slice HO230.out
                        subst eo35
                        have q36 : ((t225.length : Int) : Int) ≤ ((t228.length : Int) : Int) := of_decide_eq_true (by first | (with_reducible assumption) | assumption)
                        obtain ⟨i036, hi036, _, hsz36, _⟩ := info_parts info22
                        have hroom36 : t228.length ≤ co35 := (Kd.S_reads' HO230.out).2.1
                        have hC36 : Kd.C (Kd.slice 3 (Kd.int .i64)) _ Ao35 t228.length t228 := (Kd.S_reads' HO230.out).2.2
                        have hcut36 := cut_to (P := Try.prog) 26 22 .i64 Try.underlying26 hi036 Ao35 t228.length co35 (t225.length : Int) (of_decide_eq_true (by first | (with_reducible assumption) | assumption)) q36 hroom36
                        have hr36 := Kd.C_take (m := ((t225.length : Int) : Int).toNat) hC36 (by omega)
                        have hy36 : y231.length = ((t225.length : Int) : Int).toNat := (by rw [Ny231.out, List.length_take]; omega)
                        rw [← Ny231.out] at hr36
                        rw [← hy36] at hcut36
                        have HR234 := Aside0.mk hr36
                        have HC234 := Aside0.mk (show y231.length ≤ co35 from by omega)
                        clear hr36 hC36 hroom36 hi036 hsz36
                        have KY36 := Aside0.mk hy36
                        clear hy36
                        have KL36 := Aside0.mk (show ((t225.length : Int) : Int).toNat ≤ t228.length from by omega)
                        replace q36 := eq_true q36
                        go_wp2_with (first | (go_at_call 11; (with_reducible refine (serinetteref10_Same.calls kj5 _ _ t225 _ _ y231 true _ ?side1 ?side2 ?side3 ?side4 A28.out).mono ?_); (case side1 => repeat (first | exact (Kd.S_reads' HO227.out).2.2 | (with_reducible refine Kd.C_alloc ?_ _) | (with_reducible refine Kd.C_drewN ?_ _) | (with_reducible refine Kd.C_drew ?_))); (case side2 => exact (Kd.S_reads' HO227.out).2.1); (case side3 => repeat (first | exact (by repeat (first | (with_reducible exact HR234.out) | (with_reducible refine Kd.C_alloc ?_ _) | (with_reducible refine Kd.C_drewN ?_ _) | (with_reducible refine Kd.C_drew ?_) | exact HR234.out)) | (with_reducible refine Kd.C_alloc ?_ _) | (with_reducible refine Kd.C_drewN ?_ _) | (with_reducible refine Kd.C_drew ?_))); (case side4 => exact HC234.out); rintro e w' ⟨rfl, ⟨nd, rfl⟩⟩))
                        go_meet
                        case rel => exact ⟨_, (false), (by first | rfl | (simp; done) | (simp only [i64_w, i32_w]; done) | (simp [*]; done) | (simp only [i64_w, i32_w]; first | rfl | (simp; done) | (simp [*]; done))), H', ⟨by have := HJ5.out; first | omega | exact Nat.le_refl _⟩, ⟨by (with_reducible repeat (first | apply Kd.S_alloc | apply Kd.S_drewN | apply Kd.S_drew)); exact Kd.S_mono HO230.out (fun _ hk => trivial)⟩, ⟨by repeat (first | (with_reducible first | exact HB.out | apply below_alloc | apply pw_below_drewN | apply below_drew1) | exact HB.out)⟩⟩
                    · replace c29 := Bool.eq_false_iff.mpr c29
                      subst c29
                      have H1 : (serinettelaw10_SolveOrders.j1 kj5 t223 t228 true) = some r := by rw [if_neg (show ¬ (false = true) by decide)] at H; exact H
                      clear H
                      have H := H1
                      clear H1
                      have H' := Aside0.mk H
                      clear H
                      obtain ⟨Ao37, co37, eo37⟩ := Kd.S_slice HO227.out
                      subst eo37
                      obtain ⟨Ao38, co38, eo38⟩ := Kd.S_slice HO230.out
                      subst eo38
                      have q39 : ((t225.length : Int) : Int) ≤ ((t228.length : Int) : Int) := of_decide_eq_true (by first | (with_reducible assumption) | assumption)
                      obtain ⟨i039, hi039, _, hsz39, _⟩ := info_parts info22
                      have hroom39 : t228.length ≤ co38 := (Kd.S_reads' HO230.out).2.1
                      have hC39 : Kd.C (Kd.slice 3 (Kd.int .i64)) _ Ao38 t228.length t228 := (Kd.S_reads' HO230.out).2.2
                      have hcut39 := cut_to (P := Try.prog) 26 22 .i64 Try.underlying26 hi039 Ao38 t228.length co38 (t225.length : Int) (of_decide_eq_true (by first | (with_reducible assumption) | assumption)) q39 hroom39
                      have hr39 := Kd.C_take (m := ((t225.length : Int) : Int).toNat) hC39 (by omega)
                      have hy39 : y231.length = ((t225.length : Int) : Int).toNat := (by rw [Ny231.out, List.length_take]; omega)
                      rw [← Ny231.out] at hr39
                      rw [← hy39] at hcut39
                      have HR234 := Aside0.mk hr39
                      have HC234 := Aside0.mk (show y231.length ≤ co38 from by omega)
                      clear hr39 hC39 hroom39 hi039 hsz39
                      have KY39 := Aside0.mk hy39
                      clear hy39
                      have KL39 := Aside0.mk (show ((t225.length : Int) : Int).toNat ≤ t228.length from by omega)
                      replace q39 := eq_true q39
                      go_wp2_with (first | (go_at_call 11; (with_reducible refine (serinetteref10_Same.calls kj5 _ _ t225 _ _ y231 false _ ?side1 ?side2 ?side3 ?side4 A28.out).mono ?_); (case side1 => repeat (first | exact (Kd.S_reads' HO227.out).2.2 | (with_reducible refine Kd.C_alloc ?_ _) | (with_reducible refine Kd.C_drewN ?_ _) | (with_reducible refine Kd.C_drew ?_))); (case side2 => exact (Kd.S_reads' HO227.out).2.1); (case side3 => repeat (first | exact (by repeat (first | (with_reducible exact HR234.out) | (with_reducible refine Kd.C_alloc ?_ _) | (with_reducible refine Kd.C_drewN ?_ _) | (with_reducible refine Kd.C_drew ?_) | exact HR234.out)) | (with_reducible refine Kd.C_alloc ?_ _) | (with_reducible refine Kd.C_drewN ?_ _) | (with_reducible refine Kd.C_drew ?_))); (case side4 => exact HC234.out); rintro e w' ⟨rfl, ⟨nd, rfl⟩⟩))
                      go_meet
                      case rel => exact ⟨_, (true), (by first | rfl | (simp; done) | (simp only [i64_w, i32_w]; done) | (simp [*]; done) | (simp only [i64_w, i32_w]; first | rfl | (simp; done) | (simp [*]; done))), H', ⟨by have := HJ5.out; first | omega | exact Nat.le_refl _⟩, ⟨by (with_reducible repeat (first | apply Kd.S_alloc | apply Kd.S_drewN | apply Kd.S_drew)); exact Kd.S_mono HO230.out (fun _ hk => trivial)⟩, ⟨by repeat (first | (with_reducible first | exact HB.out | apply below_alloc | apply pw_below_drewN | apply below_drew1) | exact HB.out)⟩⟩
                  · rw [if_neg c27] at H
                    exact absurd H (by simp)
                · rw [if_neg c26] at H
                  exact absurd H (by simp)
        case rest =>
          clear HC14
          try clear c1
          try clear c2
          try clear p2
          try clear c3
          try clear q3
          try clear c4
          try clear p6
          try clear c8
          try clear c8b0
          try clear c8b1
          try clear c9
          try clear c10
          try clear c12
          try clear c17
          try clear c17b0
          try clear c19
          try clear c19b0
          try clear c19b1
          try clear c23
          try clear c23b0
          try clear c26
          try clear c26b0
          try clear c26b1
          try clear c27
          try clear c27b0
          try clear c27b1
          try clear c29
          try clear c30
          try clear c30b0
          try clear q33
          try clear q36
          try clear q39
          try clear p2
          try clear q33
          try clear q36
          try clear q39
          obtain ⟨kq, x83_13, rfl, HA, HJ13, HO_12, HB⟩ := hcut
          cases kq with
          | zero => exact absurd HA.out (by simp [serinettelaw10_SolveOrders.j1])
          | succ kj13 =>
            have H := HA.out
            clear HA
            simp only [serinettelaw10_SolveOrders.j1] at H
            by_cases c40 : x83_13 = true
            · subst c40
              have H1 : (some false) = some r := by rw [if_pos rfl] at H; exact H
              clear H
              have H := H1
              clear H1
              obtain rfl := Option.some.inj H
              go_wp2
              go_ret
              exact ⟨by first | rfl | (simp [errW_none, errW_some] <;> rfl) | (simp only [← hji10, ← hji11]; first | rfl | (simp [errW_none, errW_some] <;> rfl)) | (simp [*, errW_none, errW_some] <;> rfl), by repeat (first | (with_reducible first | exact HB.out | apply below_alloc | apply pw_below_drewN | apply below_drew1) | exact HB.out)⟩
            · replace c40 := Bool.eq_false_iff.mpr c40
              subst c40
              have H1 : (serinettelaw10_SolveOrders.l0 kj13 t223 t228 0) = some r := by rw [if_neg (show ¬ (false = true) by decide)] at H; exact H
              clear H
              have H := H1
              clear H1
              have H' := Aside0.mk H
              clear H
              go_wp2
              go_loopg [13] kj13 (fun kq v13 w' => ∃ (x13_3 : Int), v13 = .int .i64 x13_3 ∧ Aside0 (serinettelaw10_SolveOrders.l0 kq t223 t228 x13_3 = some r) ∧ Aside0 (kq ≤ kj13) ∧ Aside0 (Kd.S (Kd.slice 3 (Kd.int .i64)) 22 w' w.heap.size (fun _ => True) v229 t228) ∧ Aside0 (Below w.heap.size w w'))
              case atStart => exact ⟨(0), (by first | rfl | (simp; done) | (simp only [i64_w, i32_w]; done) | (simp [*]; done) | (simp only [i64_w, i32_w]; first | rfl | (simp; done) | (simp [*]; done))), H', ⟨Nat.le_refl _⟩, ⟨by (with_reducible repeat (first | apply Kd.S_alloc | apply Kd.S_drewN | apply Kd.S_drew)); exact HO_12.out⟩, ⟨by repeat (first | (with_reducible first | exact HB.out | apply below_alloc | apply pw_below_drewN | apply below_drew1) | exact HB.out)⟩⟩
              case round =>
                clear H'
                try clear c1
                try clear c2
                try clear p2
                try clear c3
                try clear q3
                try clear c4
                try clear p6
                try clear c8
                try clear c8b0
                try clear c8b1
                try clear c9
                try clear c10
                try clear c12
                try clear c17
                try clear c17b0
                try clear c19
                try clear c19b0
                try clear c19b1
                try clear c23
                try clear c23b0
                try clear c26
                try clear c26b0
                try clear c26b1
                try clear c27
                try clear c27b0
                try clear c27b1
                try clear c29
                try clear c30
                try clear c30b0
                try clear q33
                try clear q36
                try clear q39
                try clear c40
                try clear p2
                try clear p6
                try clear q3
                try clear q33
                try clear q36
                try clear q39
                obtain ⟨x13_3, rfl, HA, HK3, HO_12, HB⟩ := hrel
                cases gk with
                | zero => exact absurd HA.out (by simp [serinettelaw10_SolveOrders.l0])
                | succ k3 =>
                  have H := HA.out
                  clear HA
                  simp only [serinettelaw10_SolveOrders.l0] at H
                  by_cases c41 : x13_3 < (t228.length : Int)
                  · rw [if_pos c41] at H
                    have c41b0 : decide (x13_3 < (t228.length : Int)) = true := decide_eq_true c41
                    clear c41
                    have HC42 := Aside0.mk H
                    clear H
                    obtain ⟨Ao43, co43, eo43⟩ := Kd.S_slice HO_12.out
                    subst eo43
                    go_upto_region 14 with (fail)
                    go_cut [117] (fun v117 wc => ∃ (kq : Nat) (x117_41 : Bool), v117 = .bool x117_41 ∧ Aside0 (serinettelaw10_SolveOrders.j3 kq t223 t228 x13_3 x117_41 = some r) ∧ Aside0 (kq ≤ k3) ∧ Aside0 (Kd.S (Kd.slice 3 (Kd.int .i64)) 22 wc w.heap.size (fun _ => True) (.slice Ao43 t228.length co43) t228) ∧ Aside0 (Below w.heap.size w wc))
                    case first =>
                      have H := HC42.out
                      clear HC42
                      by_cases c44 : 0 ≤ x13_3
                      · rw [if_pos c44] at H
                        have c44b0 : decide (0 ≤ x13_3) = true := decide_eq_true c44
                        clear c44
                        (first | rw [c44b0] | (simp only [i64_w, i32_w]; rw [c44b0]) | skip)
                        by_cases c45 : ((rd_L1 t228 x13_3).length : Int) = (wrap64 (x13_3 + 1))
                        · rw [if_pos c45] at H
                          have c45b0 : (((rd_L1 t228 x13_3).length : Int) == (wrap64 (x13_3 + 1))) = true := beq_iff_eq.mpr c45
                          have c45b1 : (((rd_L1 t228 x13_3).length : Int) != (wrap64 (x13_3 + 1))) = false := bne_eq_false_iff_eq.mpr c45
                          clear c45
                          by_cases c46 : x13_3 < ((rd_L1 t228 x13_3).length : Int)
                          · rw [if_pos c46] at H
                            have c46b0 : decide (x13_3 < ((rd_L1 t228 x13_3).length : Int)) = true := decide_eq_true c46
                            clear c46
                            by_cases c47 : (rd (rd_L1 t228 x13_3) x13_3) ≥ 1048576
                            · rw [if_pos c47] at H
                              have c47b0 : decide (1048576 ≤ (rd (rd_L1 t228 x13_3) x13_3)) = true := decide_eq_true c47
                              clear c47
                              have H' := Aside0.mk H
                              clear H
                              have p236 : 0 ≤ (x13_3 : Int) := of_decide_eq_true (by first | (with_reducible assumption) | assumption)
                              have q236 : x13_3 < (t228.length : Int) := of_decide_eq_true (by first | (with_reducible assumption) | assumption)
                              obtain ⟨ad236, A236_0, c236_0, e236, hx236_0, hl236_0, hi236_0⟩ := at_L1 (Kd.S_reads' HO_12.out).2.2 x13_3 p236 q236
                              cases e236
                              obtain ⟨ce236, hce236, hMe236, hcc236⟩ := Kd.S_get HO_12.out [] x13_3 p236 (by first | exact q236 | exact of_decide_eq_true (by first | (with_reducible assumption) | assumption) | (have e_ := (Kd.S_reads' HO_12.out).1; omega))
                              obtain ⟨ve236_0, rfl, ge236_0⟩ := hMe236
                              have hv236_0 := hcc236 0 _ rfl
                              rw [Nat.add_zero, show ((Kd.slice 3 (Kd.int .i64))).sz = 1 from rfl, Nat.mul_one] at hv236_0
                              replace hv236_0 := Option.some.inj (hv236_0.symm.trans hx236_0)
                              rw [hv236_0] at ge236_0
                              have HL236_0 := Aside0.mk (show Kd.R (Kd.int .i64) 3 _ _ _ _ (rd_L1 t228 x13_3) from ge236_0)
                              clear hv236_0 ge236_0
                              clear hcc236 hce236
                              have HR236_0 := Aside0.mk hi236_0
                              have HC236_0 := Aside0.mk hl236_0
                              clear hi236_0 hl236_0
                              replace p236 := eq_true p236
                              replace q236 := eq_true q236
                              have p237 : 0 ≤ (x13_3 : Int) := of_decide_eq_true (by first | (with_reducible assumption) | assumption)
                              have q237 : x13_3 < (t228.length : Int) := of_decide_eq_true (by first | (with_reducible assumption) | assumption)
                              obtain ⟨ad237, A237_0, c237_0, e237, hx237_0, hl237_0, hi237_0⟩ := at_L1 (Kd.S_reads' HO_12.out).2.2 x13_3 p237 q237
                              obtain rfl : ad236 = ad237 := (by injection e237)
                              obtain ⟨ce237, hce237, hMe237, hcc237⟩ := Kd.S_get HO_12.out [] x13_3 p237 (by first | exact q237 | exact of_decide_eq_true (by first | (with_reducible assumption) | assumption) | (have e_ := (Kd.S_reads' HO_12.out).1; omega))
                              obtain ⟨ve237_0, rfl, ge237_0⟩ := hMe237
                              have hv237_0 := hcc237 0 _ rfl
                              rw [Nat.add_zero, show ((Kd.slice 3 (Kd.int .i64))).sz = 1 from rfl, Nat.mul_one] at hv237_0
                              replace hv237_0 := Option.some.inj (hv237_0.symm.trans hx237_0)
                              rw [hv237_0] at ge237_0
                              have HL237_0 := Aside0.mk (show Kd.R (Kd.int .i64) 3 _ _ _ _ (rd_L1 t228 x13_3) from ge237_0)
                              clear hv237_0 ge237_0
                              clear hcc237 hce237
                              have HR237_0 := Aside0.mk hi237_0
                              have HC237_0 := Aside0.mk hl237_0
                              clear hi237_0 hl237_0
                              replace p237 := eq_true p237
                              replace q237 := eq_true q237
                              have ea_ := Option.some.inj (hx236_0.symm.trans hx237_0)
                              injection ea_ with ea_ en_ ec_
                              subst ea_
                              subst ec_
                              clear en_
                              have p238 : 0 ≤ (x13_3 : Int) := of_decide_eq_true (by first | (with_reducible assumption) | assumption)
                              have q238 : x13_3 < ((rd_L1 t228 x13_3).length : Int) := of_decide_eq_true (by first | (with_reducible assumption) | assumption)
                              obtain ⟨ad238, e238, hx238_0⟩ := Kd.at_int (by repeat (first | (with_reducible exact HR237_0.out) | (with_reducible refine Kd.C_alloc ?_ _) | (with_reducible refine Kd.C_drewN ?_ _) | (with_reducible refine Kd.C_drew ?_) | exact HR237_0.out)) x13_3 p238 q238
                              cases e238
                              replace p238 := eq_true p238
                              replace q238 := eq_true q238
                              go_wp2
                              go_meet
                              case rel => exact ⟨_, (true), (by first | rfl | (simp; done) | (simp only [i64_w, i32_w]; done) | (simp [*]; done) | (simp only [i64_w, i32_w]; first | rfl | (simp; done) | (simp [*]; done))), H', ⟨by have := HJ5.out; have := HJ13.out; have := HK3.out; first | omega | exact Nat.le_refl _⟩, ⟨by (with_reducible repeat (first | apply Kd.S_alloc | apply Kd.S_drewN | apply Kd.S_drew)); exact HO_12.out⟩, ⟨by repeat (first | (with_reducible first | exact HB.out | apply below_alloc | apply pw_below_drewN | apply below_drew1) | exact HB.out)⟩⟩
                            · rw [if_neg c47] at H
                              have c47b0 : decide (1048576 ≤ (rd (rd_L1 t228 x13_3) x13_3)) = false := decide_eq_false c47
                              clear c47
                              have H' := Aside0.mk H
                              clear H
                              have p236 : 0 ≤ (x13_3 : Int) := of_decide_eq_true (by first | (with_reducible assumption) | assumption)
                              have q236 : x13_3 < (t228.length : Int) := of_decide_eq_true (by first | (with_reducible assumption) | assumption)
                              obtain ⟨ad236, A236_0, c236_0, e236, hx236_0, hl236_0, hi236_0⟩ := at_L1 (Kd.S_reads' HO_12.out).2.2 x13_3 p236 q236
                              cases e236
                              obtain ⟨ce236, hce236, hMe236, hcc236⟩ := Kd.S_get HO_12.out [] x13_3 p236 (by first | exact q236 | exact of_decide_eq_true (by first | (with_reducible assumption) | assumption) | (have e_ := (Kd.S_reads' HO_12.out).1; omega))
                              obtain ⟨ve236_0, rfl, ge236_0⟩ := hMe236
                              have hv236_0 := hcc236 0 _ rfl
                              rw [Nat.add_zero, show ((Kd.slice 3 (Kd.int .i64))).sz = 1 from rfl, Nat.mul_one] at hv236_0
                              replace hv236_0 := Option.some.inj (hv236_0.symm.trans hx236_0)
                              rw [hv236_0] at ge236_0
                              have HL236_0 := Aside0.mk (show Kd.R (Kd.int .i64) 3 _ _ _ _ (rd_L1 t228 x13_3) from ge236_0)
                              clear hv236_0 ge236_0
                              clear hcc236 hce236
                              have HR236_0 := Aside0.mk hi236_0
                              have HC236_0 := Aside0.mk hl236_0
                              clear hi236_0 hl236_0
                              replace p236 := eq_true p236
                              replace q236 := eq_true q236
                              have p237 : 0 ≤ (x13_3 : Int) := of_decide_eq_true (by first | (with_reducible assumption) | assumption)
                              have q237 : x13_3 < (t228.length : Int) := of_decide_eq_true (by first | (with_reducible assumption) | assumption)
                              obtain ⟨ad237, A237_0, c237_0, e237, hx237_0, hl237_0, hi237_0⟩ := at_L1 (Kd.S_reads' HO_12.out).2.2 x13_3 p237 q237
                              obtain rfl : ad236 = ad237 := (by injection e237)
                              obtain ⟨ce237, hce237, hMe237, hcc237⟩ := Kd.S_get HO_12.out [] x13_3 p237 (by first | exact q237 | exact of_decide_eq_true (by first | (with_reducible assumption) | assumption) | (have e_ := (Kd.S_reads' HO_12.out).1; omega))
                              obtain ⟨ve237_0, rfl, ge237_0⟩ := hMe237
                              have hv237_0 := hcc237 0 _ rfl
                              rw [Nat.add_zero, show ((Kd.slice 3 (Kd.int .i64))).sz = 1 from rfl, Nat.mul_one] at hv237_0
                              replace hv237_0 := Option.some.inj (hv237_0.symm.trans hx237_0)
                              rw [hv237_0] at ge237_0
                              have HL237_0 := Aside0.mk (show Kd.R (Kd.int .i64) 3 _ _ _ _ (rd_L1 t228 x13_3) from ge237_0)
                              clear hv237_0 ge237_0
                              clear hcc237 hce237
                              have HR237_0 := Aside0.mk hi237_0
                              have HC237_0 := Aside0.mk hl237_0
                              clear hi237_0 hl237_0
                              replace p237 := eq_true p237
                              replace q237 := eq_true q237
                              have ea_ := Option.some.inj (hx236_0.symm.trans hx237_0)
                              injection ea_ with ea_ en_ ec_
                              subst ea_
                              subst ec_
                              clear en_
                              have p238 : 0 ≤ (x13_3 : Int) := of_decide_eq_true (by first | (with_reducible assumption) | assumption)
                              have q238 : x13_3 < ((rd_L1 t228 x13_3).length : Int) := of_decide_eq_true (by first | (with_reducible assumption) | assumption)
                              obtain ⟨ad238, e238, hx238_0⟩ := Kd.at_int (by repeat (first | (with_reducible exact HR237_0.out) | (with_reducible refine Kd.C_alloc ?_ _) | (with_reducible refine Kd.C_drewN ?_ _) | (with_reducible refine Kd.C_drew ?_) | exact HR237_0.out)) x13_3 p238 q238
                              cases e238
                              replace p238 := eq_true p238
                              replace q238 := eq_true q238
                              have p239 : 0 ≤ (x13_3 : Int) := of_decide_eq_true (by first | (with_reducible assumption) | assumption)
                              have q239 : x13_3 < (t228.length : Int) := of_decide_eq_true (by first | (with_reducible assumption) | assumption)
                              obtain ⟨ad239, A239_0, c239_0, e239, hx239_0, hl239_0, hi239_0⟩ := at_L1 (Kd.S_reads' HO_12.out).2.2 x13_3 p239 q239
                              obtain rfl : ad236 = ad239 := (by injection e239)
                              obtain ⟨ce239, hce239, hMe239, hcc239⟩ := Kd.S_get HO_12.out [] x13_3 p239 (by first | exact q239 | exact of_decide_eq_true (by first | (with_reducible assumption) | assumption) | (have e_ := (Kd.S_reads' HO_12.out).1; omega))
                              obtain ⟨ve239_0, rfl, ge239_0⟩ := hMe239
                              have hv239_0 := hcc239 0 _ rfl
                              rw [Nat.add_zero, show ((Kd.slice 3 (Kd.int .i64))).sz = 1 from rfl, Nat.mul_one] at hv239_0
                              replace hv239_0 := Option.some.inj (hv239_0.symm.trans hx239_0)
                              rw [hv239_0] at ge239_0
                              have HL239_0 := Aside0.mk (show Kd.R (Kd.int .i64) 3 _ _ _ _ (rd_L1 t228 x13_3) from ge239_0)
                              clear hv239_0 ge239_0
                              clear hcc239 hce239
                              have HR239_0 := Aside0.mk hi239_0
                              have HC239_0 := Aside0.mk hl239_0
                              clear hi239_0 hl239_0
                              replace p239 := eq_true p239
                              replace q239 := eq_true q239
                              have ea_ := Option.some.inj (hx236_0.symm.trans hx239_0)
                              injection ea_ with ea_ en_ ec_
                              subst ea_
                              subst ec_
                              clear en_
                              have p240 : 0 ≤ (x13_3 : Int) := of_decide_eq_true (by first | (with_reducible assumption) | assumption)
                              have q240 : x13_3 < ((rd_L1 t228 x13_3).length : Int) := of_decide_eq_true (by first | (with_reducible assumption) | assumption)
                              obtain ⟨ad240, e240, hx240_0⟩ := Kd.at_int (by repeat (first | (with_reducible exact HR239_0.out) | (with_reducible refine Kd.C_alloc ?_ _) | (with_reducible refine Kd.C_drewN ?_ _) | (with_reducible refine Kd.C_drew ?_) | exact HR239_0.out)) x13_3 p240 q240
                              cases e240
                              replace p240 := eq_true p240
                              replace q240 := eq_true q240
                              go_wp2
                              go_meet
                              case rel => exact ⟨_, (decide ((rd (rd_L1 t228 x13_3) x13_3) ≤ (-1048576))), (by first | rfl | (simp; done) | (simp only [i64_w, i32_w]; done) | (simp [*]; done) | (simp only [i64_w, i32_w]; first | rfl | (simp; done) | (simp [*]; done))), H', ⟨by have := HJ5.out; have := HJ13.out; have := HK3.out; first | omega | exact Nat.le_refl _⟩, ⟨by (with_reducible repeat (first | apply Kd.S_alloc | apply Kd.S_drewN | apply Kd.S_drew)); exact HO_12.out⟩, ⟨by repeat (first | (with_reducible first | exact HB.out | apply below_alloc | apply pw_below_drewN | apply below_drew1) | exact HB.out)⟩⟩
                          · rw [if_neg c46] at H
                            exact absurd H (by simp)
                        · rw [if_neg c45] at H
                          have c45b0 : (((rd_L1 t228 x13_3).length : Int) == (wrap64 (x13_3 + 1))) = false := beq_eq_false_iff_ne.mpr c45
                          have c45b1 : (((rd_L1 t228 x13_3).length : Int) != (wrap64 (x13_3 + 1))) = true := bne_iff_ne.mpr c45
                          have H' := Aside0.mk H
                          clear H
                          have p236 : 0 ≤ (x13_3 : Int) := of_decide_eq_true (by first | (with_reducible assumption) | assumption)
                          have q236 : x13_3 < (t228.length : Int) := of_decide_eq_true (by first | (with_reducible assumption) | assumption)
                          obtain ⟨ad236, A236_0, c236_0, e236, hx236_0, hl236_0, hi236_0⟩ := at_L1 (Kd.S_reads' HO_12.out).2.2 x13_3 p236 q236
                          cases e236
                          obtain ⟨ce236, hce236, hMe236, hcc236⟩ := Kd.S_get HO_12.out [] x13_3 p236 (by first | exact q236 | exact of_decide_eq_true (by first | (with_reducible assumption) | assumption) | (have e_ := (Kd.S_reads' HO_12.out).1; omega))
                          obtain ⟨ve236_0, rfl, ge236_0⟩ := hMe236
                          have hv236_0 := hcc236 0 _ rfl
                          rw [Nat.add_zero, show ((Kd.slice 3 (Kd.int .i64))).sz = 1 from rfl, Nat.mul_one] at hv236_0
                          replace hv236_0 := Option.some.inj (hv236_0.symm.trans hx236_0)
                          rw [hv236_0] at ge236_0
                          have HL236_0 := Aside0.mk (show Kd.R (Kd.int .i64) 3 _ _ _ _ (rd_L1 t228 x13_3) from ge236_0)
                          clear hv236_0 ge236_0
                          clear hcc236 hce236
                          have HR236_0 := Aside0.mk hi236_0
                          have HC236_0 := Aside0.mk hl236_0
                          clear hi236_0 hl236_0
                          replace p236 := eq_true p236
                          replace q236 := eq_true q236
                          go_wp2
                          go_meet
                          case rel => exact ⟨_, (true), (by first | rfl | (simp; done) | (simp only [i64_w, i32_w]; done) | (simp [*]; done) | (simp only [i64_w, i32_w]; first | rfl | (simp; done) | (simp [*]; done))), H', ⟨by have := HJ5.out; have := HJ13.out; have := HK3.out; first | omega | exact Nat.le_refl _⟩, ⟨by (with_reducible repeat (first | apply Kd.S_alloc | apply Kd.S_drewN | apply Kd.S_drew)); exact HO_12.out⟩, ⟨by repeat (first | (with_reducible first | exact HB.out | apply below_alloc | apply pw_below_drewN | apply below_drew1) | exact HB.out)⟩⟩
                      · rw [if_neg c44] at H
                        exact absurd H (by simp)
                    case rest =>
                      clear HC42
                      try clear c1
                      try clear c2
                      try clear p2
                      try clear q2
                      try clear hx2
                      try clear c3
                      try clear q3
                      try clear c4
                      try clear p6
                      try clear c8
                      try clear c8b0
                      try clear c8b1
                      try clear c9
                      try clear c10
                      try clear c12
                      try clear c17
                      try clear c17b0
                      try clear c19
                      try clear c19b0
                      try clear c19b1
                      try clear c23
                      try clear c23b0
                      try clear p23
                      try clear q23
                      try clear hx23
                      try clear p24
                      try clear q24
                      try clear hx24
                      try clear c26
                      try clear c26b0
                      try clear c26b1
                      try clear c27
                      try clear c27b0
                      try clear c27b1
                      try clear c29
                      try clear c30
                      try clear c30b0
                      try clear q33
                      try clear q36
                      try clear q39
                      try clear c40
                      try clear c41
                      try clear c41b0
                      try clear c44
                      try clear c44b0
                      try clear c45
                      try clear c45b0
                      try clear c45b1
                      try clear c46
                      try clear c46b0
                      try clear c47
                      try clear c47b0
                      try clear hx236_0
                      try clear hx237_0
                      try clear hx238_0
                      try clear hx239_0
                      try clear hx240_0
                      try clear p2
                      try clear p236
                      try clear p237
                      try clear p238
                      try clear p239
                      try clear p240
                      try clear p6
                      try clear q236
                      try clear q237
                      try clear q238
                      try clear q239
                      try clear q240
                      try clear q3
                      try clear q33
                      try clear q36
                      try clear q39
                      obtain ⟨kq, x117_41, rfl, HA, HJ41, HO_12, HB⟩ := hcut
                      cases kq with
                      | zero => exact absurd HA.out (by simp [serinettelaw10_SolveOrders.j3])
                      | succ kj41 =>
                        have H := HA.out
                        clear HA
                        simp only [serinettelaw10_SolveOrders.j3] at H
                        by_cases c48 : x117_41 = true
                        · subst c48
                          have H1 : (some false) = some r := by rw [if_pos rfl] at H; exact H
                          clear H
                          have H := H1
                          clear H1
                          obtain rfl := Option.some.inj H
                          go_wp2
                          go_ret
                          exact ⟨by first | rfl | (simp [errW_none, errW_some] <;> rfl) | (simp only [← hji10, ← hji11]; first | rfl | (simp [errW_none, errW_some] <;> rfl)) | (simp [*, errW_none, errW_some] <;> rfl), by repeat (first | (with_reducible first | exact HB.out | apply below_alloc | apply pw_below_drewN | apply below_drew1) | exact HB.out)⟩
                        · replace c48 := Bool.eq_false_iff.mpr c48
                          subst c48
                          have H1 : (serinettelaw10_SolveOrders.l1 kj41 t223 t228 x13_3 0) = some r := by rw [if_neg (show ¬ (false = true) by decide)] at H; exact H
                          clear H
                          have H := H1
                          clear H1
                          have H' := Aside0.mk H
                          clear H
                          go_wp2
                          go_loopg [14] kj41 (fun kq v14 w' => ∃ (x14_5 : Int), v14 = .int .i64 x14_5 ∧ Aside0 (serinettelaw10_SolveOrders.l1 kq t223 t228 x13_3 x14_5 = some r) ∧ Aside0 (kq ≤ kj41) ∧ Aside0 (Kd.S (Kd.slice 3 (Kd.int .i64)) 22 w' w.heap.size (fun _ => True) (.slice Ao43 t228.length co43) t228) ∧ Aside0 (Below w.heap.size w w'))
                          case atStart => exact ⟨(0), (by first | rfl | (simp; done) | (simp only [i64_w, i32_w]; done) | (simp [*]; done) | (simp only [i64_w, i32_w]; first | rfl | (simp; done) | (simp [*]; done))), H', ⟨Nat.le_refl _⟩, ⟨by (with_reducible repeat (first | apply Kd.S_alloc | apply Kd.S_drewN | apply Kd.S_drew)); exact HO_12.out⟩, ⟨by repeat (first | (with_reducible first | exact HB.out | apply below_alloc | apply pw_below_drewN | apply below_drew1) | exact HB.out)⟩⟩
                          case round =>
                            clear H'
                            try clear c1
                            try clear c2
                            try clear p2
                            try clear q2
                            try clear hx2
                            try clear c3
                            try clear q3
                            try clear c4
                            try clear p6
                            try clear c8
                            try clear c8b0
                            try clear c8b1
                            try clear c9
                            try clear c10
                            try clear c12
                            try clear c17
                            try clear c17b0
                            try clear c19
                            try clear c19b0
                            try clear c19b1
                            try clear c23
                            try clear c23b0
                            try clear p23
                            try clear q23
                            try clear hx23
                            try clear p24
                            try clear q24
                            try clear hx24
                            try clear c26
                            try clear c26b0
                            try clear c26b1
                            try clear c27
                            try clear c27b0
                            try clear c27b1
                            try clear c29
                            try clear c30
                            try clear c30b0
                            try clear q33
                            try clear q36
                            try clear q39
                            try clear c40
                            try clear c41
                            try clear c41b0
                            try clear c44
                            try clear c44b0
                            try clear c45
                            try clear c45b0
                            try clear c45b1
                            try clear c46
                            try clear c46b0
                            try clear c47
                            try clear c47b0
                            try clear c48
                            try clear hx236_0
                            try clear hx237_0
                            try clear hx238_0
                            try clear hx239_0
                            try clear hx240_0
                            try clear p2
                            try clear p23
                            try clear p236
                            try clear p237
                            try clear p238
                            try clear p239
                            try clear p24
                            try clear p240
                            try clear p6
                            try clear q2
                            try clear q23
                            try clear q236
                            try clear q237
                            try clear q238
                            try clear q239
                            try clear q24
                            try clear q240
                            try clear q3
                            try clear q33
                            try clear q36
                            try clear q39
                            obtain ⟨x14_5, rfl, HA, HK5, HO_12, HB⟩ := hrel
                            cases gk with
                            | zero => exact absurd HA.out (by simp [serinettelaw10_SolveOrders.l1])
                            | succ k5 =>
                              have H := HA.out
                              clear HA
                              simp only [serinettelaw10_SolveOrders.l1] at H
                              by_cases c49 : x14_5 ≤ x13_3
                              · rw [if_pos c49] at H
                                have c49b0 : decide (x14_5 ≤ x13_3) = true := decide_eq_true c49
                                clear c49
                                by_cases c50 : 0 ≤ x13_3
                                · rw [if_pos c50] at H
                                  have c50b0 : decide (0 ≤ x13_3) = true := decide_eq_true c50
                                  clear c50
                                  by_cases c51 : x13_3 < (t228.length : Int)
                                  · rw [if_pos c51] at H
                                    have c51b0 : decide (x13_3 < (t228.length : Int)) = true := decide_eq_true c51
                                    clear c51
                                    by_cases c52 : 0 ≤ x14_5
                                    · rw [if_pos c52] at H
                                      have c52b0 : decide (0 ≤ x14_5) = true := decide_eq_true c52
                                      clear c52
                                      by_cases c53 : x14_5 < ((rd_L1 t228 x13_3).length : Int)
                                      · rw [if_pos c53] at H
                                        have c53b0 : decide (x14_5 < ((rd_L1 t228 x13_3).length : Int)) = true := decide_eq_true c53
                                        clear c53
                                        by_cases c54 : (rd (rd_L1 t228 x13_3) x14_5) > 67108864
                                        · rw [if_pos c54] at H
                                          have c54b0 : decide (67108864 < (rd (rd_L1 t228 x13_3) x14_5)) = true := decide_eq_true c54
                                          clear c54
                                          obtain rfl := Option.some.inj H
                                          have p241 : 0 ≤ (x13_3 : Int) := of_decide_eq_true (by first | (with_reducible assumption) | assumption)
                                          have q241 : x13_3 < (t228.length : Int) := of_decide_eq_true (by first | (with_reducible assumption) | assumption)
                                          obtain ⟨ad241, A241_0, c241_0, e241, hx241_0, hl241_0, hi241_0⟩ := at_L1 (Kd.S_reads' HO_12.out).2.2 x13_3 p241 q241
                                          cases e241
                                          obtain ⟨ce241, hce241, hMe241, hcc241⟩ := Kd.S_get HO_12.out [] x13_3 p241 (by first | exact q241 | exact of_decide_eq_true (by first | (with_reducible assumption) | assumption) | (have e_ := (Kd.S_reads' HO_12.out).1; omega))
                                          obtain ⟨ve241_0, rfl, ge241_0⟩ := hMe241
                                          have hv241_0 := hcc241 0 _ rfl
                                          rw [Nat.add_zero, show ((Kd.slice 3 (Kd.int .i64))).sz = 1 from rfl, Nat.mul_one] at hv241_0
                                          replace hv241_0 := Option.some.inj (hv241_0.symm.trans hx241_0)
                                          rw [hv241_0] at ge241_0
                                          have HL241_0 := Aside0.mk (show Kd.R (Kd.int .i64) 3 _ _ _ _ (rd_L1 t228 x13_3) from ge241_0)
                                          clear hv241_0 ge241_0
                                          clear hcc241 hce241
                                          have HR241_0 := Aside0.mk hi241_0
                                          have HC241_0 := Aside0.mk hl241_0
                                          clear hi241_0 hl241_0
                                          replace p241 := eq_true p241
                                          replace q241 := eq_true q241
                                          have p242 : 0 ≤ (x14_5 : Int) := of_decide_eq_true (by first | (with_reducible assumption) | assumption)
                                          have q242 : x14_5 < ((rd_L1 t228 x13_3).length : Int) := of_decide_eq_true (by first | (with_reducible assumption) | assumption)
                                          obtain ⟨ad242, e242, hx242_0⟩ := Kd.at_int (by repeat (first | (with_reducible exact HR241_0.out) | (with_reducible refine Kd.C_alloc ?_ _) | (with_reducible refine Kd.C_drewN ?_ _) | (with_reducible refine Kd.C_drew ?_) | exact HR241_0.out)) x14_5 p242 q242
                                          cases e242
                                          replace p242 := eq_true p242
                                          replace q242 := eq_true q242
                                          go_wp2
                                          go_ret
                                          exact ⟨by first | rfl | (simp [errW_none, errW_some] <;> rfl) | (simp only [← hji10, ← hji11]; first | rfl | (simp [errW_none, errW_some] <;> rfl)) | (simp [*, errW_none, errW_some] <;> rfl), by repeat (first | (with_reducible first | exact HB.out | apply below_alloc | apply pw_below_drewN | apply below_drew1) | exact HB.out)⟩
                                        · rw [if_neg c54] at H
                                          have c54b0 : decide (67108864 < (rd (rd_L1 t228 x13_3) x14_5)) = false := decide_eq_false c54
                                          clear c54
                                          by_cases c55 : (rd (rd_L1 t228 x13_3) x14_5) < (-67108864)
                                          · rw [if_pos c55] at H
                                            have c55b0 : decide ((rd (rd_L1 t228 x13_3) x14_5) < (-67108864)) = true := decide_eq_true c55
                                            clear c55
                                            obtain rfl := Option.some.inj H
                                            have p241 : 0 ≤ (x13_3 : Int) := of_decide_eq_true (by first | (with_reducible assumption) | assumption)
                                            have q241 : x13_3 < (t228.length : Int) := of_decide_eq_true (by first | (with_reducible assumption) | assumption)
                                            obtain ⟨ad241, A241_0, c241_0, e241, hx241_0, hl241_0, hi241_0⟩ := at_L1 (Kd.S_reads' HO_12.out).2.2 x13_3 p241 q241
                                            cases e241
                                            obtain ⟨ce241, hce241, hMe241, hcc241⟩ := Kd.S_get HO_12.out [] x13_3 p241 (by first | exact q241 | exact of_decide_eq_true (by first | (with_reducible assumption) | assumption) | (have e_ := (Kd.S_reads' HO_12.out).1; omega))
                                            obtain ⟨ve241_0, rfl, ge241_0⟩ := hMe241
                                            have hv241_0 := hcc241 0 _ rfl
                                            rw [Nat.add_zero, show ((Kd.slice 3 (Kd.int .i64))).sz = 1 from rfl, Nat.mul_one] at hv241_0
                                            replace hv241_0 := Option.some.inj (hv241_0.symm.trans hx241_0)
                                            rw [hv241_0] at ge241_0
                                            have HL241_0 := Aside0.mk (show Kd.R (Kd.int .i64) 3 _ _ _ _ (rd_L1 t228 x13_3) from ge241_0)
                                            clear hv241_0 ge241_0
                                            clear hcc241 hce241
                                            have HR241_0 := Aside0.mk hi241_0
                                            have HC241_0 := Aside0.mk hl241_0
                                            clear hi241_0 hl241_0
                                            replace p241 := eq_true p241
                                            replace q241 := eq_true q241
                                            have p242 : 0 ≤ (x14_5 : Int) := of_decide_eq_true (by first | (with_reducible assumption) | assumption)
                                            have q242 : x14_5 < ((rd_L1 t228 x13_3).length : Int) := of_decide_eq_true (by first | (with_reducible assumption) | assumption)
                                            obtain ⟨ad242, e242, hx242_0⟩ := Kd.at_int (by repeat (first | (with_reducible exact HR241_0.out) | (with_reducible refine Kd.C_alloc ?_ _) | (with_reducible refine Kd.C_drewN ?_ _) | (with_reducible refine Kd.C_drew ?_) | exact HR241_0.out)) x14_5 p242 q242
                                            cases e242
                                            replace p242 := eq_true p242
                                            replace q242 := eq_true q242
                                            have p243 : 0 ≤ (x13_3 : Int) := of_decide_eq_true (by first | (with_reducible assumption) | assumption)
                                            have q243 : x13_3 < (t228.length : Int) := of_decide_eq_true (by first | (with_reducible assumption) | assumption)
                                            obtain ⟨ad243, A243_0, c243_0, e243, hx243_0, hl243_0, hi243_0⟩ := at_L1 (Kd.S_reads' HO_12.out).2.2 x13_3 p243 q243
                                            obtain rfl : ad241 = ad243 := (by injection e243)
                                            obtain ⟨ce243, hce243, hMe243, hcc243⟩ := Kd.S_get HO_12.out [] x13_3 p243 (by first | exact q243 | exact of_decide_eq_true (by first | (with_reducible assumption) | assumption) | (have e_ := (Kd.S_reads' HO_12.out).1; omega))
                                            obtain ⟨ve243_0, rfl, ge243_0⟩ := hMe243
                                            have hv243_0 := hcc243 0 _ rfl
                                            rw [Nat.add_zero, show ((Kd.slice 3 (Kd.int .i64))).sz = 1 from rfl, Nat.mul_one] at hv243_0
                                            replace hv243_0 := Option.some.inj (hv243_0.symm.trans hx243_0)
                                            rw [hv243_0] at ge243_0
                                            have HL243_0 := Aside0.mk (show Kd.R (Kd.int .i64) 3 _ _ _ _ (rd_L1 t228 x13_3) from ge243_0)
                                            clear hv243_0 ge243_0
                                            clear hcc243 hce243
                                            have HR243_0 := Aside0.mk hi243_0
                                            have HC243_0 := Aside0.mk hl243_0
                                            clear hi243_0 hl243_0
                                            replace p243 := eq_true p243
                                            replace q243 := eq_true q243
                                            have ea_ := Option.some.inj (hx241_0.symm.trans hx243_0)
                                            injection ea_ with ea_ en_ ec_
                                            subst ea_
                                            subst ec_
                                            clear en_
                                            have p244 : 0 ≤ (x14_5 : Int) := of_decide_eq_true (by first | (with_reducible assumption) | assumption)
                                            have q244 : x14_5 < ((rd_L1 t228 x13_3).length : Int) := of_decide_eq_true (by first | (with_reducible assumption) | assumption)
                                            obtain ⟨ad244, e244, hx244_0⟩ := Kd.at_int (by repeat (first | (with_reducible exact HR243_0.out) | (with_reducible refine Kd.C_alloc ?_ _) | (with_reducible refine Kd.C_drewN ?_ _) | (with_reducible refine Kd.C_drew ?_) | exact HR243_0.out)) x14_5 p244 q244
                                            cases e244
                                            replace p244 := eq_true p244
                                            replace q244 := eq_true q244
                                            go_wp2
                                            go_ret
                                            exact ⟨by first | rfl | (simp [errW_none, errW_some] <;> rfl) | (simp only [← hji10, ← hji11]; first | rfl | (simp [errW_none, errW_some] <;> rfl)) | (simp [*, errW_none, errW_some] <;> rfl), by repeat (first | (with_reducible first | exact HB.out | apply below_alloc | apply pw_below_drewN | apply below_drew1) | exact HB.out)⟩
                                          · rw [if_neg c55] at H
                                            have c55b0 : decide ((rd (rd_L1 t228 x13_3) x14_5) < (-67108864)) = false := decide_eq_false c55
                                            clear c55
                                            have H' := Aside0.mk H
                                            clear H
                                            have p241 : 0 ≤ (x13_3 : Int) := of_decide_eq_true (by first | (with_reducible assumption) | assumption)
                                            have q241 : x13_3 < (t228.length : Int) := of_decide_eq_true (by first | (with_reducible assumption) | assumption)
                                            obtain ⟨ad241, A241_0, c241_0, e241, hx241_0, hl241_0, hi241_0⟩ := at_L1 (Kd.S_reads' HO_12.out).2.2 x13_3 p241 q241
                                            cases e241
                                            obtain ⟨ce241, hce241, hMe241, hcc241⟩ := Kd.S_get HO_12.out [] x13_3 p241 (by first | exact q241 | exact of_decide_eq_true (by first | (with_reducible assumption) | assumption) | (have e_ := (Kd.S_reads' HO_12.out).1; omega))
                                            obtain ⟨ve241_0, rfl, ge241_0⟩ := hMe241
                                            have hv241_0 := hcc241 0 _ rfl
                                            rw [Nat.add_zero, show ((Kd.slice 3 (Kd.int .i64))).sz = 1 from rfl, Nat.mul_one] at hv241_0
                                            replace hv241_0 := Option.some.inj (hv241_0.symm.trans hx241_0)
                                            rw [hv241_0] at ge241_0
                                            have HL241_0 := Aside0.mk (show Kd.R (Kd.int .i64) 3 _ _ _ _ (rd_L1 t228 x13_3) from ge241_0)
                                            clear hv241_0 ge241_0
                                            clear hcc241 hce241
                                            have HR241_0 := Aside0.mk hi241_0
                                            have HC241_0 := Aside0.mk hl241_0
                                            clear hi241_0 hl241_0
                                            replace p241 := eq_true p241
                                            replace q241 := eq_true q241
                                            have p242 : 0 ≤ (x14_5 : Int) := of_decide_eq_true (by first | (with_reducible assumption) | assumption)
                                            have q242 : x14_5 < ((rd_L1 t228 x13_3).length : Int) := of_decide_eq_true (by first | (with_reducible assumption) | assumption)
                                            obtain ⟨ad242, e242, hx242_0⟩ := Kd.at_int (by repeat (first | (with_reducible exact HR241_0.out) | (with_reducible refine Kd.C_alloc ?_ _) | (with_reducible refine Kd.C_drewN ?_ _) | (with_reducible refine Kd.C_drew ?_) | exact HR241_0.out)) x14_5 p242 q242
                                            cases e242
                                            replace p242 := eq_true p242
                                            replace q242 := eq_true q242
                                            have p243 : 0 ≤ (x13_3 : Int) := of_decide_eq_true (by first | (with_reducible assumption) | assumption)
                                            have q243 : x13_3 < (t228.length : Int) := of_decide_eq_true (by first | (with_reducible assumption) | assumption)
                                            obtain ⟨ad243, A243_0, c243_0, e243, hx243_0, hl243_0, hi243_0⟩ := at_L1 (Kd.S_reads' HO_12.out).2.2 x13_3 p243 q243
                                            obtain rfl : ad241 = ad243 := (by injection e243)
                                            obtain ⟨ce243, hce243, hMe243, hcc243⟩ := Kd.S_get HO_12.out [] x13_3 p243 (by first | exact q243 | exact of_decide_eq_true (by first | (with_reducible assumption) | assumption) | (have e_ := (Kd.S_reads' HO_12.out).1; omega))
                                            obtain ⟨ve243_0, rfl, ge243_0⟩ := hMe243
                                            have hv243_0 := hcc243 0 _ rfl
                                            rw [Nat.add_zero, show ((Kd.slice 3 (Kd.int .i64))).sz = 1 from rfl, Nat.mul_one] at hv243_0
                                            replace hv243_0 := Option.some.inj (hv243_0.symm.trans hx243_0)
                                            rw [hv243_0] at ge243_0
                                            have HL243_0 := Aside0.mk (show Kd.R (Kd.int .i64) 3 _ _ _ _ (rd_L1 t228 x13_3) from ge243_0)
                                            clear hv243_0 ge243_0
                                            clear hcc243 hce243
                                            have HR243_0 := Aside0.mk hi243_0
                                            have HC243_0 := Aside0.mk hl243_0
                                            clear hi243_0 hl243_0
                                            replace p243 := eq_true p243
                                            replace q243 := eq_true q243
                                            have ea_ := Option.some.inj (hx241_0.symm.trans hx243_0)
                                            injection ea_ with ea_ en_ ec_
                                            subst ea_
                                            subst ec_
                                            clear en_
                                            have p244 : 0 ≤ (x14_5 : Int) := of_decide_eq_true (by first | (with_reducible assumption) | assumption)
                                            have q244 : x14_5 < ((rd_L1 t228 x13_3).length : Int) := of_decide_eq_true (by first | (with_reducible assumption) | assumption)
                                            obtain ⟨ad244, e244, hx244_0⟩ := Kd.at_int (by repeat (first | (with_reducible exact HR243_0.out) | (with_reducible refine Kd.C_alloc ?_ _) | (with_reducible refine Kd.C_drewN ?_ _) | (with_reducible refine Kd.C_drew ?_) | exact HR243_0.out)) x14_5 p244 q244
                                            cases e244
                                            replace p244 := eq_true p244
                                            replace q244 := eq_true q244
                                            go_wp2
                                            go_roundg k5
                                            case measure => have := HJ5.out; have := HJ13.out; have := HK3.out; have := HJ41.out; have := HK5.out; omega
                                            case rel => exact ⟨(wrap64 (x14_5 + 1)), (by first | rfl | (simp; done) | (simp only [i64_w, i32_w]; done) | (simp [*]; done) | (simp only [i64_w, i32_w]; first | rfl | (simp; done) | (simp [*]; done))), H', ⟨by have := HJ5.out; have := HJ13.out; have := HK3.out; have := HJ41.out; have := HK5.out; omega⟩, ⟨by (with_reducible repeat (first | apply Kd.S_alloc | apply Kd.S_drewN | apply Kd.S_drew)); exact HO_12.out⟩, ⟨by repeat (first | (with_reducible first | exact HB.out | apply below_alloc | apply pw_below_drewN | apply below_drew1) | exact HB.out)⟩⟩
                                      · rw [if_neg c53] at H
                                        exact absurd H (by simp)
                                    · rw [if_neg c52] at H
                                      exact absurd H (by simp)
                                  · rw [if_neg c51] at H
                                    exact absurd H (by simp)
                                · rw [if_neg c50] at H
                                  exact absurd H (by simp)
                              · rw [if_neg c49] at H
                                have c49b0 : decide (x14_5 ≤ x13_3) = false := decide_eq_false c49
                                clear c49
                                have H' := Aside0.mk H
                                clear H
                                go_wp2
                                go_roundg k5
                                case measure => have := HJ5.out; have := HJ13.out; have := HK3.out; have := HJ41.out; have := HK5.out; omega
                                case rel => exact ⟨(wrap64 (x13_3 + 1)), (by first | rfl | (simp; done) | (simp only [i64_w, i32_w]; done) | (simp [*]; done) | (simp only [i64_w, i32_w]; first | rfl | (simp; done) | (simp [*]; done))), H', ⟨by have := HJ5.out; have := HJ13.out; have := HK3.out; have := HJ41.out; have := HK5.out; omega⟩, ⟨by (with_reducible repeat (first | apply Kd.S_alloc | apply Kd.S_drewN | apply Kd.S_drew)); exact HO_12.out⟩, ⟨by repeat (first | (with_reducible first | exact HB.out | apply below_alloc | apply pw_below_drewN | apply below_drew1) | exact HB.out)⟩⟩
                  · rw [if_neg c41] at H
                    have c41b0 : decide (x13_3 < (t228.length : Int)) = false := decide_eq_false c41
                    clear c41
                    obtain rfl := Option.some.inj H
                    obtain ⟨Ao56, co56, eo56⟩ := Kd.S_slice HO_12.out
                    subst eo56
                    go_wp2
                    go_ret
                    exact ⟨by first | rfl | (simp [errW_none, errW_some] <;> rfl) | (simp only [← hji10, ← hji11]; first | rfl | (simp [errW_none, errW_some] <;> rfl)) | (simp [*, errW_none, errW_some] <;> rfl), by repeat (first | (with_reducible first | exact HB.out | apply below_alloc | apply pw_below_drewN | apply below_drew1) | exact HB.out)⟩

/-- THE ONE PURE STATEMENT of serinettelaw10_SolveOrders: yours. -/
def serinettelaw10_SolveOrders.Pure : Prop := ∀ (l0 : List Int) (a1 : Int) (a2 : Int), l0.length ≤ maxLen → l0.length * 8 ≤ 140737488351232 → (∀ x ∈ l0, (Lit.int .i64 x).wf = true) → (Lit.int .u8 a1).wf = true → (Lit.int .u8 a2).wf = true → ∃ k, serinettelaw10_SolveOrders.f k l0 a1 a2 = some true
theorem serinettelaw10_SolveOrders.walk (P : serinettelaw10_SolveOrders.Pure) (a0 : Option Addr) (len0 cap0 : Nat) (z0 : List Int) (a1 : Int) (a2 : Int) (w : World) (w0 : (a0 = none ∧ len0 = 0 ∧ cap0 = 0 ∧ z0 = []) ∨ ∃ x, a0 = some x ∧ len0 ≤ cap0 ∧ cap0 ≤ maxLen ∧ z0.length = cap0 ∧ (∀ i, i < z0.length → w.cell? (x.add i) = some (.int .i64 (z0.getD i 0))) ∧ ∀ n ∈ z0, (Lit.int .i64 n).wf = true) (y0 : len0 * 8 ≤ 140737488351232) (w1 : (Lit.int .u8 a1).wf = true) (w2 : (Lit.int .u8 a2).wf = true) :
    Calls Try.prog 4 #[.slice a0 len0 cap0, .int .u8 a1, .int .u8 a2] w fun e w' => e = .returned (.bool true) ∧ Below w.heap.size w w' := by
  obtain ⟨l0, rfl, hr0, hm0, hw0, hc0⟩ := ReadsInt.ofRowC w0
  obtain ⟨k, h⟩ := P l0 a1 a2 hm0 y0 hw0 w1 w2
  refine (serinettelaw10_SolveOrders.calls k _ _ l0 a1 a2 true w (Kd.C_of_reads (d := (0 : Int)) (h1 := fun _ => rfl) hr0) hc0 h).mono ?_
  rintro e w' ⟨rfl, hd⟩
  exact ⟨rfl, hd⟩

end Go.Proofs.Ythcognclnmcbhaa.PA
