/- Each Go function named below comes to what the plain Lean function of its name answers, wherever that answers (rounds enough, no panic, no row too long); texts by a program of this session by way of the kit's print.py, what that does not take by hand. Condition: what is read lies in memory as each theorem says. -/
import Derived.Test.YthcognclnmcbhaaPAx0
import Derived.Test.YthcognclnmcbhaaPAx2
import Derived.Test.YthcognclnmcbhaaPAx8
namespace Go.Proofs.Ythcognclnmcbhaa.PA
open Go.RowKit Go.Proofs.YthcognclnmcbhaaW.PrintWords Go.Proofs.YthcognclnmcbhaaW.PrintLast Go.Proofs.YthcognclnmcbhaaW.PrintMore
attribute [local go_sem] max2_int min2_int max_two min_two max_three min_three max_four min_four   -- for this text's walks alone
set_option linter.unusedVariables false
set_option linter.unusedSimpArgs false

/-! ### solve_Solve: function 12 -/
def solve_Solve.j0 : Nat → List Int → Int → Bool → Option ((List (List Int)))
  | 0, _, _, _ => none
  | k + 1, x0, x1, x13 => if x13 = true then (some ([] : List (List Int))) else ((solve_down.f k x0).bind fun t134 => ((serinetteshadow_SolveCore.f k t134 x1).bind fun t137 => (some t137)))
def solve_Solve.f (k : Nat) (l0 : List Int) (a1 : Int) : Option ((List (List Int))) := if (l0.length : Int) = 0 then (solve_Solve.j0 k l0 a1 true) else (if 0 < (l0.length : Int) then (solve_Solve.j0 k l0 a1 (decide ((rd l0 0) < 1))) else (none))
theorem solve_Solve.mono_l : ∀ k, (∀ y0 y1 y2, LeO (solve_Solve.j0 k y0 y1 y2) (solve_Solve.j0 (k + 1) y0 y1 y2))
  | 0 => fun _ _ _ r h => by simp [solve_Solve.j0] at h
  | k + 1 => by
    have ih0 := solve_Solve.mono_l k
    · intro y0 y1 y2
      unfold solve_Solve.j0
      repeat' first
      | (with_reducible exact ih0 _ _ _)
      | (with_reducible exact serinetteshadow_SolveCore.mono _ _ _)
      | (with_reducible exact solve_down.mono _ _)
      | (with_reducible exact LeO.refl _)
      | (with_reducible exact LeO.none _)
      | (with_reducible refine LeO.ite ?_ ?_)
      | (with_reducible refine LeO.bind ?_ (fun _ => ?_))
      | exact ih0 _ _ _
      | exact serinetteshadow_SolveCore.mono _ _ _
      | exact solve_down.mono _ _
      | exact LeO.none _
      | refine LeO.ite ?_ ?_
      | refine LeO.bind ?_ (fun _ => ?_)
theorem solve_Solve.mono : ∀ a0 a1 k, LeO (solve_Solve.f k a0 a1) (solve_Solve.f (k + 1) a0 a1) := by
  intro a0 a1 k
  have ih0 := solve_Solve.mono_l k
  unfold solve_Solve.f
  repeat' first
      | (with_reducible exact ih0 _ _ _)
      | (with_reducible exact serinetteshadow_SolveCore.mono _ _ _)
      | (with_reducible exact solve_down.mono _ _)
      | (with_reducible exact LeO.refl _)
      | (with_reducible exact LeO.none _)
      | (with_reducible refine LeO.ite ?_ ?_)
      | (with_reducible refine LeO.bind ?_ (fun _ => ?_))
      | exact ih0 _ _ _
      | exact serinetteshadow_SolveCore.mono _ _ _
      | exact solve_down.mono _ _
      | exact LeO.none _
      | refine LeO.ite ?_ ?_
      | refine LeO.bind ?_ (fun _ => ?_)
set_option maxHeartbeats 8000000 in
set_option maxRecDepth 100000 in
theorem solve_Solve.calls (k : Nat) (A0 : Option Addr) (c0 : Nat) (l0 : List Int) (a1 : Int) (r : List (List Int)) (w : World) (hr0 : Kd.C (Kd.int .i64) w A0 l0.length l0) (hc0 : l0.length ≤ c0) (h : solve_Solve.f k l0 a1 = some r) :
    Calls Try.prog 12 #[.slice A0 l0.length c0, .int .i64 a1] w fun e w' => ∃ v0_ : Value, e = .returned (v0_) ∧ Kd.S (Kd.slice 3 (Kd.int .i64)) 22 w' w.heap.size (fun _ => True) v0_ r ∧ Below w.heap.size w w' := by
  have HR0 := Aside0.mk hr0
  have HC0 := Aside0.mk hc0
  clear hr0 hc0
  have HB := Aside0.mk (Below.refl w.heap.size w)
  have H : (if (l0.length : Int) = 0 then (solve_Solve.j0 k l0 a1 true) else (if 0 < (l0.length : Int) then (solve_Solve.j0 k l0 a1 (decide ((rd l0 0) < 1))) else (none))) = some r := h
  clear h
  have HC3 := Aside0.mk H
  clear H
  go_enter Try.func12, Try.ntmps12
  try go_wp2
  go_step3
  go_upto_region 1 with (fail)
  go_cut [21] (fun v21 wc => ∃ (kq : Nat) (x13_2 : Bool), v21 = .bool x13_2 ∧ Aside0 (solve_Solve.j0 kq l0 a1 x13_2 = some r) ∧ Aside0 (kq ≤ k) ∧ Aside0 (Below w.heap.size w wc))
  case first =>
    have H := HC3.out
    clear HC3
    by_cases c4 : (l0.length : Int) = 0
    · rw [if_pos c4] at H
      have c4b0 : ((l0.length : Int) == 0) = true := beq_iff_eq.mpr c4
      have c4b1 : ((l0.length : Int) != 0) = false := bne_eq_false_iff_eq.mpr c4
      clear c4
      (first | rw [c4b0] | (simp only [i64_w, i32_w]; rw [c4b0]) | skip)
      have H' := Aside0.mk H
      clear H
      go_wp2
      go_meet
      case rel => exact ⟨_, (true), (by first | rfl | (simp; done) | (simp only [i64_w, i32_w]; done) | (simp [*]; done) | (simp only [i64_w, i32_w]; first | rfl | (simp; done) | (simp [*]; done))), H', ⟨by first | omega | exact Nat.le_refl _⟩, ⟨by repeat (first | (with_reducible first | exact HB.out | apply below_alloc | apply pw_below_drewN | apply below_drew1) | exact HB.out)⟩⟩
    · rw [if_neg c4] at H
      have c4b0 : ((l0.length : Int) == 0) = false := beq_eq_false_iff_ne.mpr c4
      have c4b1 : ((l0.length : Int) != 0) = true := bne_iff_ne.mpr c4
      have c4b2 : ¬ (l0 = []) := fun h_ => c4 (by rw [h_]; rfl)
      (first | rw [c4b0] | (simp only [i64_w, i32_w]; rw [c4b0]) | skip)
      by_cases c5 : 0 < (l0.length : Int)
      · rw [if_pos c5] at H
        have c5b0 : decide (0 < (l0.length : Int)) = true := decide_eq_true c5
        have c5b1 : decide (0 < l0.length) = true := decide_eq_true (by omega)
        clear c5
        have H' := Aside0.mk H
        clear H
        have p133 : 0 ≤ (0 : Int) := (by omega)
        have q133 : 0 < (l0.length : Int) := of_decide_eq_true (by first | (with_reducible assumption) | assumption)
        obtain ⟨ad133, e133, hx133_0⟩ := Kd.at_int HR0.out 0 p133 q133
        cases e133
        have qi133 : (0 < l0.length) = True := eq_true (by omega)
        (try rw [show ((0 : Int)).toNat = 0 from rfl] at hx133_0)
        (try rw [Addr.add_zero'] at hx133_0)
        replace hx133_0 := (HB.out.cell (World.block_lt_of_cell? w _ hx133_0)).trans hx133_0
        replace p133 := eq_true p133
        replace q133 := eq_true q133
        go_wp2
        go_meet
        case rel => exact ⟨_, (decide ((rd l0 0) < 1)), (by first | rfl | (simp; done) | (simp only [i64_w, i32_w]; done) | (simp [*]; done) | (simp only [i64_w, i32_w]; first | rfl | (simp; done) | (simp [*]; done))), H', ⟨by first | omega | exact Nat.le_refl _⟩, ⟨by repeat (first | (with_reducible first | exact HB.out | apply below_alloc | apply pw_below_drewN | apply below_drew1) | exact HB.out)⟩⟩
      · rw [if_neg c5] at H
        exact absurd H (by simp)
  case rest =>
    clear HC3
    try clear c1
    try clear p1
    try clear q1
    try clear hx1
    try clear qi1
    try clear p2
    try clear c4
    try clear c4b0
    try clear c4b1
    try clear c4b2
    try clear c5
    try clear c5b0
    try clear c5b1
    try clear hx133_0
    try clear p133
    try clear q133
    obtain ⟨kq, x13_2, rfl, HA, HJ2, HB⟩ := hcut
    cases kq with
    | zero => exact absurd HA.out (by simp [solve_Solve.j0])
    | succ kj2 =>
      have H := HA.out
      clear HA
      simp only [solve_Solve.j0] at H
      by_cases c6 : x13_2 = true
      · subst c6
        have H1 : (some ([] : List (List Int))) = some r := by rw [if_pos rfl] at H; exact H
        clear H
        have H := H1
        clear H1
        obtain rfl := Option.some.inj H
        go_wp2
        (try rw [Exit.noGoto_ret])
        go_ret
        exact ⟨_, by first | rfl | (simp [errW_none, errW_some] <;> rfl) | (simp [*, errW_none, errW_some] <;> rfl), by first | exact Kd.S_nil _ _ _ _ _ | exact Kd.N_nil _ _ _ _ _ | exact Kd.V_nil _ _ _ _ _ | exact Kd.Q_nil _ _ _ _ _ | exact Kd.R_nil _ _ _ _ _, by repeat (first | (with_reducible first | exact HB.out | apply below_alloc | apply pw_below_drewN | apply below_drew1) | exact HB.out)⟩
      · replace c6 := Bool.eq_false_iff.mpr c6
        subst c6
        have H1 : ((solve_down.f kj2 l0).bind fun t134 => ((serinetteshadow_SolveCore.f kj2 t134 a1).bind fun t137 => (some t137))) = some r := by rw [if_neg (show ¬ (false = true) by decide)] at H; exact H
        clear H
        have H := H1
        clear H1
        replace H := Option.bind_eq_some_iff.mp H
        obtain ⟨t134, A70, H⟩ := H
        replace H : ((serinetteshadow_SolveCore.f kj2 t134 a1).bind fun t137 => (some t137)) = some r := H
        have A7 := Aside0.mk A70
        clear A70
        replace H := Option.bind_eq_some_iff.mp H
        obtain ⟨t137, A80, H⟩ := H
        replace H : (some t137) = some r := H
        have A8 := Aside0.mk A80
        clear A80
        obtain rfl := Option.some.inj H
        have A9 := A8
        have H : (if 0 < (t134.length : Int) then (serinetteshadow_SolveCore.l0 kj2 t134 a1 (rd t134 0) ([] : List Int) ([] : List (List Int)) 1) else (none)) = some t137 := A9.out
        by_cases c3 : 0 < (t134.length : Int)
        · rw [if_pos c3] at H
          have c3b0 : decide (0 < (t134.length : Int)) = true := decide_eq_true c3
          have c3b1 : decide (0 < t134.length) = true := decide_eq_true (by omega)
          clear c3
          have H' := Aside0.mk H
          clear H
          go_wp2_with ((with_reducible refine gate_callee (f := 17) rfl ?_); refine goesL_ (some 23) rfl rfl Try.func17 (by kernel_rfl) rfl #[.slice A0 l0.length c0] rfl (by (try simp only [List.map_toArray, List.map_cons, List.map_nil]); first | done | rfl | (simp only [List.length_drop, List.length_take]; rfl)) ?_; (with_reducible refine (solve_down.calls kj2 _ _ l0 t134 _ ?side1 ?side2 A7.out).mono ?_); (case side1 => repeat (first | exact (Kd.C_below HR0.out HB.out) | (with_reducible refine Kd.C_alloc ?_ _) | (with_reducible refine Kd.C_drewN ?_ _) | (with_reducible refine Kd.C_drew ?_))); (case side2 => exact HC0.out); rintro e w9 ⟨v135, rfl, ho0, hb⟩; refine ⟨_, rfl, ?_⟩; have n0_ := Aside0.mk (Kd.R_lower ho0 (below_size (by repeat (first | (with_reducible first | exact HB.out | apply below_alloc | apply pw_below_drewN | apply below_drew1) | exact HB.out)))); have n1_ := Aside0.mk (below_step (by repeat (first | (with_reducible first | exact HB.out | apply below_alloc | apply pw_below_drewN | apply below_drew1) | exact HB.out)) hb); clear HB; have HO136 := n0_; have HB := n1_; clear n0_ n1_; (try clear hb); (try clear hb2); (try clear hk); (try clear hi); (try clear ho0); obtain ⟨Ao10, co10, eo10⟩ := Kd.R_slice HO136.out; subst eo10; have HB9 := Aside0.mk (Below.refl w9.heap.size w9); have HR9 := Aside0.mk (Kd.R_reads' HO136.out).2.2; have HC9 := Aside0.mk (Kd.R_reads' HO136.out).2.1; have HB0 := HB; clear HB; have p122 : 0 ≤ (0 : Int) := (by omega); have q122 : 0 < (t134.length : Int) := of_decide_eq_true (by first | (with_reducible assumption) | assumption); obtain ⟨ad122, e122, hx122_0⟩ := Kd.at_int HR9.out 0 p122 q122; cases e122; have qi122 : (0 < t134.length) = True := eq_true (by omega); (try rw [show ((0 : Int)).toNat = 0 from rfl] at hx122_0); (try rw [Addr.add_zero'] at hx122_0); replace p122 := eq_true p122; replace q122 := eq_true q122)
          go_step3
          go_wp2
          go_loopg [5, 6, 7, 8] kj2 (fun kq v5 v6 v7 v8 w' => ∃ (x5_1 : Int) (x6_1 : List Int) (x7_1 : List (List Int)) (x8_1 : Int), v5 = .int .i64 x5_1 ∧ v8 = .int .i64 x8_1 ∧ Aside0 (serinetteshadow_SolveCore.l0 kq t134 a1 x5_1 x6_1 x7_1 x8_1 = some t137) ∧ Aside0 (kq ≤ kj2) ∧ Aside0 (Kd.R (Kd.int .i64) 3 w' w9.heap.size (fun _ => True) v6 x6_1) ∧ Aside0 (Kd.S (Kd.slice 3 (Kd.int .i64)) 22 w' w9.heap.size (fun _ => True) v7 x7_1) ∧ Aside0 (Below w9.heap.size w9 w'))
          case atStart => exact ⟨(rd t134 0), (([] : List Int)), (([] : List (List Int))), (1), (by first | rfl | (simp; done) | (simp only [i64_w, i32_w]; done) | (simp [*]; done) | (simp only [i64_w, i32_w]; first | rfl | (simp; done) | (simp [*]; done))), (by first | rfl | (simp; done) | (simp only [i64_w, i32_w]; done) | (simp [*]; done) | (simp only [i64_w, i32_w]; first | rfl | (simp; done) | (simp [*]; done))), H', ⟨Nat.le_refl _⟩, ⟨by first | exact Kd.R_nil _ _ _ _ _ | exact Kd.N_nil _ _ _ _ _ | exact Kd.V_nil _ _ _ _ _ | exact Kd.Q_nil _ _ _ _ _ | exact Kd.S_nil _ _ _ _ _⟩, ⟨by first | exact Kd.S_nil _ _ _ _ _ | exact Kd.N_nil _ _ _ _ _ | exact Kd.V_nil _ _ _ _ _ | exact Kd.Q_nil _ _ _ _ _ | exact Kd.R_nil _ _ _ _ _⟩, ⟨by repeat (first | (with_reducible first | exact HB9.out | apply below_alloc | apply pw_below_drewN | apply below_drew1) | exact HB9.out)⟩⟩
          case round =>
            clear H'
            try clear p1
            try clear q1
            try clear hx1
            try clear qi1
            try clear p2
            try clear c3
            try clear c3b0
            try clear c3b1
            try clear hx122_0
            try clear p122
            try clear q122
            obtain ⟨x5_1, x6_1, x7_1, x8_1, rfl, rfl, HA, HK1, HO_6, HO_7, HB9⟩ := hrel
            cases gk with
            | zero => exact absurd HA.out (by simp [serinetteshadow_SolveCore.l0])
            | succ k1 =>
              have H := HA.out
              clear HA
              simp only [serinetteshadow_SolveCore.l0] at H
              have HC4 := Aside0.mk H
              clear H
              go_upto_region 8 with (fail)
              go_cut [36] (fun v36 wc => ∃ (kq : Nat) (x36_3 : Bool), v36 = .bool x36_3 ∧ Aside0 (serinetteshadow_SolveCore.j1 kq t134 a1 x5_1 x6_1 x7_1 x8_1 x36_3 = some t137) ∧ Aside0 (kq ≤ k1) ∧ Aside0 (Kd.R (Kd.int .i64) 3 wc w9.heap.size (fun _ => True) u6 x6_1) ∧ Aside0 (Kd.S (Kd.slice 3 (Kd.int .i64)) 22 wc w9.heap.size (fun _ => True) u7 x7_1) ∧ Aside0 (Below w9.heap.size w9 wc))
              case first =>
                have H := HC4.out
                clear HC4
                by_cases c5 : x8_1 < (t134.length : Int)
                · rw [if_pos c5] at H
                  have c5b0 : decide (x8_1 < (t134.length : Int)) = true := decide_eq_true c5
                  clear c5
                  (first | rw [c5b0] | (simp only [i64_w, i32_w]; rw [c5b0]) | skip)
                  obtain ⟨ji6, hji6⟩ : ∃ j_ : Int, (mn a1 32) = j_ := ⟨_, rfl⟩
                  replace H : (serinetteshadow_SolveCore.j1 k1 t134 a1 x5_1 x6_1 x7_1 x8_1 (decide (x8_1 ≤ (ji6)))) = some t137 := by first | (rw [hji6] at H; exact H) | (simp only [hji6] at H ⊢; exact H)
                  have hji6_ : (if 32 < a1 then 32 else a1) = ji6 := hji6
                  have H' := Aside0.mk H
                  clear H
                  go_wp2
                  go_meet
                  case rel => exact ⟨_, (decide (x8_1 ≤ (ji6))), (by first | rfl | (simp; done) | (simp only [← hji6] <;> (first | rfl | simp)) | (simp [*]; done)), H', ⟨by have := HK1.out; first | omega | exact Nat.le_refl _⟩, ⟨by (with_reducible repeat (first | apply Kd.R_alloc | apply Kd.R_drewN | apply Kd.R_drew)); exact HO_6.out⟩, ⟨by (with_reducible repeat (first | apply Kd.S_alloc | apply Kd.S_drewN | apply Kd.S_drew)); exact HO_7.out⟩, ⟨by repeat (first | (with_reducible first | exact HB9.out | apply below_alloc | apply pw_below_drewN | apply below_drew1) | exact HB9.out)⟩⟩
                · rw [if_neg c5] at H
                  have c5b0 : decide (x8_1 < (t134.length : Int)) = false := decide_eq_false c5
                  clear c5
                  (first | rw [c5b0] | (simp only [i64_w, i32_w]; rw [c5b0]) | skip)
                  have H' := Aside0.mk H
                  clear H
                  go_wp2
                  go_meet
                  case rel => exact ⟨_, (false), (by first | rfl | (simp; done) | (simp only [i64_w, i32_w]; done) | (simp [*]; done) | (simp only [i64_w, i32_w]; first | rfl | (simp; done) | (simp [*]; done))), H', ⟨by have := HK1.out; first | omega | exact Nat.le_refl _⟩, ⟨by (with_reducible repeat (first | apply Kd.R_alloc | apply Kd.R_drewN | apply Kd.R_drew)); exact HO_6.out⟩, ⟨by (with_reducible repeat (first | apply Kd.S_alloc | apply Kd.S_drewN | apply Kd.S_drew)); exact HO_7.out⟩, ⟨by repeat (first | (with_reducible first | exact HB9.out | apply below_alloc | apply pw_below_drewN | apply below_drew1) | exact HB9.out)⟩⟩
              case rest =>
                clear HC4
                try clear p1
                try clear q1
                try clear hx1
                try clear qi1
                try clear p2
                try clear c3
                try clear c3b0
                try clear c3b1
                try clear c4
                try clear c5
                try clear c5b0
                try clear hx122_0
                try clear p1
                try clear p122
                try clear p2
                try clear q1
                try clear q122
                obtain ⟨kq, x36_3, rfl, HA, HJ3, HO_6, HO_7, HB9⟩ := hcut
                cases kq with
                | zero => exact absurd HA.out (by simp [serinetteshadow_SolveCore.j1])
                | succ kj3 =>
                  have H := HA.out
                  clear HA
                  simp only [serinetteshadow_SolveCore.j1] at H
                  by_cases c7 : x36_3 = true
                  · subst c7
                    have H1 : (if 0 ≤ x8_1 then (if x8_1 < (t134.length : Int) then (serinetteshadow_SolveCore.l1 kj3 t134 a1 x5_1 x6_1 x7_1 x8_1 (wrap64 ((rd t134 x8_1) * 1048576)) x6_1 (x6_1.length : Int) 0) else (none)) else (none)) = some t137 := by rw [if_pos rfl] at H; exact H
                    clear H
                    have H := H1
                    clear H1
                    by_cases c8 : 0 ≤ x8_1
                    · rw [if_pos c8] at H
                      have c8b0 : decide (0 ≤ x8_1) = true := decide_eq_true c8
                      clear c8
                      by_cases c9 : x8_1 < (t134.length : Int)
                      · rw [if_pos c9] at H
                        have c9b0 : decide (x8_1 < (t134.length : Int)) = true := decide_eq_true c9
                        clear c9
                        have H' := Aside0.mk H
                        clear H
                        have p123 : 0 ≤ (x8_1 : Int) := of_decide_eq_true (by first | (with_reducible assumption) | assumption)
                        have q123 : x8_1 < (t134.length : Int) := of_decide_eq_true (by first | (with_reducible assumption) | assumption)
                        obtain ⟨ad123, e123, hx123_0⟩ := Kd.at_int HR9.out x8_1 p123 q123
                        obtain rfl : ad122 = ad123 := (by injection e123)
                        replace hx123_0 := (HB9.out.cell (World.block_lt_of_cell? w9 _ hx123_0)).trans hx123_0
                        replace p123 := eq_true p123
                        replace q123 := eq_true q123
                        obtain ⟨Ao10, co10, eo10⟩ := Kd.R_slice HO_6.out
                        subst eo10
                        go_wp2
                        go_loopg [9, 46] kj3 (fun kq v9 v46 w' => ∃ (x9_3 : Int) (x46_3 : Int), v9 = .int .i64 x9_3 ∧ v46 = .int .i64 x46_3 ∧ Aside0 (serinetteshadow_SolveCore.l1 kq t134 a1 x5_1 x6_1 x7_1 x8_1 x9_3 x6_1 (x6_1.length : Int) x46_3 = some t137) ∧ Aside0 (kq ≤ kj3) ∧ Aside0 (Kd.R (Kd.int .i64) 3 w' w9.heap.size (fun _ => True) (.slice Ao10 x6_1.length co10) x6_1) ∧ Aside0 (Kd.S (Kd.slice 3 (Kd.int .i64)) 22 w' w9.heap.size (fun _ => True) u7 x7_1) ∧ Aside0 (Kd.R (Kd.int .i64) 3 w' w9.heap.size (fun _ => True) (.slice Ao10 x6_1.length co10) x6_1) ∧ Aside0 (Below w9.heap.size w9 w'))
                        case atStart => exact ⟨(wrap64 ((rd t134 x8_1) * 1048576)), (0), (by first | rfl | (simp; done) | (simp only [i64_w, i32_w]; done) | (simp [*]; done) | (simp only [i64_w, i32_w]; first | rfl | (simp; done) | (simp [*]; done))), (by first | rfl | (simp; done) | (simp only [i64_w, i32_w]; done) | (simp [*]; done) | (simp only [i64_w, i32_w]; first | rfl | (simp; done) | (simp [*]; done))), H', ⟨Nat.le_refl _⟩, ⟨by (with_reducible repeat (first | apply Kd.R_alloc | apply Kd.R_drewN | apply Kd.R_drew)); exact HO_6.out⟩, ⟨by (with_reducible repeat (first | apply Kd.S_alloc | apply Kd.S_drewN | apply Kd.S_drew)); exact HO_7.out⟩, ⟨by (with_reducible repeat (first | apply Kd.R_alloc | apply Kd.R_drewN | apply Kd.R_drew)); exact HO_6.out⟩, ⟨by repeat (first | (with_reducible first | exact HB9.out | apply below_alloc | apply pw_below_drewN | apply below_drew1) | exact HB9.out)⟩⟩
                        case round =>
                          clear H'
                          try clear p1
                          try clear q1
                          try clear hx1
                          try clear qi1
                          try clear p2
                          try clear c3
                          try clear c3b0
                          try clear c3b1
                          try clear c4
                          try clear c5
                          try clear c5b0
                          try clear p6
                          try clear c7
                          try clear c8
                          try clear c8b0
                          try clear c9
                          try clear c9b0
                          try clear hx122_0
                          try clear hx123_0
                          try clear p1
                          try clear p122
                          try clear p123
                          try clear p2
                          try clear q1
                          try clear q122
                          try clear q123
                          obtain ⟨x9_3, x46_3, rfl, rfl, HA, HK3, HO_6, HO_7, HO_44, HB9⟩ := hrel
                          cases gk with
                          | zero => exact absurd HA.out (by simp [serinetteshadow_SolveCore.l1])
                          | succ k3 =>
                            have H := HA.out
                            clear HA
                            simp only [serinetteshadow_SolveCore.l1] at H
                            by_cases c11 : x46_3 < (x6_1.length : Int)
                            · rw [if_pos c11] at H
                              have c11b0 : decide (x46_3 < (x6_1.length : Int)) = true := decide_eq_true c11
                              clear c11
                              by_cases c12 : 0 ≤ x46_3
                              · rw [if_pos c12] at H
                                have c12b0 : decide (0 ≤ x46_3) = true := decide_eq_true c12
                                clear c12
                                by_cases c13 : x46_3 < (x6_1.length : Int)
                                · rw [if_pos c13] at H
                                  have c13b0 : decide (x46_3 < (x6_1.length : Int)) = true := decide_eq_true c13
                                  clear c13
                                  obtain ⟨ji14, hji14⟩ : ∃ j_ : Int, (wrap64 ((wrap64 (x8_1 - 1)) - x46_3)) = j_ := ⟨_, rfl⟩
                                  replace H : (if 0 ≤ (ji14) then (if (ji14) < (t134.length : Int) then (serinetteshadow_SolveCore.l1 k3 t134 a1 x5_1 x6_1 x7_1 x8_1 (wrap64 (x9_3 - (wrap64 ((rd x6_1 x46_3) * (rd t134 (ji14)))))) x6_1 (x6_1.length : Int) (wrap64 (x46_3 + 1))) else (none)) else (none)) = some t137 := by first | (rw [hji14] at H; exact H) | (simp only [hji14] at H ⊢; exact H)
                                  have hji14w : (IntKind.i64.wrap ((wrap64 (x8_1 - 1)) - x46_3)) = ji14 := (i64_w _).trans hji14
                                  by_cases c15 : 0 ≤ (ji14)
                                  · rw [if_pos c15] at H
                                    have c15b0 : decide (0 ≤ (ji14)) = true := decide_eq_true c15
                                    clear c15
                                    by_cases c16 : (ji14) < (t134.length : Int)
                                    · rw [if_pos c16] at H
                                      have c16b0 : decide ((ji14) < (t134.length : Int)) = true := decide_eq_true c16
                                      clear c16
                                      have H' := Aside0.mk H
                                      clear H
                                      have p124 : 0 ≤ (x46_3 : Int) := of_decide_eq_true (by first | (with_reducible assumption) | assumption)
                                      have q124 : x46_3 < (x6_1.length : Int) := of_decide_eq_true (by first | (with_reducible assumption) | assumption)
                                      obtain ⟨ad124, e124, hx124_0⟩ := Kd.at_int (Kd.R_reads' HO_44.out).2.2 x46_3 p124 q124
                                      cases e124
                                      replace p124 := eq_true p124
                                      replace q124 := eq_true q124
                                      have p125 : 0 ≤ ((ji14) : Int) := of_decide_eq_true (by first | (with_reducible assumption) | assumption)
                                      have q125 : (ji14) < (t134.length : Int) := of_decide_eq_true (by first | (with_reducible assumption) | assumption)
                                      obtain ⟨ad125, e125, hx125_0⟩ := Kd.at_int HR9.out (ji14) p125 q125
                                      obtain rfl : ad122 = ad125 := (by injection e125)
                                      replace hx125_0 := (HB9.out.cell (World.block_lt_of_cell? w9 _ hx125_0)).trans hx125_0
                                      replace p125 := eq_true p125
                                      replace q125 := eq_true q125
                                      go_wp2
                                      go_roundg k3
                                      case measure => have := HK1.out; have := HJ3.out; have := HK3.out; omega
                                      case rel => exact ⟨(wrap64 (x9_3 - (wrap64 ((rd x6_1 x46_3) * (rd t134 (ji14)))))), (wrap64 (x46_3 + 1)), (by first | rfl | (simp; done) | (simp only [← hji14] <;> (first | rfl | simp)) | (simp [*]; done)), (by first | rfl | (simp; done) | (simp only [i64_w, i32_w]; done) | (simp [*]; done) | (simp only [i64_w, i32_w]; first | rfl | (simp; done) | (simp [*]; done))), H', ⟨by have := HK1.out; have := HJ3.out; have := HK3.out; omega⟩, ⟨by (with_reducible repeat (first | apply Kd.R_alloc | apply Kd.R_drewN | apply Kd.R_drew)); exact HO_6.out⟩, ⟨by (with_reducible repeat (first | apply Kd.S_alloc | apply Kd.S_drewN | apply Kd.S_drew)); exact HO_7.out⟩, ⟨by (with_reducible repeat (first | apply Kd.R_alloc | apply Kd.R_drewN | apply Kd.R_drew)); exact HO_44.out⟩, ⟨by repeat (first | (with_reducible first | exact HB9.out | apply below_alloc | apply pw_below_drewN | apply below_drew1) | exact HB9.out)⟩⟩
                                    · rw [if_neg c16] at H
                                      exact absurd H (by simp)
                                  · rw [if_neg c15] at H
                                    exact absurd H (by simp)
                                · rw [if_neg c13] at H
                                  exact absurd H (by simp)
                              · rw [if_neg c12] at H
                                exact absurd H (by simp)
                            · rw [if_neg c11] at H
                              have c11b0 : decide (x46_3 < (x6_1.length : Int)) = false := decide_eq_false c11
                              clear c11
                              by_cases c17 : x5_1 = 0
                              · rw [if_pos c17] at H
                                exact absurd H (by simp)
                              · rw [if_neg c17] at H
                                have c17b0 : (x5_1 == 0) = false := beq_eq_false_iff_ne.mpr c17
                                have c17b1 : (x5_1 != 0) = true := bne_iff_ne.mpr c17
                                have HC18 := Aside0.mk H
                                clear H
                                go_upto_region 17 with (fail)
                                go_cut [71] (fun v71 wc => ∃ (kq : Nat) (x71_17 : Bool), v71 = .bool x71_17 ∧ Aside0 (serinetteshadow_SolveCore.j3 kq t134 a1 x5_1 x6_1 x7_1 x8_1 (wrap64 (Int.tdiv x9_3 x5_1)) x71_17 = some t137) ∧ Aside0 (kq ≤ k3) ∧ Aside0 (Kd.R (Kd.int .i64) 3 wc w9.heap.size (fun _ => True) (.slice Ao10 x6_1.length co10) x6_1) ∧ Aside0 (Kd.S (Kd.slice 3 (Kd.int .i64)) 22 wc w9.heap.size (fun _ => True) u7 x7_1) ∧ Aside0 (Below w9.heap.size w9 wc))
                                case first =>
                                  have H := HC18.out
                                  clear HC18
                                  by_cases c19 : (wrap64 (Int.tdiv x9_3 x5_1)) ≤ (-1048576)
                                  · rw [if_pos c19] at H
                                    have c19b0 : decide ((wrap64 (Int.tdiv x9_3 x5_1)) ≤ (-1048576)) = true := decide_eq_true c19
                                    clear c19
                                    (first | rw [c19b0] | (simp only [i64_w, i32_w]; rw [c19b0]) | skip)
                                    have H' := Aside0.mk H
                                    clear H
                                    go_wp2
                                    go_meet
                                    case rel => exact ⟨_, (true), (by first | rfl | (simp; done) | (simp only [i64_w, i32_w]; done) | (simp [*]; done) | (simp only [i64_w, i32_w]; first | rfl | (simp; done) | (simp [*]; done))), H', ⟨by have := HK1.out; have := HJ3.out; have := HK3.out; first | omega | exact Nat.le_refl _⟩, ⟨by (with_reducible repeat (first | apply Kd.R_alloc | apply Kd.R_drewN | apply Kd.R_drew)); exact HO_6.out⟩, ⟨by (with_reducible repeat (first | apply Kd.S_alloc | apply Kd.S_drewN | apply Kd.S_drew)); exact HO_7.out⟩, ⟨by repeat (first | (with_reducible first | exact HB9.out | apply below_alloc | apply pw_below_drewN | apply below_drew1) | exact HB9.out)⟩⟩
                                  · rw [if_neg c19] at H
                                    have c19b0 : decide ((wrap64 (Int.tdiv x9_3 x5_1)) ≤ (-1048576)) = false := decide_eq_false c19
                                    clear c19
                                    (first | rw [c19b0] | (simp only [i64_w, i32_w]; rw [c19b0]) | skip)
                                    have H' := Aside0.mk H
                                    clear H
                                    go_wp2
                                    go_meet
                                    case rel => exact ⟨_, (decide ((wrap64 (Int.tdiv x9_3 x5_1)) ≥ 1048576)), (by first | rfl | (simp; done) | (simp only [i64_w, i32_w]; done) | (simp [*]; done) | (simp only [i64_w, i32_w]; first | rfl | (simp; done) | (simp [*]; done))), H', ⟨by have := HK1.out; have := HJ3.out; have := HK3.out; first | omega | exact Nat.le_refl _⟩, ⟨by (with_reducible repeat (first | apply Kd.R_alloc | apply Kd.R_drewN | apply Kd.R_drew)); exact HO_6.out⟩, ⟨by (with_reducible repeat (first | apply Kd.S_alloc | apply Kd.S_drewN | apply Kd.S_drew)); exact HO_7.out⟩, ⟨by repeat (first | (with_reducible first | exact HB9.out | apply below_alloc | apply pw_below_drewN | apply below_drew1) | exact HB9.out)⟩⟩
                                case rest =>
                                  clear HC18
                                  try clear c1
                                  try clear p1
                                  try clear q1
                                  try clear hx1
                                  try clear qi1
                                  try clear p2
                                  try clear c3
                                  try clear c3b0
                                  try clear c3b1
                                  try clear c4
                                  try clear c5
                                  try clear c5b0
                                  try clear p6
                                  try clear c7
                                  try clear c8
                                  try clear c8b0
                                  try clear c9
                                  try clear c9b0
                                  try clear c11
                                  try clear c11b0
                                  try clear c12
                                  try clear c12b0
                                  try clear p12
                                  try clear q12
                                  try clear hx12
                                  try clear qi12
                                  try clear c13
                                  try clear c13b0
                                  try clear c15
                                  try clear c15b0
                                  try clear c16
                                  try clear c16b0
                                  try clear c17
                                  try clear c17b0
                                  try clear c17b1
                                  try clear c19
                                  try clear c19b0
                                  try clear hx122_0
                                  try clear hx123_0
                                  try clear hx124_0
                                  try clear hx125_0
                                  try clear p1
                                  try clear p122
                                  try clear p123
                                  try clear p124
                                  try clear p125
                                  try clear p2
                                  try clear p6
                                  try clear q1
                                  try clear q122
                                  try clear q123
                                  try clear q124
                                  try clear q125
                                  obtain ⟨kq, x71_17, rfl, HA, HJ17, HO_6, HO_7, HB9⟩ := hcut
                                  cases kq with
                                  | zero => exact absurd HA.out (by simp [serinetteshadow_SolveCore.j3])
                                  | succ kj17 =>
                                    have H := HA.out
                                    clear HA
                                    simp only [serinetteshadow_SolveCore.j3] at H
                                    by_cases c20 : x71_17 = true
                                    · subst c20
                                      have H1 : (some x7_1) = some t137 := by rw [if_pos rfl] at H; exact H
                                      clear H
                                      have H := H1
                                      clear H1
                                      obtain rfl := Option.some.inj H
                                      go_wp2
                                      (try rw [Exit.noGoto_ret])
                                      go_ret
                                      exact ⟨_, by first | rfl | (simp [errW_none, errW_some] <;> rfl) | (simp [*, errW_none, errW_some] <;> rfl), Kd.S_lower (base := w9.heap.size) (by (with_reducible repeat (first | apply Kd.S_alloc | apply Kd.S_drewN | apply Kd.S_drew)); exact HO_7.out) (below_size HB0.out), below_step HB0.out (by repeat (first | (with_reducible first | exact HB9.out | apply below_alloc | apply pw_below_drewN | apply below_drew1) | exact HB9.out))⟩
                                    · replace c20 := Bool.eq_false_iff.mpr c20
                                      subst c20
                                      have H1 : ((solve_next.f kj17 x6_1 (wrap64 (Int.tdiv x9_3 x5_1))).bind fun t126 => ((serinetteshadow_AnyFarSolve.f kj17 t126).bind fun t129 => (if t129 = true then (some x7_1) else (if x7_1.length < 5864062014805 then ((some (x7_1 ++ [t126] : List (List Int))).bind fun y130 => (if (wrap64 (x5_1 - ((wrap64 (((wrap64 (x5_1 * (wrap64 (Int.tdiv x9_3 x5_1)))) / 1048576) * (wrap64 (Int.tdiv x9_3 x5_1)))) / 1048576))) < 1 then (some y130) else (serinetteshadow_SolveCore.l0 kj17 t134 a1 (wrap64 (x5_1 - ((wrap64 (((wrap64 (x5_1 * (wrap64 (Int.tdiv x9_3 x5_1)))) / 1048576) * (wrap64 (Int.tdiv x9_3 x5_1)))) / 1048576))) t126 y130 (wrap64 (x8_1 + 1))))) else (none))))) = some t137 := by rw [if_neg (show ¬ (false = true) by decide)] at H; exact H
                                      clear H
                                      have H := H1
                                      clear H1
                                      replace H := Option.bind_eq_some_iff.mp H
                                      obtain ⟨t126, A210, H⟩ := H
                                      replace H : ((serinetteshadow_AnyFarSolve.f kj17 t126).bind fun t129 => (if t129 = true then (some x7_1) else (if x7_1.length < 5864062014805 then ((some (x7_1 ++ [t126] : List (List Int))).bind fun y130 => (if (wrap64 (x5_1 - ((wrap64 (((wrap64 (x5_1 * (wrap64 (Int.tdiv x9_3 x5_1)))) / 1048576) * (wrap64 (Int.tdiv x9_3 x5_1)))) / 1048576))) < 1 then (some y130) else (serinetteshadow_SolveCore.l0 kj17 t134 a1 (wrap64 (x5_1 - ((wrap64 (((wrap64 (x5_1 * (wrap64 (Int.tdiv x9_3 x5_1)))) / 1048576) * (wrap64 (Int.tdiv x9_3 x5_1)))) / 1048576))) t126 y130 (wrap64 (x8_1 + 1))))) else (none)))) = some t137 := H
                                      have A21 := Aside0.mk A210
                                      clear A210
                                      replace H := Option.bind_eq_some_iff.mp H
                                      obtain ⟨t129, A220, H⟩ := H
                                      replace H : (if t129 = true then (some x7_1) else (if x7_1.length < 5864062014805 then ((some (x7_1 ++ [t126] : List (List Int))).bind fun y130 => (if (wrap64 (x5_1 - ((wrap64 (((wrap64 (x5_1 * (wrap64 (Int.tdiv x9_3 x5_1)))) / 1048576) * (wrap64 (Int.tdiv x9_3 x5_1)))) / 1048576))) < 1 then (some y130) else (serinetteshadow_SolveCore.l0 kj17 t134 a1 (wrap64 (x5_1 - ((wrap64 (((wrap64 (x5_1 * (wrap64 (Int.tdiv x9_3 x5_1)))) / 1048576) * (wrap64 (Int.tdiv x9_3 x5_1)))) / 1048576))) t126 y130 (wrap64 (x8_1 + 1))))) else (none))) = some t137 := H
                                      have A22 := Aside0.mk A220
                                      clear A220
                                      by_cases c23 : t129 = true
                                      · subst c23
                                        have H1 : (some x7_1) = some t137 := by rw [if_pos rfl] at H; exact H
                                        clear H
                                        have H := H1
                                        clear H1
                                        obtain rfl := Option.some.inj H
                                        go_wp2_with (first | ((with_reducible refine gate_callee (f := 18) rfl ?_); refine goesL_ (some 74) rfl rfl Try.func18 (by kernel_rfl) rfl #[.slice Ao10 x6_1.length co10, .int .i64 (wrap64 (Int.tdiv x9_3 x5_1))] rfl (by (try simp only [List.map_toArray, List.map_cons, List.map_nil]); first | done | rfl | (simp only [List.length_drop, List.length_take]; rfl)) ?_; (with_reducible refine (solve_next.calls kj17 _ _ x6_1 (wrap64 (Int.tdiv x9_3 x5_1)) t126 _ ?side1 ?side2 A21.out).mono ?_); (case side1 => repeat (first | exact (Kd.R_reads' HO_6.out).2.2 | (with_reducible refine Kd.C_alloc ?_ _) | (with_reducible refine Kd.C_drewN ?_ _) | (with_reducible refine Kd.C_drew ?_))); (case side2 => exact (Kd.R_reads' HO_6.out).2.1); rintro e w24 ⟨v127, rfl, ho0, hb⟩; refine ⟨_, rfl, ?_⟩; have n0_ := Aside0.mk (Kd.R_elder' (by (with_reducible repeat (first | apply Kd.R_alloc | apply Kd.R_drewN | apply Kd.R_drew)); exact HO_6.out) (Kd.R_base ho0) hb); have n1_ := Aside0.mk (Kd.S_elder' (by (with_reducible repeat (first | apply Kd.S_alloc | apply Kd.S_drewN | apply Kd.S_drew)); exact HO_7.out) (Kd.R_base ho0) hb); have n2_ := Aside0.mk (Kd.R_lower (Kd.R_new' ho0 (Kd.R_lt (by (with_reducible repeat (first | apply Kd.R_alloc | apply Kd.R_drewN | apply Kd.R_drew)); exact HO_6.out))) (below_size (by repeat (first | (with_reducible first | exact HB9.out | apply below_alloc | apply pw_below_drewN | apply below_drew1) | exact HB9.out)))); have n3_ := Aside0.mk (below_step (by repeat (first | (with_reducible first | exact HB9.out | apply below_alloc | apply pw_below_drewN | apply below_drew1) | exact HB9.out)) hb); clear HO_6; clear HO_7; clear HB9; have HO_6 := n0_; have HO_7 := n1_; have HO128 := n2_; have HB9 := n3_; clear n0_ n1_ n2_ n3_; (try clear hb); (try clear hb2); (try clear hk); (try clear hi); (try clear ho0); obtain ⟨Ao25, co25, eo25⟩ := Kd.R_slice HO128.out; subst eo25) | ((with_reducible refine gate_callee (f := 19) rfl ?_); refine goesL_ (some 76) rfl rfl Try.func19 (by kernel_rfl) rfl #[.slice Ao25 t126.length co25, .func (.func 20) #[] #[]] rfl (by (try simp only [List.map_toArray, List.map_cons, List.map_nil]); first | done | rfl | (simp only [List.length_drop, List.length_take]; rfl)) ?_; (with_reducible refine (serinetteshadow_AnyFarSolve.calls kj17 _ _ t126 true _ ?side1 ?side2 A22.out).mono ?_); (case side1 => repeat (first | exact (Kd.R_reads' HO128.out).2.2 | (with_reducible refine Kd.C_alloc ?_ _) | (with_reducible refine Kd.C_drewN ?_ _) | (with_reducible refine Kd.C_drew ?_))); (case side2 => exact (Kd.R_reads' HO128.out).2.1); rintro e w' ⟨rfl, ⟨nd, rfl⟩⟩; refine ⟨_, rfl, ?_⟩))
                                        (try rw [Exit.noGoto_ret])
                                        go_ret
                                        exact ⟨_, by first | rfl | (simp [errW_none, errW_some] <;> rfl) | (simp [*, errW_none, errW_some] <;> rfl), Kd.S_lower (base := w9.heap.size) (by (with_reducible repeat (first | apply Kd.S_alloc | apply Kd.S_drewN | apply Kd.S_drew)); exact Kd.S_mono HO_7.out (fun _ hk => trivial)) (below_size HB0.out), below_step HB0.out (by repeat (first | (with_reducible first | exact HB9.out | apply below_alloc | apply pw_below_drewN | apply below_drew1) | exact HB9.out))⟩
                                      · replace c23 := Bool.eq_false_iff.mpr c23
                                        subst c23
                                        have H1 : (if x7_1.length < 5864062014805 then ((some (x7_1 ++ [t126] : List (List Int))).bind fun y130 => (if (wrap64 (x5_1 - ((wrap64 (((wrap64 (x5_1 * (wrap64 (Int.tdiv x9_3 x5_1)))) / 1048576) * (wrap64 (Int.tdiv x9_3 x5_1)))) / 1048576))) < 1 then (some y130) else (serinetteshadow_SolveCore.l0 kj17 t134 a1 (wrap64 (x5_1 - ((wrap64 (((wrap64 (x5_1 * (wrap64 (Int.tdiv x9_3 x5_1)))) / 1048576) * (wrap64 (Int.tdiv x9_3 x5_1)))) / 1048576))) t126 y130 (wrap64 (x8_1 + 1))))) else (none)) = some t137 := by rw [if_neg (show ¬ (false = true) by decide)] at H; exact H
                                        clear H
                                        have H := H1
                                        clear H1
                                        by_cases c26 : x7_1.length < 5864062014805
                                        · rw [if_pos c26] at H
                                          have LMc26 := Aside0.mk c26
                                          clear c26
                                          obtain ⟨y130, hy130⟩ : ∃ y_ : List (List Int), y_ = (x7_1 ++ [t126]) := ⟨_, rfl⟩
                                          replace H : (if (wrap64 (x5_1 - ((wrap64 (((wrap64 (x5_1 * (wrap64 (Int.tdiv x9_3 x5_1)))) / 1048576) * (wrap64 (Int.tdiv x9_3 x5_1)))) / 1048576))) < 1 then (some y130) else (serinetteshadow_SolveCore.l0 kj17 t134 a1 (wrap64 (x5_1 - ((wrap64 (((wrap64 (x5_1 * (wrap64 (Int.tdiv x9_3 x5_1)))) / 1048576) * (wrap64 (Int.tdiv x9_3 x5_1)))) / 1048576))) t126 y130 (wrap64 (x8_1 + 1)))) = some t137 := by first | (rw [hy130]; with_reducible exact H) | (have H2_ := (Option.bind_some _ _).symm.trans H; rw [hy130]; with_reducible exact H2_) | (have H2_ := (Option.bind_some _ _).symm.trans H; with_reducible exact H2_) | with_reducible exact H | (rw [hy130]; exact H) | exact H
                                          have Ny130 := Aside0.mk hy130
                                          clear hy130
                                          by_cases c27 : (wrap64 (x5_1 - ((wrap64 (((wrap64 (x5_1 * (wrap64 (Int.tdiv x9_3 x5_1)))) / 1048576) * (wrap64 (Int.tdiv x9_3 x5_1)))) / 1048576))) < 1
                                          · rw [if_pos c27] at H
                                            have c27b0 : decide ((wrap64 (x5_1 - ((wrap64 (((wrap64 (x5_1 * (wrap64 (Int.tdiv x9_3 x5_1)))) / 1048576) * (wrap64 (Int.tdiv x9_3 x5_1)))) / 1048576))) < 1) = true := decide_eq_true c27
                                            clear c27
                                            obtain rfl := Option.some.inj H
                                            go_wp2_with (first | ((with_reducible refine gate_callee (f := 18) rfl ?_); refine goesL_ (some 74) rfl rfl Try.func18 (by kernel_rfl) rfl #[.slice Ao10 x6_1.length co10, .int .i64 (wrap64 (Int.tdiv x9_3 x5_1))] rfl (by (try simp only [List.map_toArray, List.map_cons, List.map_nil]); first | done | rfl | (simp only [List.length_drop, List.length_take]; rfl)) ?_; (with_reducible refine (solve_next.calls kj17 _ _ x6_1 (wrap64 (Int.tdiv x9_3 x5_1)) t126 _ ?side1 ?side2 A21.out).mono ?_); (case side1 => repeat (first | exact (Kd.R_reads' HO_6.out).2.2 | (with_reducible refine Kd.C_alloc ?_ _) | (with_reducible refine Kd.C_drewN ?_ _) | (with_reducible refine Kd.C_drew ?_))); (case side2 => exact (Kd.R_reads' HO_6.out).2.1); rintro e w28 ⟨v127, rfl, ho0, hb⟩; refine ⟨_, rfl, ?_⟩; have n0_ := Aside0.mk (Kd.R_elder' (by (with_reducible repeat (first | apply Kd.R_alloc | apply Kd.R_drewN | apply Kd.R_drew)); exact HO_6.out) (Kd.R_base ho0) hb); have n1_ := Aside0.mk (Kd.S_elder' (by (with_reducible repeat (first | apply Kd.S_alloc | apply Kd.S_drewN | apply Kd.S_drew)); exact HO_7.out) (Kd.R_base ho0) hb); have n2_ := Aside0.mk (Kd.R_lower (Kd.R_new' ho0 (Kd.R_lt (by (with_reducible repeat (first | apply Kd.R_alloc | apply Kd.R_drewN | apply Kd.R_drew)); exact HO_6.out))) (below_size (by repeat (first | (with_reducible first | exact HB9.out | apply below_alloc | apply pw_below_drewN | apply below_drew1) | exact HB9.out)))); have n3_ := Aside0.mk (below_step (by repeat (first | (with_reducible first | exact HB9.out | apply below_alloc | apply pw_below_drewN | apply below_drew1) | exact HB9.out)) hb); clear HO_6; clear HO_7; clear HB9; have HO_6 := n0_; have HO_7 := n1_; have HO128 := n2_; have HB9 := n3_; clear n0_ n1_ n2_ n3_; (try clear hb); (try clear hb2); (try clear hk); (try clear hi); (try clear ho0); obtain ⟨Ao29, co29, eo29⟩ := Kd.R_slice HO128.out; subst eo29) | ((with_reducible refine gate_callee (f := 19) rfl ?_); refine goesL_ (some 76) rfl rfl Try.func19 (by kernel_rfl) rfl #[.slice Ao29 t126.length co29, .func (.func 20) #[] #[]] rfl (by (try simp only [List.map_toArray, List.map_cons, List.map_nil]); first | done | rfl | (simp only [List.length_drop, List.length_take]; rfl)) ?_; (with_reducible refine (serinetteshadow_AnyFarSolve.calls kj17 _ _ t126 false _ ?side1 ?side2 A22.out).mono ?_); (case side1 => repeat (first | exact (Kd.R_reads' HO128.out).2.2 | (with_reducible refine Kd.C_alloc ?_ _) | (with_reducible refine Kd.C_drewN ?_ _) | (with_reducible refine Kd.C_drew ?_))); (case side2 => exact (Kd.R_reads' HO128.out).2.1); rintro e w' ⟨rfl, ⟨nd, rfl⟩⟩; refine ⟨_, rfl, ?_⟩) | ((with_reducible refine gate_builtin (b := .append) (xs := #[.tmp 77, .tmp 79]) rfl ?_); (try (refine gate_guard (by rfl) ?_; dsimp only)); at_builtin; refine Kd.S_append (Kd.slice 3 (Kd.int .i64)) (w0 := w9) w9.heap.size rfl (.tmp 77) (.tmp 79) 26 22 (.slice none 0 0) 24 rfl Try.underlying26 info22 rfl (by decide) (by omega) u7 x7_1 t126 [.slice Ao29 t126.length co29] (fun _ => True) (fun k_ => some k_ = (.slice Ao29 t126.length co29 : Value).ownBlock) rfl rfl ?aP (fun k_ hk_ => ((Kd.R_mono (ok' := fun k_ => ((fun _ => True)) k_ ∧ some k_ ≠ (u7 : Value).ownBlock) (Kd.R_apart' (HO128.out) (Kd.S_typed HO_7.out) (by decide)) (fun k_ hk => ⟨trivial, hk.2⟩))).1 k_ hk_.symm) ?aF ?aO ?aB ?aS ?aL ?_; (case aP => exact Kd.M_row (Kd.R_mono (Kd.R_tight rfl (Kd.R_mono (ok' := fun k_ => ((fun _ => True)) k_ ∧ some k_ ≠ (u7 : Value).ownBlock) (Kd.R_apart' (HO128.out) (Kd.S_typed HO_7.out) (by decide)) (fun k_ hk => ⟨trivial, hk.2⟩))) (fun _ h_ => h_))); (case aB => exact (by repeat (first | (with_reducible first | exact HB9.out | apply below_alloc | apply pw_below_drewN | apply below_drew1) | exact HB9.out))); (case aF => exact (fun _ _ => trivial)); (case aO => exact (by (with_reducible repeat (first | apply Kd.S_alloc | apply Kd.S_drewN | apply Kd.S_drew)); exact Kd.S_mono HO_7.out (fun k_ hk => ⟨trivial, fun e_ => hk.2 e_⟩))); (case aS => exact (below_size (by repeat (first | (with_reducible first | exact HB9.out | apply below_alloc | apply pw_below_drewN | apply below_drew1) | exact HB9.out)))); (case aL => have := LMc26.out; omega); intro v131 w30 ho hb hg hat; rw [← Ny130.out] at ho; have n0_ := Aside0.mk (Kd.R_over' (by (with_reducible repeat (first | apply Kd.R_alloc | apply Kd.R_drewN | apply Kd.R_drew)); exact HO_6.out) (Kd.S_typed (by (with_reducible repeat (first | apply Kd.S_alloc | apply Kd.S_drewN | apply Kd.S_drew)); exact HO_7.out)) (by decide) hg); have n1_ := Aside0.mk (hb); have n2_ := Aside0.mk (ho); have nk_ := Aside0.mk (Kd.R_over' (by (with_reducible repeat (first | apply Kd.R_alloc | apply Kd.R_drewN | apply Kd.R_drew)); exact HO128.out) (Kd.S_typed (by (with_reducible repeat (first | apply Kd.S_alloc | apply Kd.S_drewN | apply Kd.S_drew)); exact HO_7.out)) (by decide) hg); clear HO_6; clear HB9; clear HO_7; clear HO128; have HO_6 := n0_; have HO128 := nk_; clear nk_; have HB9 := n1_; have HO132 := n2_; clear n0_ n1_ n2_; clear ho hb hg hat))
                                            (try rw [Exit.noGoto_ret])
                                            go_ret
                                            exact ⟨_, by first | rfl | (simp [errW_none, errW_some] <;> rfl) | (simp [*, errW_none, errW_some] <;> rfl), Kd.S_lower (base := w9.heap.size) (by (with_reducible repeat (first | apply Kd.S_alloc | apply Kd.S_drewN | apply Kd.S_drew)); exact HO132.out) (below_size HB0.out), below_step HB0.out (by repeat (first | (with_reducible first | exact HB9.out | apply below_alloc | apply pw_below_drewN | apply below_drew1) | exact HB9.out))⟩
                                          · rw [if_neg c27] at H
                                            have c27b0 : decide ((wrap64 (x5_1 - ((wrap64 (((wrap64 (x5_1 * (wrap64 (Int.tdiv x9_3 x5_1)))) / 1048576) * (wrap64 (Int.tdiv x9_3 x5_1)))) / 1048576))) < 1) = false := decide_eq_false c27
                                            clear c27
                                            have H' := Aside0.mk H
                                            clear H
                                            go_wp2_with (first | ((with_reducible refine gate_callee (f := 18) rfl ?_); refine goesL_ (some 74) rfl rfl Try.func18 (by kernel_rfl) rfl #[.slice Ao10 x6_1.length co10, .int .i64 (wrap64 (Int.tdiv x9_3 x5_1))] rfl (by (try simp only [List.map_toArray, List.map_cons, List.map_nil]); first | done | rfl | (simp only [List.length_drop, List.length_take]; rfl)) ?_; (with_reducible refine (solve_next.calls kj17 _ _ x6_1 (wrap64 (Int.tdiv x9_3 x5_1)) t126 _ ?side1 ?side2 A21.out).mono ?_); (case side1 => repeat (first | exact (Kd.R_reads' HO_6.out).2.2 | (with_reducible refine Kd.C_alloc ?_ _) | (with_reducible refine Kd.C_drewN ?_ _) | (with_reducible refine Kd.C_drew ?_))); (case side2 => exact (Kd.R_reads' HO_6.out).2.1); rintro e w31 ⟨v127, rfl, ho0, hb⟩; refine ⟨_, rfl, ?_⟩; have n0_ := Aside0.mk (Kd.R_elder' (by (with_reducible repeat (first | apply Kd.R_alloc | apply Kd.R_drewN | apply Kd.R_drew)); exact HO_6.out) (Kd.R_base ho0) hb); have n1_ := Aside0.mk (Kd.S_elder' (by (with_reducible repeat (first | apply Kd.S_alloc | apply Kd.S_drewN | apply Kd.S_drew)); exact HO_7.out) (Kd.R_base ho0) hb); have n2_ := Aside0.mk (Kd.R_lower (Kd.R_new' ho0 (Kd.R_lt (by (with_reducible repeat (first | apply Kd.R_alloc | apply Kd.R_drewN | apply Kd.R_drew)); exact HO_6.out))) (below_size (by repeat (first | (with_reducible first | exact HB9.out | apply below_alloc | apply pw_below_drewN | apply below_drew1) | exact HB9.out)))); have n3_ := Aside0.mk (below_step (by repeat (first | (with_reducible first | exact HB9.out | apply below_alloc | apply pw_below_drewN | apply below_drew1) | exact HB9.out)) hb); clear HO_6; clear HO_7; clear HB9; have HO_6 := n0_; have HO_7 := n1_; have HO128 := n2_; have HB9 := n3_; clear n0_ n1_ n2_ n3_; (try clear hb); (try clear hb2); (try clear hk); (try clear hi); (try clear ho0); obtain ⟨Ao32, co32, eo32⟩ := Kd.R_slice HO128.out; subst eo32) | ((with_reducible refine gate_callee (f := 19) rfl ?_); refine goesL_ (some 76) rfl rfl Try.func19 (by kernel_rfl) rfl #[.slice Ao32 t126.length co32, .func (.func 20) #[] #[]] rfl (by (try simp only [List.map_toArray, List.map_cons, List.map_nil]); first | done | rfl | (simp only [List.length_drop, List.length_take]; rfl)) ?_; (with_reducible refine (serinetteshadow_AnyFarSolve.calls kj17 _ _ t126 false _ ?side1 ?side2 A22.out).mono ?_); (case side1 => repeat (first | exact (Kd.R_reads' HO128.out).2.2 | (with_reducible refine Kd.C_alloc ?_ _) | (with_reducible refine Kd.C_drewN ?_ _) | (with_reducible refine Kd.C_drew ?_))); (case side2 => exact (Kd.R_reads' HO128.out).2.1); rintro e w' ⟨rfl, ⟨nd, rfl⟩⟩; refine ⟨_, rfl, ?_⟩) | ((with_reducible refine gate_builtin (b := .append) (xs := #[.tmp 77, .tmp 79]) rfl ?_); (try (refine gate_guard (by rfl) ?_; dsimp only)); at_builtin; refine Kd.S_append (Kd.slice 3 (Kd.int .i64)) (w0 := w9) w9.heap.size rfl (.tmp 77) (.tmp 79) 26 22 (.slice none 0 0) 24 rfl Try.underlying26 info22 rfl (by decide) (by omega) u7 x7_1 t126 [.slice Ao32 t126.length co32] (fun _ => True) (fun k_ => some k_ = (.slice Ao32 t126.length co32 : Value).ownBlock) rfl rfl ?aP (fun k_ hk_ => ((Kd.R_mono (ok' := fun k_ => ((fun _ => True)) k_ ∧ some k_ ≠ (u7 : Value).ownBlock) (Kd.R_apart' (HO128.out) (Kd.S_typed HO_7.out) (by decide)) (fun k_ hk => ⟨trivial, hk.2⟩))).1 k_ hk_.symm) ?aF ?aO ?aB ?aS ?aL ?_; (case aP => exact Kd.M_row (Kd.R_mono (Kd.R_tight rfl (Kd.R_mono (ok' := fun k_ => ((fun _ => True)) k_ ∧ some k_ ≠ (u7 : Value).ownBlock) (Kd.R_apart' (HO128.out) (Kd.S_typed HO_7.out) (by decide)) (fun k_ hk => ⟨trivial, hk.2⟩))) (fun _ h_ => h_))); (case aB => exact (by repeat (first | (with_reducible first | exact HB9.out | apply below_alloc | apply pw_below_drewN | apply below_drew1) | exact HB9.out))); (case aF => exact (fun _ _ => trivial)); (case aO => exact (by (with_reducible repeat (first | apply Kd.S_alloc | apply Kd.S_drewN | apply Kd.S_drew)); exact Kd.S_mono HO_7.out (fun k_ hk => ⟨trivial, fun e_ => hk.2 e_⟩))); (case aS => exact (below_size (by repeat (first | (with_reducible first | exact HB9.out | apply below_alloc | apply pw_below_drewN | apply below_drew1) | exact HB9.out)))); (case aL => have := LMc26.out; omega); intro v131 w33 ho hb hg hat; rw [← Ny130.out] at ho; have n0_ := Aside0.mk (Kd.R_over' (by (with_reducible repeat (first | apply Kd.R_alloc | apply Kd.R_drewN | apply Kd.R_drew)); exact HO_6.out) (Kd.S_typed (by (with_reducible repeat (first | apply Kd.S_alloc | apply Kd.S_drewN | apply Kd.S_drew)); exact HO_7.out)) (by decide) hg); have n1_ := Aside0.mk (hb); have n2_ := Aside0.mk (ho); have nk_ := Aside0.mk (Kd.R_over' (by (with_reducible repeat (first | apply Kd.R_alloc | apply Kd.R_drewN | apply Kd.R_drew)); exact HO128.out) (Kd.S_typed (by (with_reducible repeat (first | apply Kd.S_alloc | apply Kd.S_drewN | apply Kd.S_drew)); exact HO_7.out)) (by decide) hg); clear HO_6; clear HB9; clear HO_7; clear HO128; have HO_6 := n0_; have HO128 := nk_; clear nk_; have HB9 := n1_; have HO132 := n2_; clear n0_ n1_ n2_; clear ho hb hg hat))
                                            go_roundg kj17
                                            case measure => have := HK1.out; have := HJ3.out; have := HK3.out; have := HJ17.out; omega
                                            case rel => exact ⟨(wrap64 (x5_1 - ((wrap64 (((wrap64 (x5_1 * (wrap64 (Int.tdiv x9_3 x5_1)))) / 1048576) * (wrap64 (Int.tdiv x9_3 x5_1)))) / 1048576))), (t126), (y130), (wrap64 (x8_1 + 1)), (by first | rfl | (simp; done) | (simp only [i64_w, i32_w]; done) | (simp [*]; done) | (simp only [i64_w, i32_w]; first | rfl | (simp; done) | (simp [*]; done))), (by first | rfl | (simp; done) | (simp only [i64_w, i32_w]; done) | (simp [*]; done) | (simp only [i64_w, i32_w]; first | rfl | (simp; done) | (simp [*]; done))), H', ⟨by have := HK1.out; have := HJ3.out; have := HK3.out; have := HJ17.out; omega⟩, ⟨by (with_reducible repeat (first | apply Kd.R_alloc | apply Kd.R_drewN | apply Kd.R_drew)); first | exact HO128.out | exact Kd.R_mono HO128.out (fun _ _ => trivial)⟩, ⟨by (with_reducible repeat (first | apply Kd.S_alloc | apply Kd.S_drewN | apply Kd.S_drew)); first | exact HO132.out | exact Kd.R_mono HO132.out (fun _ _ => trivial)⟩, ⟨by repeat (first | (with_reducible first | exact HB9.out | apply below_alloc | apply pw_below_drewN | apply below_drew1) | exact HB9.out)⟩⟩
                                        · rw [if_neg c26] at H
                                          exact absurd H (by simp)
                      · rw [if_neg c9] at H
                        exact absurd H (by simp)
                    · rw [if_neg c8] at H
                      exact absurd H (by simp)
                  · replace c7 := Bool.eq_false_iff.mpr c7
                    subst c7
                    have H1 : (some x7_1) = some t137 := by rw [if_neg (show ¬ (false = true) by decide)] at H; exact H
                    clear H
                    have H := H1
                    clear H1
                    obtain rfl := Option.some.inj H
                    go_wp2
                    (try rw [Exit.noGoto_ret])
                    go_ret
                    exact ⟨_, by first | rfl | (simp [errW_none, errW_some] <;> rfl) | (simp [*, errW_none, errW_some] <;> rfl), Kd.S_lower (base := w9.heap.size) (by (with_reducible repeat (first | apply Kd.S_alloc | apply Kd.S_drewN | apply Kd.S_drew)); exact HO_7.out) (below_size HB0.out), below_step HB0.out (by repeat (first | (with_reducible first | exact HB9.out | apply below_alloc | apply pw_below_drewN | apply below_drew1) | exact HB9.out))⟩
        · rw [if_neg c3] at H
          exact absurd H (by simp)

end Go.Proofs.Ythcognclnmcbhaa.PA
