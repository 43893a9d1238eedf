/- Each Go function named below comes to what the plain Lean function of its name answers, wherever that answers (rounds enough, no panic, no row too long); texts by a program of this session by way of the kit's print.py, what that does not take by hand. Condition: what is read lies in memory as each theorem says. -/
import Derived.Test.YtfjefocjplljcaaPAx0
import Derived.Test.YtfjefocjplljcaaPAx3
namespace Go.Proofs.Ytfjefocjplljcaa.PA
open Go.RowKit Go.Proofs.YtfjefocjplljcaaW.PrintWords Go.Proofs.YtfjefocjplljcaaW.PrintLast Go.Proofs.YtfjefocjplljcaaW.PrintMore
attribute [local go_sem] max2_int min2_int max_two min_two max_three min_three max_four min_four   -- for this text's walks alone
set_option linter.unusedVariables false
set_option linter.unusedSimpArgs false

/-! ### serinetteref06_Sample: function 37 -/
mutual
def serinetteref06_Sample.j0 : Nat → Int → Int → Option (List Int)
  | 0, _, _ => none
  | k + 1, x0, x1 => serinetteref06_Sample.l0 k x0 x1 ([] : List Int) 0
def serinetteref06_Sample.l0 : Nat → Int → Int → List Int → Int → Option (List Int)
  | 0, _, _, _, _ => none
  | k + 1, x0, x1, x6, x7 => if x7 < x1 then (if x6.length < 140737488355328 then (serinetteref06_Sample.l0 k (wrap64 (Int.tdiv x0 256)) x1 (x6 ++ [(Int.tmod x0 256) % 256]) (wrap64 (x7 + 1))) else (none)) else (some x6)
end
def serinetteref06_Sample.f (k : Nat) (a0 : Int) (a1 : Int) : Option (List Int) := (serinetteref06_Power.f k (wrap64 (8 * a1))).bind fun t205 => (if a0 < 0 then (serinetteref06_Sample.j0 k (wrap64 (a0 + t205)) a1) else (serinetteref06_Sample.j0 k a0 a1))
theorem serinetteref06_Sample.mono_l : ∀ k, (∀ y0 y1, LeO (serinetteref06_Sample.j0 k y0 y1) (serinetteref06_Sample.j0 (k + 1) y0 y1)) ∧ (∀ y0 y1 y2 y3, LeO (serinetteref06_Sample.l0 k y0 y1 y2 y3) (serinetteref06_Sample.l0 (k + 1) y0 y1 y2 y3))
  | 0 => ⟨fun _ _ r h => by simp [serinetteref06_Sample.j0] at h, fun _ _ _ _ r h => by simp [serinetteref06_Sample.l0] at h⟩
  | k + 1 => by
    obtain ⟨ih0, ih1⟩ := serinetteref06_Sample.mono_l k
    refine ⟨?_, ?_⟩
    · intro y0 y1
      unfold serinetteref06_Sample.j0
      repeat' first
      | (with_reducible exact ih0 _ _)
      | (with_reducible exact ih1 _ _ _ _)
      | (with_reducible exact serinetteref06_Power.mono _ _)
      | (with_reducible exact LeO.refl _)
      | (with_reducible exact LeO.none _)
      | (with_reducible refine LeO.ite ?_ ?_)
      | (with_reducible refine LeO.bind ?_ (fun _ => ?_))
      | exact ih0 _ _
      | exact ih1 _ _ _ _
      | exact serinetteref06_Power.mono _ _
      | exact LeO.none _
      | refine LeO.ite ?_ ?_
      | refine LeO.bind ?_ (fun _ => ?_)
    · intro y0 y1 y2 y3
      unfold serinetteref06_Sample.l0
      repeat' first
      | (with_reducible exact ih0 _ _)
      | (with_reducible exact ih1 _ _ _ _)
      | (with_reducible exact serinetteref06_Power.mono _ _)
      | (with_reducible exact LeO.refl _)
      | (with_reducible exact LeO.none _)
      | (with_reducible refine LeO.ite ?_ ?_)
      | (with_reducible refine LeO.bind ?_ (fun _ => ?_))
      | exact ih0 _ _
      | exact ih1 _ _ _ _
      | exact serinetteref06_Power.mono _ _
      | exact LeO.none _
      | refine LeO.ite ?_ ?_
      | refine LeO.bind ?_ (fun _ => ?_)
theorem serinetteref06_Sample.mono : ∀ a0 a1 k, LeO (serinetteref06_Sample.f k a0 a1) (serinetteref06_Sample.f (k + 1) a0 a1) := by
  intro a0 a1 k
  obtain ⟨ih0, ih1⟩ := serinetteref06_Sample.mono_l k
  unfold serinetteref06_Sample.f
  repeat' first
      | (with_reducible exact ih0 _ _)
      | (with_reducible exact ih1 _ _ _ _)
      | (with_reducible exact serinetteref06_Power.mono _ _)
      | (with_reducible exact LeO.refl _)
      | (with_reducible exact LeO.none _)
      | (with_reducible refine LeO.ite ?_ ?_)
      | (with_reducible refine LeO.bind ?_ (fun _ => ?_))
      | exact ih0 _ _
      | exact ih1 _ _ _ _
      | exact serinetteref06_Power.mono _ _
      | exact LeO.none _
      | refine LeO.ite ?_ ?_
      | refine LeO.bind ?_ (fun _ => ?_)
set_option maxHeartbeats 8000000 in
set_option maxRecDepth 100000 in
theorem serinetteref06_Sample.calls (k : Nat) (a0 : Int) (a1 : Int) (r : List Int) (w : World) (h : serinetteref06_Sample.f k a0 a1 = some r) :
    Calls Try.prog 37 #[.int .i64 a0, .int .i64 a1] w fun e w' => ∃ v0_ : Value, e = .returned (v0_) ∧ Kd.R (Kd.int .u8) 5 w' w.heap.size (fun _ => True) v0_ r ∧ Below w.heap.size w w' := by
  have HB := Aside0.mk (Below.refl w.heap.size w)
  have H : ((serinetteref06_Power.f k (wrap64 (8 * a1))).bind fun t205 => (if a0 < 0 then (serinetteref06_Sample.j0 k (wrap64 (a0 + t205)) a1) else (serinetteref06_Sample.j0 k a0 a1))) = some r := h
  clear h
  replace H := Option.bind_eq_some_iff.mp H
  obtain ⟨t205, A30, H⟩ := H
  replace H : (if a0 < 0 then (serinetteref06_Sample.j0 k (wrap64 (a0 + t205)) a1) else (serinetteref06_Sample.j0 k a0 a1)) = some r := H
  have A3 := Aside0.mk A30
  clear A30
  have HC4 := Aside0.mk H
  clear H
  go_enter Try.func37, Try.ntmps37
  go_upto_if 12 with (first | ((with_reducible refine gate_callee (f := 34) rfl ?_); refine goesL_ (some 10) rfl rfl Try.func34 (by kernel_rfl) rfl #[.int .i64 (wrap64 (8 * a1))] rfl (by (try simp only [List.map_toArray, List.map_cons, List.map_nil]); first | done | rfl | (simp only [List.length_drop, List.length_take]; rfl)) ?_; (with_reducible refine (serinetteref06_Power.calls k (wrap64 (8 * a1)) t205 _ A3.out).mono ?_); rintro e w' ⟨rfl, ⟨nd, rfl⟩⟩; refine ⟨_, rfl, ?_⟩))
  (try simp only [Act.put, List.setIfInBounds_toArray, List.set_cons_zero, List.set_cons_succ])
  go_cut [0] (fun v0 wc => ∃ (kq : Nat) (x0_3 : Int), v0 = .int .i64 x0_3 ∧ Aside0 (serinetteref06_Sample.j0 kq x0_3 a1 = some r) ∧ Aside0 (kq ≤ k) ∧ Aside0 (Below w.heap.size w wc))
  case first =>
    have H := HC4.out
    clear HC4
    by_cases c5 : a0 < 0
    · rw [if_pos c5] at H
      have c5b0 : decide (a0 < 0) = true := decide_eq_true c5
      clear c5
      (first | rw [c5b0] | (simp only [i64_w, i32_w]; rw [c5b0]) | skip)
      have H' := Aside0.mk H
      clear H
      go_wp2
      go_meet
      case rel => exact ⟨_, (wrap64 (a0 + t205)), (by first | rfl | (simp; done) | (simp only [i64_w, i32_w]; done) | (simp [*]; done) | (simp only [i64_w, i32_w]; first | rfl | (simp; done) | (simp [*]; done))), H', ⟨by first | omega | exact Nat.le_refl _⟩, ⟨by repeat (first | (with_reducible first | exact HB.out | apply below_alloc | apply pw_below_drewN | apply below_drew1) | exact HB.out)⟩⟩
    · rw [if_neg c5] at H
      have c5b0 : decide (a0 < 0) = false := decide_eq_false c5
      clear c5
      (first | rw [c5b0] | (simp only [i64_w, i32_w]; rw [c5b0]) | skip)
      have H' := Aside0.mk H
      clear H
      go_wp2
      go_meet
      case rel => exact ⟨_, (a0), (by first | rfl | (simp; done) | (simp only [i64_w, i32_w]; done) | (simp [*]; done) | (simp only [i64_w, i32_w]; first | rfl | (simp; done) | (simp [*]; done))), H', ⟨by first | omega | exact Nat.le_refl _⟩, ⟨by repeat (first | (with_reducible first | exact HB.out | apply below_alloc | apply pw_below_drewN | apply below_drew1) | exact HB.out)⟩⟩
  case rest =>
    clear HC4
    try clear p2
    try clear c3
    try clear c5
    try clear c5b0
    obtain ⟨kq, x0_3, rfl, HA, HJ3, HB⟩ := hcut
    cases kq with
    | zero => exact absurd HA.out (by simp [serinetteref06_Sample.j0])
    | succ kj3 =>
      have H := HA.out
      clear HA
      simp only [serinetteref06_Sample.j0] at H
      have H' := Aside0.mk H
      clear H
      go_wp2
      go_loopg [0, 6, 7] kj3 (fun kq v0 v6 v7 w' => ∃ (x0_2 : Int) (x6_2 : List Int) (x7_2 : Int), v0 = .int .i64 x0_2 ∧ v7 = .int .i64 x7_2 ∧ Aside0 (serinetteref06_Sample.l0 kq x0_2 a1 x6_2 x7_2 = some r) ∧ Aside0 (kq ≤ kj3) ∧ Aside0 (Kd.R (Kd.int .u8) 5 w' w.heap.size (fun _ => True) v6 x6_2) ∧ Aside0 (Below w.heap.size w w'))
      case atStart => exact ⟨(x0_3), (([] : List Int)), (0), (by first | rfl | (simp; done) | (simp only [i64_w, i32_w]; done) | (simp [*]; done) | (simp only [i64_w, i32_w]; first | rfl | (simp; done) | (simp [*]; done))), (by first | rfl | (simp; done) | (simp only [i64_w, i32_w]; done) | (simp [*]; done) | (simp only [i64_w, i32_w]; first | rfl | (simp; done) | (simp [*]; done))), H', ⟨Nat.le_refl _⟩, ⟨by first | exact Kd.R_nil _ _ _ _ _ | exact Kd.N_nil _ _ _ _ _ | exact Kd.V_nil _ _ _ _ _ | exact Kd.Q_nil _ _ _ _ _ | exact Kd.S_nil _ _ _ _ _⟩, ⟨by repeat (first | (with_reducible first | exact HB.out | apply below_alloc | apply pw_below_drewN | apply below_drew1) | exact HB.out)⟩⟩
      case round =>
        clear H'
        try clear p2
        try clear c3
        try clear c5
        try clear c5b0
        try clear p2
        obtain ⟨x0_2, x6_2, x7_2, rfl, rfl, HA, HK2, HO_6, HB⟩ := hrel
        cases gk with
        | zero => exact absurd HA.out (by simp [serinetteref06_Sample.l0])
        | succ k2 =>
          have H := HA.out
          clear HA
          simp only [serinetteref06_Sample.l0] at H
          by_cases c6 : x7_2 < a1
          · rw [if_pos c6] at H
            have c6b0 : decide (x7_2 < a1) = true := decide_eq_true c6
            clear c6
            by_cases c7 : x6_2.length < 140737488355328
            · rw [if_pos c7] at H
              have LMc7 := Aside0.mk c7
              clear c7
              obtain ⟨y206, hy206⟩ : ∃ y_ : List Int, y_ = (x6_2 ++ [(Int.tmod x0_2 256) % 256]) := ⟨_, rfl⟩
              replace H : (serinetteref06_Sample.l0 k2 (wrap64 (Int.tdiv x0_2 256)) a1 y206 (wrap64 (x7_2 + 1))) = some r := by first | (rw [hy206]; with_reducible exact H) | (have H2_ := (Option.bind_some _ _).symm.trans H; rw [hy206]; with_reducible exact H2_) | (have H2_ := (Option.bind_some _ _).symm.trans H; with_reducible exact H2_) | with_reducible exact H | (rw [hy206]; exact H) | exact H
              have Ny206 := Aside0.mk hy206
              clear hy206
              have H' := Aside0.mk H
              clear H
              go_wp2_with (first | ((with_reducible refine gate_builtin (b := .append) (xs := #[.tmp 21, .tmp 25]) rfl ?_); at_builtin; refine Kd.R_append (Kd.int .u8) (w0 := w) w.heap.size rfl (.tmp 21) (.tmp 25) 34 5 (.int .u8 0) 1 rfl Try.underlying34 info5 rfl (by decide) (by omega) u6 x6_2 ((Int.tmod x0_2 256) % 256) [.int .u8 ((Int.tmod x0_2 256) % 256)] (fun _ => True) (fun _ => False) rfl rfl ?aP (fun _ hk => hk.elim) ?aF ?aO ?aB ?aS ?aL ?_; (case aP => exact rfl); (case aB => exact (by repeat (first | (with_reducible first | exact HB.out | apply below_alloc | apply pw_below_drewN | apply below_drew1) | exact HB.out))); (case aF => exact (fun _ _ => trivial)); (case aO => exact (by (with_reducible repeat (first | apply Kd.R_alloc | apply Kd.R_drewN | apply Kd.R_drew)); exact HO_6.out)); (case aS => exact (below_size (by repeat (first | (with_reducible first | exact HB.out | apply below_alloc | apply pw_below_drewN | apply below_drew1) | exact HB.out)))); (case aL => have := LMc7.out; omega); intro v207 w8 ho hb hg hat; rw [← Ny206.out] at ho; have n0_ := Aside0.mk (hb); have n1_ := Aside0.mk (ho); clear HB; clear HO_6; have HB := n0_; have HO208 := n1_; clear n0_ n1_; clear ho hb hg hat))
              go_roundg k2
              case measure => have := HJ3.out; have := HK2.out; omega
              case rel => exact ⟨(wrap64 (Int.tdiv x0_2 256)), (y206), (wrap64 (x7_2 + 1)), (by first | rfl | (simp; done) | (simp only [i64_w, i32_w]; done) | (simp [*]; done) | (simp only [i64_w, i32_w]; first | rfl | (simp; done) | (simp [*]; done))), (by first | rfl | (simp; done) | (simp only [i64_w, i32_w]; done) | (simp [*]; done) | (simp only [i64_w, i32_w]; first | rfl | (simp; done) | (simp [*]; done))), H', ⟨by have := HJ3.out; have := HK2.out; omega⟩, ⟨by (with_reducible repeat (first | apply Kd.R_alloc | apply Kd.R_drewN | apply Kd.R_drew)); exact HO208.out⟩, ⟨by repeat (first | (with_reducible first | exact HB.out | apply below_alloc | apply pw_below_drewN | apply below_drew1) | exact HB.out)⟩⟩
            · rw [if_neg c7] at H
              exact absurd H (by simp)
          · rw [if_neg c6] at H
            have c6b0 : decide (x7_2 < a1) = false := decide_eq_false c6
            clear c6
            obtain rfl := Option.some.inj H
            go_wp2
            go_ret
            exact ⟨_, by first | rfl | (simp [errW_none, errW_some] <;> rfl) | (simp [*, errW_none, errW_some] <;> rfl), by (with_reducible repeat (first | apply Kd.R_alloc | apply Kd.R_drewN | apply Kd.R_drew)); exact HO_6.out, by repeat (first | (with_reducible first | exact HB.out | apply below_alloc | apply pw_below_drewN | apply below_drew1) | exact HB.out)⟩

end Go.Proofs.Ytfjefocjplljcaa.PA
