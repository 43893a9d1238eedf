/- Each Go function named below comes to what the plain Lean function of its name answers, wherever that answers (rounds enough, no panic, no row too long); texts by a program of this session by way of the kit's print.py, what that does not take by hand. Condition: what is read lies in memory as each theorem says. -/
import Derived.Test.YtpoigjkkcehpdaaPAx0
import Derived.Test.YtpoigjkkcehpdaaPAx9
import Derived.Test.YtpoigjkkcehpdaaPAx10
import Derived.Test.YtpoigjkkcehpdaaPAx12
namespace Go.Proofs.Ytpoigjkkcehpdaa.PA
open Go.RowKit Go.Proofs.YtpoigjkkcehpdaaW.PrintWords Go.Proofs.YtpoigjkkcehpdaaW.PrintLast Go.Proofs.YtpoigjkkcehpdaaW.PrintMore
attribute [local go_sem] max2_int min2_int max_two min_two max_three min_three max_four min_four   -- for this text's walks alone
set_option linter.unusedVariables false
set_option linter.unusedSimpArgs false

/-! ### serinetteref02_Size: function 45 -/
def serinetteref02_Size.f (k : Nat) (a0 : Int) (a1 : Int) : Option (Int) := (serinetteref02_Near.f a0).bind fun t185 => (if t185 = true then ((serinetteref02_High.f k a0 a1).bind fun t186 => ((serinetteref02_K.f a1).bind fun t187 => (some (wrap64 ((wrap64 ((wrap64 (t186)) + 1)) + t187))))) else (some (-1)))
theorem serinetteref02_Size.mono : ∀ a0 a1 k, LeO (serinetteref02_Size.f k a0 a1) (serinetteref02_Size.f (k + 1) a0 a1) := by
  intro a0 a1 k
  unfold serinetteref02_Size.f
  repeat' first
      | (with_reducible exact serinetteref02_High.mono _ _ _)
      | (with_reducible exact LeO.refl _)
      | (with_reducible exact LeO.none _)
      | (with_reducible refine LeO.ite ?_ ?_)
      | (with_reducible refine LeO.bind ?_ (fun _ => ?_))
      | exact serinetteref02_High.mono _ _ _
      | exact LeO.none _
      | refine LeO.ite ?_ ?_
      | refine LeO.bind ?_ (fun _ => ?_)
set_option maxHeartbeats 8000000 in
set_option maxRecDepth 100000 in
theorem serinetteref02_Size.calls (k : Nat) (a0 : Int) (a1 : Int) (r : Int) (w : World) (h : serinetteref02_Size.f k a0 a1 = some r) :
    Calls Try.prog 45 #[.int .i64 a0, .int .i64 a1] w fun e w' => e = .returned (.int .i64 r) ∧ Below w.heap.size w w' := by
  have HB := Aside0.mk (Below.refl w.heap.size w)
  have H : ((serinetteref02_Near.f a0).bind fun t185 => (if t185 = true then ((serinetteref02_High.f k a0 a1).bind fun t186 => ((serinetteref02_K.f a1).bind fun t187 => (some (wrap64 ((wrap64 ((wrap64 (t186)) + 1)) + t187))))) else (some (-1)))) = some r := h
  clear h
  replace H := Option.bind_eq_some_iff.mp H
  obtain ⟨t185, A30, H⟩ := H
  replace H : (if t185 = true then ((serinetteref02_High.f k a0 a1).bind fun t186 => ((serinetteref02_K.f a1).bind fun t187 => (some (wrap64 ((wrap64 ((wrap64 (t186)) + 1)) + t187))))) else (some (-1))) = some r := H
  have A3 := Aside0.mk A30
  clear A30
  by_cases c4 : t185 = true
  · subst c4
    have H1 : ((serinetteref02_High.f k a0 a1).bind fun t186 => ((serinetteref02_K.f a1).bind fun t187 => (some (wrap64 ((wrap64 ((wrap64 (t186)) + 1)) + t187))))) = some r := by rw [if_pos rfl] at H; exact H
    clear H
    have H := H1
    clear H1
    replace H := Option.bind_eq_some_iff.mp H
    obtain ⟨t186, A50, H⟩ := H
    replace H : ((serinetteref02_K.f a1).bind fun t187 => (some (wrap64 ((wrap64 ((wrap64 (t186)) + 1)) + t187)))) = some r := H
    have A5 := Aside0.mk A50
    clear A50
    replace H := Option.bind_eq_some_iff.mp H
    obtain ⟨t187, A60, H⟩ := H
    replace H : (some (wrap64 ((wrap64 ((wrap64 (t186)) + 1)) + t187))) = some r := H
    have A6 := Aside0.mk A60
    clear A60
    obtain rfl := Option.some.inj H
    go_enter Try.func45, Try.ntmps45
    go_wp2_with (first | ((with_reducible refine gate_callee (f := 22) rfl ?_); refine goesL_ (some 6) rfl rfl Try.func22 (by kernel_rfl) rfl #[.int .i64 a0] rfl (by (try simp only [List.map_toArray, List.map_cons, List.map_nil]); first | done | rfl | (simp only [List.length_drop, List.length_take]; rfl)) ?_; (with_reducible refine (serinetteref02_Near.calls a0 true _ A3.out).mono ?_); rintro e w' ⟨rfl, ⟨nd, rfl⟩⟩; refine ⟨_, rfl, ?_⟩) | ((with_reducible refine gate_callee (f := 47) rfl ?_); refine goesL_ (some 10) rfl rfl Try.func47 (by kernel_rfl) rfl #[.int .i64 a0, .int .i64 a1] rfl (by (try simp only [List.map_toArray, List.map_cons, List.map_nil]); first | done | rfl | (simp only [List.length_drop, List.length_take]; rfl)) ?_; (with_reducible refine (serinetteref02_High.calls k a0 a1 t186 _ A5.out).mono ?_); rintro e w7 ⟨rfl, hb⟩; refine ⟨_, rfl, ?_⟩; have n0_ := Aside0.mk (below_step (by repeat (first | (with_reducible first | exact HB.out | apply below_alloc | apply pw_below_drewN | apply below_drew1) | exact HB.out)) hb); clear HB; have HB := n0_; clear n0_; (try clear hb); (try clear hb2); (try clear hk); (try clear hi)) | ((with_reducible refine gate_callee (f := 48) rfl ?_); refine goesL_ (some 14) rfl rfl Try.func48 (by kernel_rfl) rfl #[.int .i64 a1] rfl (by (try simp only [List.map_toArray, List.map_cons, List.map_nil]); first | done | rfl | (simp only [List.length_drop, List.length_take]; rfl)) ?_; (with_reducible refine (serinetteref02_K.calls a1 t187 _ A6.out).mono ?_); rintro e w8 ⟨rfl, hb⟩; refine ⟨_, rfl, ?_⟩; have n0_ := Aside0.mk (below_step (by repeat (first | (with_reducible first | exact HB.out | apply below_alloc | apply pw_below_drewN | apply below_drew1) | exact HB.out)) hb); clear HB; have HB := n0_; clear n0_; (try clear hb); (try clear hb2); (try clear hk); (try clear hi)))
    go_ret
    exact ⟨by first | rfl | (simp [errW_none, errW_some] <;> rfl) | (simp [*, errW_none, errW_some] <;> rfl), by repeat (first | (with_reducible first | exact HB.out | apply below_alloc | apply pw_below_drewN | apply below_drew1) | exact HB.out)⟩
  · replace c4 := Bool.eq_false_iff.mpr c4
    subst c4
    have H1 : (some (-1)) = some r := by rw [if_neg (show ¬ (false = true) by decide)] at H; exact H
    clear H
    have H := H1
    clear H1
    obtain rfl := Option.some.inj H
    go_enter Try.func45, Try.ntmps45
    go_wp2_with (first | ((with_reducible refine gate_callee (f := 22) rfl ?_); refine goesL_ (some 6) rfl rfl Try.func22 (by kernel_rfl) rfl #[.int .i64 a0] rfl (by (try simp only [List.map_toArray, List.map_cons, List.map_nil]); first | done | rfl | (simp only [List.length_drop, List.length_take]; rfl)) ?_; (with_reducible refine (serinetteref02_Near.calls a0 false _ A3.out).mono ?_); rintro e w' ⟨rfl, ⟨nd, rfl⟩⟩; refine ⟨_, rfl, ?_⟩))
    go_ret
    exact ⟨by first | rfl | (simp [errW_none, errW_some] <;> rfl) | (simp [*, errW_none, errW_some] <;> rfl), by repeat (first | (with_reducible first | exact HB.out | apply below_alloc | apply pw_below_drewN | apply below_drew1) | exact HB.out)⟩

/-! ### serinetteref13_Bits: function 41 -/
def serinetteref13_Bits.l0 : Nat → List Int → Int → Int → Int → Option (Int)
  | 0, _, _, _, _ => none
  | k + 1, x0, x1, x6, x7 => if x7 < (x0.length : Int) then (if 0 ≤ x7 then ((serinetteref02_Size.f k (rd x0 x7) x1).bind fun t190 => (serinetteref13_Bits.l0 k x0 x1 (wrap64 (x6 + t190)) (wrap64 (x7 + 1)))) else (none)) else (some x6)
def serinetteref13_Bits.f (k : Nat) (l0 : List Int) (a1 : Int) : Option (Int) := (serinetteref13_Near.f k l0).bind fun t188 => (if t188 = true then (serinetteref13_Bits.l0 k l0 a1 0 0) else (some (-1)))
theorem serinetteref13_Bits.mono_l : ∀ k, (∀ y0 y1 y2 y3, LeO (serinetteref13_Bits.l0 k y0 y1 y2 y3) (serinetteref13_Bits.l0 (k + 1) y0 y1 y2 y3))
  | 0 => fun _ _ _ _ r h => by simp [serinetteref13_Bits.l0] at h
  | k + 1 => by
    have ih0 := serinetteref13_Bits.mono_l k
    · intro y0 y1 y2 y3
      unfold serinetteref13_Bits.l0
      repeat' first
      | (with_reducible exact ih0 _ _ _ _)
      | (with_reducible exact serinetteref02_Size.mono _ _ _)
      | (with_reducible exact serinetteref13_Near.mono _ _)
      | (with_reducible exact LeO.refl _)
      | (with_reducible exact LeO.none _)
      | (with_reducible refine LeO.ite ?_ ?_)
      | (with_reducible refine LeO.bind ?_ (fun _ => ?_))
      | exact ih0 _ _ _ _
      | exact serinetteref02_Size.mono _ _ _
      | exact serinetteref13_Near.mono _ _
      | exact LeO.none _
      | refine LeO.ite ?_ ?_
      | refine LeO.bind ?_ (fun _ => ?_)
theorem serinetteref13_Bits.mono : ∀ a0 a1 k, LeO (serinetteref13_Bits.f k a0 a1) (serinetteref13_Bits.f (k + 1) a0 a1) := by
  intro a0 a1 k
  have ih0 := serinetteref13_Bits.mono_l k
  unfold serinetteref13_Bits.f
  repeat' first
      | (with_reducible exact ih0 _ _ _ _)
      | (with_reducible exact serinetteref02_Size.mono _ _ _)
      | (with_reducible exact serinetteref13_Near.mono _ _)
      | (with_reducible exact LeO.refl _)
      | (with_reducible exact LeO.none _)
      | (with_reducible refine LeO.ite ?_ ?_)
      | (with_reducible refine LeO.bind ?_ (fun _ => ?_))
      | exact ih0 _ _ _ _
      | exact serinetteref02_Size.mono _ _ _
      | exact serinetteref13_Near.mono _ _
      | exact LeO.none _
      | refine LeO.ite ?_ ?_
      | refine LeO.bind ?_ (fun _ => ?_)
set_option maxHeartbeats 8000000 in
set_option maxRecDepth 100000 in
theorem serinetteref13_Bits.calls (k : Nat) (A0 : Option Addr) (c0 : Nat) (l0 : List Int) (a1 : Int) (r : Int) (w : World) (hr0 : Kd.C (Kd.int .i64) w A0 l0.length l0) (hc0 : l0.length ≤ c0) (h : serinetteref13_Bits.f k l0 a1 = some r) :
    Calls Try.prog 41 #[.slice A0 l0.length c0, .int .i64 a1] w fun e w' => e = .returned (.int .i64 r) ∧ Below w.heap.size w w' := by
  have HR0 := Aside0.mk hr0
  have HC0 := Aside0.mk hc0
  clear hr0 hc0
  have HB := Aside0.mk (Below.refl w.heap.size w)
  have H : ((serinetteref13_Near.f k l0).bind fun t188 => (if t188 = true then (serinetteref13_Bits.l0 k l0 a1 0 0) else (some (-1)))) = some r := h
  clear h
  replace H := Option.bind_eq_some_iff.mp H
  obtain ⟨t188, A30, H⟩ := H
  replace H : (if t188 = true then (serinetteref13_Bits.l0 k l0 a1 0 0) else (some (-1))) = some r := H
  have A3 := Aside0.mk A30
  clear A30
  by_cases c4 : t188 = true
  · subst c4
    have H1 : (serinetteref13_Bits.l0 k l0 a1 0 0) = some r := by rw [if_pos rfl] at H; exact H
    clear H
    have H := H1
    clear H1
    have H' := Aside0.mk H
    clear H
    go_enter Try.func41, Try.ntmps41
    go_wp2_with (first | ((with_reducible refine gate_callee (f := 13) rfl ?_); refine goesL_ (some 9) rfl rfl Try.func13 (by kernel_rfl) rfl #[.slice A0 l0.length c0] rfl (by (try simp only [List.map_toArray, List.map_cons, List.map_nil]); first | done | rfl | (simp only [List.length_drop, List.length_take]; rfl)) ?_; (with_reducible refine (serinetteref13_Near.calls k _ _ l0 true _ ?side1 ?side2 A3.out).mono ?_); (case side1 => repeat (first | exact HR0.out | (with_reducible refine Kd.C_alloc ?_ _) | (with_reducible refine Kd.C_drewN ?_ _) | (with_reducible refine Kd.C_drew ?_))); (case side2 => exact HC0.out); rintro e w' ⟨rfl, ⟨nd, rfl⟩⟩; refine ⟨_, rfl, ?_⟩))
    go_loopg [6, 7] k (fun kq v6 v7 w' => ∃ (x6_1 : Int) (x7_1 : Int), v6 = .int .i64 x6_1 ∧ v7 = .int .i64 x7_1 ∧ Aside0 (serinetteref13_Bits.l0 kq l0 a1 x6_1 x7_1 = some r) ∧ Aside0 (kq ≤ k) ∧ Aside0 (Below w.heap.size w w'))
    case atStart => exact ⟨(0), (0), (by first | rfl | (simp; done) | (simp only [i64_w, i32_w]; done) | (simp [*]; done) | (simp only [i64_w, i32_w]; first | rfl | (simp; done) | (simp [*]; done))), (by first | rfl | (simp; done) | (simp only [i64_w, i32_w]; done) | (simp [*]; done) | (simp only [i64_w, i32_w]; first | rfl | (simp; done) | (simp [*]; done))), H', ⟨Nat.le_refl _⟩, ⟨by repeat (first | (with_reducible first | exact HB.out | apply below_alloc | apply pw_below_drewN | apply below_drew1) | exact HB.out)⟩⟩
    case round =>
      clear H'
      try clear c1
      try clear p2
      try clear c4
      obtain ⟨x6_1, x7_1, rfl, rfl, HA, HK1, HB⟩ := hrel
      cases gk with
      | zero => exact absurd HA.out (by simp [serinetteref13_Bits.l0])
      | succ k1 =>
        have H := HA.out
        clear HA
        simp only [serinetteref13_Bits.l0] at H
        by_cases c5 : x7_1 < (l0.length : Int)
        · rw [if_pos c5] at H
          have c5b0 : decide (x7_1 < (l0.length : Int)) = true := decide_eq_true c5
          clear c5
          by_cases c6 : 0 ≤ x7_1
          · rw [if_pos c6] at H
            have c6b0 : decide (0 ≤ x7_1) = true := decide_eq_true c6
            clear c6
            replace H := Option.bind_eq_some_iff.mp H
            obtain ⟨t190, A70, H⟩ := H
            replace H : (serinetteref13_Bits.l0 k1 l0 a1 (wrap64 (x6_1 + t190)) (wrap64 (x7_1 + 1))) = some r := H
            have A7 := Aside0.mk A70
            clear A70
            have H' := Aside0.mk H
            clear H
            have p189 : 0 ≤ (x7_1 : Int) := of_decide_eq_true (by first | (with_reducible assumption) | assumption)
            have q189 : x7_1 < (l0.length : Int) := of_decide_eq_true (by first | (with_reducible assumption) | assumption)
            obtain ⟨ad189, e189, hx189_0⟩ := Kd.at_int HR0.out x7_1 p189 q189
            cases e189
            replace hx189_0 := (HB.out.cell (World.block_lt_of_cell? w _ hx189_0)).trans hx189_0
            replace p189 := eq_true p189
            replace q189 := eq_true q189
            go_wp2_with (first | ((with_reducible refine gate_callee (f := 45) rfl ?_); refine goesL_ (some 24) rfl rfl Try.func45 (by kernel_rfl) rfl #[.int .i64 (rd l0 x7_1), .int .i64 a1] rfl (by (try simp only [List.map_toArray, List.map_cons, List.map_nil]); first | done | rfl | (simp only [List.length_drop, List.length_take]; rfl)) ?_; (with_reducible refine (serinetteref02_Size.calls k1 (rd l0 x7_1) a1 t190 _ A7.out).mono ?_); rintro e w8 ⟨rfl, hb⟩; refine ⟨_, rfl, ?_⟩; have n0_ := Aside0.mk (below_step (by repeat (first | (with_reducible first | exact HB.out | apply below_alloc | apply pw_below_drewN | apply below_drew1) | exact HB.out)) hb); clear HB; have HB := n0_; clear n0_; (try clear hb); (try clear hb2); (try clear hk); (try clear hi)))
            go_roundg k1
            case measure => have := HK1.out; omega
            case rel => exact ⟨(wrap64 (x6_1 + t190)), (wrap64 (x7_1 + 1)), (by first | rfl | (simp; done) | (simp only [i64_w, i32_w]; done) | (simp [*]; done) | (simp only [i64_w, i32_w]; first | rfl | (simp; done) | (simp [*]; done))), (by first | rfl | (simp; done) | (simp only [i64_w, i32_w]; done) | (simp [*]; done) | (simp only [i64_w, i32_w]; first | rfl | (simp; done) | (simp [*]; done))), H', ⟨by have := HK1.out; omega⟩, ⟨by repeat (first | (with_reducible first | exact HB.out | apply below_alloc | apply pw_below_drewN | apply below_drew1) | exact HB.out)⟩⟩
          · rw [if_neg c6] at H
            exact absurd H (by simp)
        · rw [if_neg c5] at H
          have c5b0 : decide (x7_1 < (l0.length : Int)) = false := decide_eq_false c5
          clear c5
          obtain rfl := Option.some.inj H
          go_wp2
          go_ret
          exact ⟨by first | rfl | (simp [errW_none, errW_some] <;> rfl) | (simp [*, errW_none, errW_some] <;> rfl), by repeat (first | (with_reducible first | exact HB.out | apply below_alloc | apply pw_below_drewN | apply below_drew1) | exact HB.out)⟩
  · replace c4 := Bool.eq_false_iff.mpr c4
    subst c4
    have H1 : (some (-1)) = some r := by rw [if_neg (show ¬ (false = true) by decide)] at H; exact H
    clear H
    have H := H1
    clear H1
    obtain rfl := Option.some.inj H
    go_enter Try.func41, Try.ntmps41
    go_wp2_with (first | ((with_reducible refine gate_callee (f := 13) rfl ?_); refine goesL_ (some 9) rfl rfl Try.func13 (by kernel_rfl) rfl #[.slice A0 l0.length c0] rfl (by (try simp only [List.map_toArray, List.map_cons, List.map_nil]); first | done | rfl | (simp only [List.length_drop, List.length_take]; rfl)) ?_; (with_reducible refine (serinetteref13_Near.calls k _ _ l0 false _ ?side1 ?side2 A3.out).mono ?_); (case side1 => repeat (first | exact HR0.out | (with_reducible refine Kd.C_alloc ?_ _) | (with_reducible refine Kd.C_drewN ?_ _) | (with_reducible refine Kd.C_drew ?_))); (case side2 => exact HC0.out); rintro e w' ⟨rfl, ⟨nd, rfl⟩⟩; refine ⟨_, rfl, ?_⟩))
    go_ret
    exact ⟨by first | rfl | (simp [errW_none, errW_some] <;> rfl) | (simp [*, errW_none, errW_some] <;> rfl), by repeat (first | (with_reducible first | exact HB.out | apply below_alloc | apply pw_below_drewN | apply below_drew1) | exact HB.out)⟩

/-! ### serinetteref06_In: function 46 -/
def serinetteref06_In.f (k : Nat) (a0 : Int) (a1 : Int) : Option (Bool) := if a1 < 1 then (some false) else (if a1 > 62 then (some false) else ((serinetteref06_Power.f k (wrap64 (a1 - 1))).bind fun t191 => (if a0 ≥ (wrap64 (-t191)) then (some (decide (a0 < t191))) else (some false))))
theorem serinetteref06_In.mono : ∀ a0 a1 k, LeO (serinetteref06_In.f k a0 a1) (serinetteref06_In.f (k + 1) a0 a1) := by
  intro a0 a1 k
  unfold serinetteref06_In.f
  repeat' first
      | (with_reducible exact serinetteref06_Power.mono _ _)
      | (with_reducible exact LeO.refl _)
      | (with_reducible exact LeO.none _)
      | (with_reducible refine LeO.ite ?_ ?_)
      | (with_reducible refine LeO.bind ?_ (fun _ => ?_))
      | exact serinetteref06_Power.mono _ _
      | exact LeO.none _
      | refine LeO.ite ?_ ?_
      | refine LeO.bind ?_ (fun _ => ?_)
set_option maxHeartbeats 8000000 in
set_option maxRecDepth 100000 in
theorem serinetteref06_In.calls (k : Nat) (a0 : Int) (a1 : Int) (r : Bool) (w : World) (h : serinetteref06_In.f k a0 a1 = some r) :
    Calls Try.prog 46 #[.int .i64 a0, .int .i64 a1] w fun e w' => e = .returned (.bool r) ∧ Drawn0 w w' := by
  have H : (if a1 < 1 then (some false) else (if a1 > 62 then (some false) else ((serinetteref06_Power.f k (wrap64 (a1 - 1))).bind fun t191 => (if a0 ≥ (wrap64 (-t191)) then (some (decide (a0 < t191))) else (some false))))) = some r := h
  clear h
  by_cases c3 : a1 < 1
  · rw [if_pos c3] at H
    have c3b0 : decide (a1 < 1) = true := decide_eq_true c3
    clear c3
    obtain rfl := Option.some.inj H
    go_enter Try.func46, Try.ntmps46
    go_wp2
    go_ret
    exact ⟨by first | rfl | (simp; done) | (simp [*]; done), by repeat (first | exact Drawn0.refl _ | apply Drawn0.step)⟩
  · rw [if_neg c3] at H
    have c3b0 : decide (a1 < 1) = false := decide_eq_false c3
    clear c3
    by_cases c4 : a1 > 62
    · rw [if_pos c4] at H
      have c4b0 : decide (62 < a1) = true := decide_eq_true c4
      clear c4
      obtain rfl := Option.some.inj H
      go_enter Try.func46, Try.ntmps46
      go_wp2
      go_ret
      exact ⟨by first | rfl | (simp; done) | (simp [*]; done), by repeat (first | exact Drawn0.refl _ | apply Drawn0.step)⟩
    · rw [if_neg c4] at H
      have c4b0 : decide (62 < a1) = false := decide_eq_false c4
      clear c4
      replace H := Option.bind_eq_some_iff.mp H
      obtain ⟨t191, A50, H⟩ := H
      replace H : (if a0 ≥ (wrap64 (-t191)) then (some (decide (a0 < t191))) else (some false)) = some r := H
      have A5 := Aside0.mk A50
      clear A50
      by_cases c6 : a0 ≥ (wrap64 (-t191))
      · rw [if_pos c6] at H
        have c6b0 : decide ((wrap64 (-t191)) ≤ a0) = true := decide_eq_true c6
        clear c6
        obtain rfl := Option.some.inj H
        go_enter Try.func46, Try.ntmps46
        go_wp2_with (first | ((with_reducible refine gate_callee (f := 39) rfl ?_); refine goesL_ (some 14) rfl rfl Try.func39 (by kernel_rfl) rfl #[.int .i64 (wrap64 (a1 - 1))] rfl (by (try simp only [List.map_toArray, List.map_cons, List.map_nil]); first | done | rfl | (simp only [List.length_drop, List.length_take]; rfl)) ?_; (with_reducible refine (serinetteref06_Power.calls k (wrap64 (a1 - 1)) t191 _ A5.out).mono ?_); rintro e w' ⟨rfl, ⟨nd, rfl⟩⟩; refine ⟨_, rfl, ?_⟩))
        go_ret
        exact ⟨by first | rfl | (simp; done) | (simp [*]; done), by repeat (first | exact Drawn0.refl _ | apply Drawn0.step)⟩
      · rw [if_neg c6] at H
        have c6b0 : decide ((wrap64 (-t191)) ≤ a0) = false := decide_eq_false c6
        clear c6
        obtain rfl := Option.some.inj H
        go_enter Try.func46, Try.ntmps46
        go_wp2_with (first | ((with_reducible refine gate_callee (f := 39) rfl ?_); refine goesL_ (some 14) rfl rfl Try.func39 (by kernel_rfl) rfl #[.int .i64 (wrap64 (a1 - 1))] rfl (by (try simp only [List.map_toArray, List.map_cons, List.map_nil]); first | done | rfl | (simp only [List.length_drop, List.length_take]; rfl)) ?_; (with_reducible refine (serinetteref06_Power.calls k (wrap64 (a1 - 1)) t191 _ A5.out).mono ?_); rintro e w' ⟨rfl, ⟨nd, rfl⟩⟩; refine ⟨_, rfl, ?_⟩))
        go_ret
        exact ⟨by first | rfl | (simp; done) | (simp [*]; done), by repeat (first | exact Drawn0.refl _ | apply Drawn0.step)⟩

end Go.Proofs.Ytpoigjkkcehpdaa.PA
