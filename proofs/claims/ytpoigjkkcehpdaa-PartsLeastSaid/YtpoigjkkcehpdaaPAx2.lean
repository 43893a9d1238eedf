/- Each Go function named below comes to what the plain Lean function of its name answers, wherever that answers (rounds enough, no panic, no row too long); texts by a program of this session by way of the kit's print.py, what that does not take by hand. Condition: what is read lies in memory as each theorem says. -/
import Derived.Test.YtpoigjkkcehpdaaPAx0
import Derived.Test.YtpoigjkkcehpdaaIdx
namespace Go.Proofs.Ytpoigjkkcehpdaa.PA
open Go.RowKit Go.Proofs.YtpoigjkkcehpdaaW.PrintWords Go.Proofs.YtpoigjkkcehpdaaW.PrintLast Go.Proofs.YtpoigjkkcehpdaaW.PrintMore
attribute [local go_sem] max2_int min2_int max_two min_two max_three min_three max_four min_four   -- for this text's walks alone
set_option linter.unusedVariables false
set_option linter.unusedSimpArgs false

-- NOT PRINTED: function 37 (slices_IndexFunc_int_int)

-- NOT PRINTED: function 27 (slices_ContainsFunc_int_int)

/-! ### rice_Near: function 38 -/
def rice_Near.f (a0 : Int) : Option (Bool) := if a0 ≥ (-8589934592) then (some (decide (a0 < 8589934592))) else (some false)
set_option maxHeartbeats 8000000 in
set_option maxRecDepth 100000 in
theorem rice_Near.calls (a0 : Int) (r : Bool) (w : World) (h : rice_Near.f a0 = some r) :
    Calls Try.prog 38 #[.int .i64 a0] w fun e w' => e = .returned (.bool r) ∧ Drawn0 w w' := by
  have H : (if a0 ≥ (-8589934592) then (some (decide (a0 < 8589934592))) else (some false)) = some r := h
  clear h
  by_cases c2 : a0 ≥ (-8589934592)
  · rw [if_pos c2] at H
    have c2b0 : decide ((-8589934592) ≤ a0) = true := decide_eq_true c2
    clear c2
    obtain rfl := Option.some.inj H
    go_enter Try.func38, Try.ntmps38
    go_wp2
    go_ret
    exact ⟨by first | rfl | (simp; done) | (simp [*]; done), by repeat (first | exact Drawn0.refl _ | apply Drawn0.step)⟩
  · rw [if_neg c2] at H
    have c2b0 : decide ((-8589934592) ≤ a0) = false := decide_eq_false c2
    clear c2
    obtain rfl := Option.some.inj H
    go_enter Try.func38, Try.ntmps38
    go_wp2
    go_ret
    exact ⟨by first | rfl | (simp; done) | (simp [*]; done), by repeat (first | exact Drawn0.refl _ | apply Drawn0.step)⟩

/-! ### cost_far: function 28 -/
def cost_far.f (a0 : Int) : Option (Bool) := (rice_Near.f a0).bind fun t101 => (some (!t101))
set_option maxHeartbeats 8000000 in
set_option maxRecDepth 100000 in
theorem cost_far.calls (a0 : Int) (r : Bool) (w : World) (h : cost_far.f a0 = some r) :
    Calls Try.prog 28 #[.int .i64 a0] w fun e w' => e = .returned (.bool r) ∧ Drawn0 w w' := by
  have H : ((rice_Near.f a0).bind fun t101 => (some (!t101))) = some r := h
  clear h
  replace H := Option.bind_eq_some_iff.mp H
  obtain ⟨t101, A20, H⟩ := H
  replace H : (some (!t101)) = some r := H
  have A2 := Aside0.mk A20
  clear A20
  obtain rfl := Option.some.inj H
  go_enter Try.func28, Try.ntmps28
  go_wp2_with (first | ((with_reducible refine gate_callee (f := 38) rfl ?_); refine goesL_ (some 4) rfl rfl Try.func38 (by kernel_rfl) rfl #[.int .i64 a0] rfl (by (try simp only [List.map_toArray, List.map_cons, List.map_nil]); first | done | rfl | (simp only [List.length_drop, List.length_take]; rfl)) ?_; (with_reducible refine (rice_Near.calls a0 t101 _ A2.out).mono ?_); rintro e w' ⟨rfl, ⟨nd, rfl⟩⟩; refine ⟨_, rfl, ?_⟩))
  go_ret
  exact ⟨by first | rfl | (simp; done) | (simp [*]; done), by repeat (first | exact Drawn0.refl _ | apply Drawn0.step)⟩

/-! ### pcm_In: function 29 -/
def pcm_In.f (a0 : Int) (a1 : Int) : Option (Bool) := if a1 < 1 then (some false) else (if a1 > 62 then (some false) else (if 0 ≤ (wrap64 (a1 - 1)) then (if (shr .i64 a0 (wrap64 (a1 - 1))) = 0 then (some true) else (some ((shr .i64 a0 (wrap64 (a1 - 1))) == (-1)))) else (none)))
set_option maxHeartbeats 8000000 in
set_option maxRecDepth 100000 in
theorem pcm_In.calls (a0 : Int) (a1 : Int) (r : Bool) (w : World) (h : pcm_In.f a0 a1 = some r) :
    Calls Try.prog 29 #[.int .i64 a0, .int .i64 a1] w fun e w' => e = .returned (.bool r) ∧ Drawn0 w w' := by
  have H : (if a1 < 1 then (some false) else (if a1 > 62 then (some false) else (if 0 ≤ (wrap64 (a1 - 1)) then (if (shr .i64 a0 (wrap64 (a1 - 1))) = 0 then (some true) else (some ((shr .i64 a0 (wrap64 (a1 - 1))) == (-1)))) else (none)))) = some r := h
  clear h
  by_cases c3 : a1 < 1
  · rw [if_pos c3] at H
    have c3b0 : decide (a1 < 1) = true := decide_eq_true c3
    clear c3
    obtain rfl := Option.some.inj H
    go_enter Try.func29, Try.ntmps29
    go_wp2
    go_ret
    exact ⟨by first | rfl | (simp; done) | (simp [*]; done), by repeat (first | exact Drawn0.refl _ | apply Drawn0.step)⟩
  · rw [if_neg c3] at H
    have c3b0 : decide (a1 < 1) = false := decide_eq_false c3
    clear c3
    by_cases c4 : a1 > 62
    · rw [if_pos c4] at H
      have c4b0 : decide (62 < a1) = true := decide_eq_true c4
      clear c4
      obtain rfl := Option.some.inj H
      go_enter Try.func29, Try.ntmps29
      go_wp2
      go_ret
      exact ⟨by first | rfl | (simp; done) | (simp [*]; done), by repeat (first | exact Drawn0.refl _ | apply Drawn0.step)⟩
    · rw [if_neg c4] at H
      have c4b0 : decide (62 < a1) = false := decide_eq_false c4
      clear c4
      obtain ⟨ji5, hji5⟩ : ∃ j_ : Int, (wrap64 (a1 - 1)) = j_ := ⟨_, rfl⟩
      replace H : (if 0 ≤ (ji5) then (if (shr .i64 a0 (ji5)) = 0 then (some true) else (some ((shr .i64 a0 (ji5)) == (-1)))) else (none)) = some r := by first | (rw [hji5] at H; exact H) | (simp only [hji5] at H ⊢; exact H)
      have hji5w : (IntKind.i64.wrap (a1 - 1)) = ji5 := (i64_w _).trans hji5
      by_cases c6 : 0 ≤ (ji5)
      · rw [if_pos c6] at H
        have c6b0 := eq_true c6
        have c6b1 : decide (0 ≤ (ji5)) = true := decide_eq_true c6
        clear c6
        obtain ⟨ji7, hji7⟩ : ∃ j_ : Int, (shr .i64 a0 (ji5)) = j_ := ⟨_, rfl⟩
        replace H : (if (ji7) = 0 then (some true) else (some ((ji7) == (-1)))) = some r := by first | (rw [hji7] at H; exact H) | (simp only [hji7] at H ⊢; exact H)
        have hji7_ : (a0 / 2 ^ min (ji5).toNat 64) = ji7 := hji7
        have hji7z : (ji5) ≤ 64 → (a0 / 2 ^ (ji5).toNat) = ji7 := shr_small hji7
        by_cases c8 : (ji7) = 0
        · rw [if_pos c8] at H
          have c8b0 : ((ji7) == 0) = true := beq_iff_eq.mpr c8
          have c8b1 : ((ji7) != 0) = false := bne_eq_false_iff_eq.mpr c8
          clear c8
          obtain rfl := Option.some.inj H
          go_enter Try.func29, Try.ntmps29
          go_wp2
          go_ret
          exact ⟨by first | rfl | (simp; done) | (simp only [← hji5, ← hji7] <;> (first | rfl | simp)) | (simp [*]; done), by repeat (first | exact Drawn0.refl _ | apply Drawn0.step)⟩
        · rw [if_neg c8] at H
          have c8b0 : ((ji7) == 0) = false := beq_eq_false_iff_ne.mpr c8
          have c8b1 : ((ji7) != 0) = true := bne_iff_ne.mpr c8
          obtain rfl := Option.some.inj H
          go_enter Try.func29, Try.ntmps29
          go_wp2
          go_ret
          exact ⟨by first | rfl | (simp; done) | (simp only [← hji5, ← hji7] <;> (first | rfl | simp)) | (simp [*]; done), by repeat (first | exact Drawn0.refl _ | apply Drawn0.step)⟩
      · rw [if_neg c6] at H
        exact absurd H (by simp)

/-! ### serinetteshadow_AnyFarCost: function 67 -/
def serinetteshadow_AnyFarCost.l0 : Nat → List Int → Int → Int → Option (Bool)
  | 0, _, _, _ => none
  | k + 1, x0, x5, x6 => if x6 < x5 then (if 0 ≤ x6 then (if x6 < (x0.length : Int) then (if (rd x0 x6) < (-8589934592) then (some true) else (if (rd x0 x6) ≥ 8589934592 then (some true) else (serinetteshadow_AnyFarCost.l0 k x0 x5 (wrap64 (x6 + 1))))) else (none)) else (none)) else (some false)
def serinetteshadow_AnyFarCost.f (k : Nat) (l0 : List Int) : Option (Bool) := serinetteshadow_AnyFarCost.l0 k l0 (l0.length : Int) 0
theorem serinetteshadow_AnyFarCost.mono_l : ∀ k, (∀ y0 y1 y2, LeO (serinetteshadow_AnyFarCost.l0 k y0 y1 y2) (serinetteshadow_AnyFarCost.l0 (k + 1) y0 y1 y2))
  | 0 => fun _ _ _ r h => by simp [serinetteshadow_AnyFarCost.l0] at h
  | k + 1 => by
    have ih0 := serinetteshadow_AnyFarCost.mono_l k
    · intro y0 y1 y2
      unfold serinetteshadow_AnyFarCost.l0
      repeat' first
      | (with_reducible exact ih0 _ _ _)
      | (with_reducible exact LeO.refl _)
      | (with_reducible exact LeO.none _)
      | (with_reducible refine LeO.ite ?_ ?_)
      | (with_reducible refine LeO.bind ?_ (fun _ => ?_))
      | exact ih0 _ _ _
      | exact LeO.none _
      | refine LeO.ite ?_ ?_
      | refine LeO.bind ?_ (fun _ => ?_)
theorem serinetteshadow_AnyFarCost.mono : ∀ a0 k, LeO (serinetteshadow_AnyFarCost.f k a0) (serinetteshadow_AnyFarCost.f (k + 1) a0) := by
  intro a0 k
  have ih0 := serinetteshadow_AnyFarCost.mono_l k
  unfold serinetteshadow_AnyFarCost.f
  repeat' first
      | (with_reducible exact ih0 _ _ _)
      | (with_reducible exact LeO.refl _)
      | (with_reducible exact LeO.none _)
      | (with_reducible refine LeO.ite ?_ ?_)
      | (with_reducible refine LeO.bind ?_ (fun _ => ?_))
      | exact ih0 _ _ _
      | exact LeO.none _
      | refine LeO.ite ?_ ?_
      | refine LeO.bind ?_ (fun _ => ?_)
def costB (n : Int) : Bool := decide (n < -8589934592) || decide (n ≥ 8589934592)
theorem near_f (n : Int) : rice_Near.f n = some (!costB n) := by
  unfold rice_Near.f costB
  by_cases h : n ≥ -8589934592
  · by_cases g : n < 8589934592
    · first | (simp [h, g]; done) | (simp [h, g]; omega)
    · first | (simp [h, g]; done) | (simp [h, g]; omega)
  · first | (simp [h]; done) | (simp [h]; omega)
theorem costFar.calls (n : Int) (w : World) : Calls Try.prog 28 #[.int .i64 n] w fun e w' => e = .returned (.bool (costB n)) ∧ Drawn0 w w' := by
  have hc := rice_Near.calls n (!costB n) w (near_f n)
  generalize costB n = b at hc ⊢
  have HC := Aside0.mk hc
  clear hc
  go_enter Try.func28, Try.ntmps28
  go_wp2_with (go_at_call 38; (with_reducible refine HC.out.mono ?_); rintro e w' ⟨rfl, ⟨nd, rfl⟩⟩)
  go_ret
  exact ⟨by first | rfl | (simp; done) | (simp [*]; done), by repeat (first | exact Drawn0.refl _ | apply Drawn0.step)⟩
set_option maxRecDepth 100000 in
theorem cost_IndexFunc.calls (A0 : Option Addr) (c0 : Nat) (l0 : List Int) (w : World) (hr0 : Kd.C (Kd.int .i64) w A0 l0.length l0) :
    Calls Try.prog 37 #[.slice A0 l0.length c0, .func (.func 28) #[] #[]] w fun e w' => e = .returned (.int .i64 (Idx.idxI costB l0)) ∧ Drawn0 w w' := by
  have HR0 := Aside0.mk hr0
  have HL : l0.length ≤ 9223372036854775807 := hr0.2.1
  clear hr0
  generalize hX : Idx.idxI costB l0 = X
  have HX := Aside0.mk hX
  clear hX
  go_enter Try.func37, Try.ntmps37
  go_wp2
  go_loopg [8] l0.length (fun kq v8 w' => ∃ (i : Nat), v8 = .int .i64 (i : Int) ∧ Aside0 (i + kq = l0.length) ∧ Aside0 (∀ j, j < i → costB (rd l0 (j : Int)) = false) ∧ Drawn0 w w')
  case atStart => exact ⟨0, rfl, ⟨by omega⟩, ⟨fun j hj => by omega⟩, Drawn0.refl _⟩
  case round =>
    obtain ⟨i, rfl, HK, HN, ⟨m1, rfl⟩⟩ := hrel
    by_cases hi : i < l0.length
    · have p1 : 0 ≤ (i : Int) := by omega
      have q1 : (i : Int) < (l0.length : Int) := by omega
      obtain ⟨ad1, e1, hx1⟩ := Kd.at_int HR0.out (i : Int) p1 q1
      cases e1
      simp only [Int.toNat_natCast] at hx1
      have hq := decide_eq_true q1
      replace q1 := eq_true q1
      replace p1 := eq_true p1
      have hw1 : wrap64 ((i : Int) + 1) = ((i + 1 : Nat) : Int) := by unfold wrap64; omega
      have HW := Aside0.mk hw1
      clear hw1
      cases hp : costB (rd l0 (i : Int)) with
      | true =>
        have HP := Aside0.mk hp
        clear hp
        have hcall := costFar.calls (rd l0 (i : Int)) (w.drewN m1)
        rw [HP.out] at hcall
        have HC := Aside0.mk hcall
        clear hcall
        go_wp2_with (go_at_call 28; (with_reducible refine HC.out.mono ?_); rintro e w' ⟨rfl, ⟨nd, rfl⟩⟩)
        go_ret
        have := Idx.idxI_found hi (p := costB) HP.out HN.out
        rw [HX.out] at this
        subst this
        exact ⟨by first | rfl | (simp; done) | (simp [*]; done), by repeat (first | exact Drawn0.refl _ | apply Drawn0.step)⟩
      | false =>
        have HP := Aside0.mk hp
        clear hp
        have hcall := costFar.calls (rd l0 (i : Int)) (w.drewN m1)
        rw [HP.out] at hcall
        have HC := Aside0.mk hcall
        clear hcall
        go_wp2_with (go_at_call 28; (with_reducible refine HC.out.mono ?_); rintro e w' ⟨rfl, ⟨nd, rfl⟩⟩)
        go_roundg (l0.length - (i + 1))
        case measure => have := HK.out; omega
        case rel => exact ⟨i + 1, by first | rfl | (simp; done) | (simp [HW.out]; done) | go_num, ⟨by omega⟩, ⟨fun j hj => by
          rcases Nat.lt_or_ge j i with h | h
          · exact HN.out j h
          · obtain rfl : j = i := by omega
            exact HP.out⟩, by repeat (first | exact Drawn0.refl _ | apply Drawn0.step)⟩
    · have hq : decide ((i : Int) < (l0.length : Int)) = false := decide_eq_false (by omega)
      go_wp2
      go_ret
      have := Idx.idxI_none (l := l0) (p := costB) (fun j hj => HN.out j (by omega))
      rw [HX.out] at this
      subst this
      exact ⟨by first | rfl | (simp; done) | (simp [*]; done), by repeat (first | exact Drawn0.refl _ | apply Drawn0.step)⟩
set_option maxRecDepth 100000 in
theorem cost_ContainsFunc.calls (A0 : Option Addr) (c0 : Nat) (l0 : List Int) (w : World) (hr0 : Kd.C (Kd.int .i64) w A0 l0.length l0) (t : Bool) (ht : l0.any costB = t) :
    Calls Try.prog 27 #[.slice A0 l0.length c0, .func (.func 28) #[] #[]] w fun e w' => e = .returned (.bool t) ∧ Drawn0 w w' := by
  have hI := cost_IndexFunc.calls A0 c0 l0 w hr0
  have hge := Idx.idxI_ge costB l0
  rw [ht] at hge
  generalize Idx.idxI costB l0 = X at hI hge
  have HI := Aside0.mk hI
  clear hI hr0 ht
  go_enter Try.func27, Try.ntmps27
  go_wp2_with (go_at_call 37; (with_reducible refine HI.out.mono ?_); rintro e w' ⟨rfl, ⟨nd, rfl⟩⟩)
  go_ret
  exact ⟨by first | rfl | (simp; done) | (simp [*]; done), by repeat (first | exact Drawn0.refl _ | apply Drawn0.step)⟩
theorem cost_any_l0 (l : List Int) (hl : l.length ≤ 9223372036854775807) : ∀ (k i : Nat) (t : Bool), serinetteshadow_AnyFarCost.l0 k l (l.length : Int) (i : Int) = some t → t = (l.drop i).any costB := by
  intro k
  induction k with
  | zero => intro i t h; simp [serinetteshadow_AnyFarCost.l0] at h
  | succ k ih =>
    intro i t h
    simp only [serinetteshadow_AnyFarCost.l0] at h
    by_cases hi : i < l.length
    · have hw : wrap64 ((i : Int) + 1) = ((i + 1 : Nat) : Int) := by unfold wrap64; omega
      rw [if_pos (by omega), if_pos (by omega), if_pos (by omega), hw] at h
      have hd : l.drop i = rd l (i : Int) :: l.drop (i + 1) := by
        rw [List.drop_eq_getElem_cons hi]; simp [rd, List.getD_eq_getElem?_getD, List.getElem?_eq_getElem hi]
      rw [hd, List.any_cons]
      generalize rd l (i : Int) = n at h ⊢
      by_cases h0 : n < (-8589934592)
      · rw [if_pos h0] at h
        rw [← Option.some.inj h]
        simp [costB, h0]
      · rw [if_neg h0] at h
        by_cases h1 : n ≥ 8589934592
        · rw [if_pos h1] at h
          rw [← Option.some.inj h]
          simp [costB, h1]
        · rw [if_neg h1] at h
          rw [← ih _ _ h]
          simp [costB]
          omega
    · rw [if_neg (by omega)] at h
      rw [← Option.some.inj h, List.drop_of_length_le (by omega)]
      rfl
set_option maxHeartbeats 8000000 in
set_option maxRecDepth 100000 in
theorem serinetteshadow_AnyFarCost.calls (k : Nat) (A0 : Option Addr) (c0 : Nat) (l0 : List Int) (r : Bool) (w : World) (hr0 : Kd.C (Kd.int .i64) w A0 l0.length l0) (hc0 : l0.length ≤ c0) (h : serinetteshadow_AnyFarCost.f k l0 = some r) :
    Calls Try.prog 27 #[.slice A0 l0.length c0, .func (.func 28) #[] #[]] w fun e w' => e = .returned (.bool r) ∧ Drawn0 w w' := by
  have e := cost_any_l0 l0 hr0.2.1 k 0 r h
  rw [List.drop_zero] at e
  exact cost_ContainsFunc.calls A0 c0 l0 w hr0 r e.symm

end Go.Proofs.Ytpoigjkkcehpdaa.PA
