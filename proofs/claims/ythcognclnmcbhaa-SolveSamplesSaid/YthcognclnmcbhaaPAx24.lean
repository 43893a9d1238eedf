/- Each Go function named below comes to what the plain Lean function of its name answers, wherever that answers (rounds enough, no panic, no row too long); texts by a program of this session by way of the kit's print.py, what that does not take by hand. Condition: what is read lies in memory as each theorem says. -/
import Derived.Test.YthcognclnmcbhaaPAx0
import Derived.Test.YthcognclnmcbhaaPAx23
import Derived.OneCell
import Derived.Test.YthcognclnmcbhaaIdx
namespace Go.Proofs.Ythcognclnmcbhaa.PA
open Go.RowKit Go.Proofs.YthcognclnmcbhaaW.PrintWords Go.Proofs.YthcognclnmcbhaaW.PrintLast Go.Proofs.YthcognclnmcbhaaW.PrintMore
attribute [local go_sem] max2_int min2_int max_two min_two max_three min_three max_four min_four   -- for this text's walks alone
set_option linter.unusedVariables false
set_option linter.unusedSimpArgs false

/-! ### lags_Fit: function 23 -/
def lags_Fit.l0 : Nat → List Int → List Int → Int → Option (Int)
  | 0, _, _, _ => none
  | k + 1, x0, x3, x4 => (serinetteshadow_AnyWide.f k x0 x4).bind fun t301 => (if t301 = true then (lags_Fit.l0 k x0 x3 (wrap64 (x4 + 1))) else (if (x3.length : Int) = 0 then (some 0) else (some x4)))
def lags_Fit.f (k : Nat) (l0 : List Int) : Option (Int) := (some (([] : List Int) : List Int)).bind fun y295 => (if y295.length < 17592186044416 then (lags_Fit.l0 k l0 (y295 ++ [0]) 0) else (none))
theorem lags_Fit.mono_l : ∀ k, (∀ y0 y1 y2, LeO (lags_Fit.l0 k y0 y1 y2) (lags_Fit.l0 (k + 1) y0 y1 y2))
  | 0 => fun _ _ _ r h => by simp [lags_Fit.l0] at h
  | k + 1 => by
    have ih0 := lags_Fit.mono_l k
    · intro y0 y1 y2
      unfold lags_Fit.l0
      repeat' first
      | (with_reducible exact ih0 _ _ _)
      | (with_reducible exact serinetteshadow_AnyWide.mono _ _ _)
      | (with_reducible exact LeO.refl _)
      | (with_reducible exact LeO.none _)
      | (with_reducible refine LeO.ite ?_ ?_)
      | (with_reducible refine LeO.bind ?_ (fun _ => ?_))
      | exact ih0 _ _ _
      | exact serinetteshadow_AnyWide.mono _ _ _
      | exact LeO.none _
      | refine LeO.ite ?_ ?_
      | refine LeO.bind ?_ (fun _ => ?_)
theorem lags_Fit.mono : ∀ a0 k, LeO (lags_Fit.f k a0) (lags_Fit.f (k + 1) a0) := by
  intro a0 k
  have ih0 := lags_Fit.mono_l k
  unfold lags_Fit.f
  repeat' first
      | (with_reducible exact ih0 _ _ _)
      | (with_reducible exact serinetteshadow_AnyWide.mono _ _ _)
      | (with_reducible exact LeO.refl _)
      | (with_reducible exact LeO.none _)
      | (with_reducible refine LeO.ite ?_ ?_)
      | (with_reducible refine LeO.bind ?_ (fun _ => ?_))
      | exact ih0 _ _ _
      | exact serinetteshadow_AnyWide.mono _ _ _
      | exact LeO.none _
      | refine LeO.ite ?_ ?_
      | refine LeO.bind ?_ (fun _ => ?_)
def wideB (n : Int) : Bool := !(n / 4194304 == 0) && !(n / 4194304 == -1)
theorem lags_wide.calls (n : Int) (w : World) : Calls Try.prog 27 #[.int .i64 n] w fun e w' => e = .returned (.bool (wideB n)) ∧ Drawn0 w w' := by
  by_cases h : n / 4194304 = 0
  · have hw : wideB n = false := by unfold wideB; simp [h]
    rw [hw]
    clear hw
    have h0 : ((n / 4194304) == 0) = true := beq_iff_eq.mpr h
    have h1 : ((n / 4194304) != 0) = false := bne_eq_false_iff_eq.mpr h
    clear h
    go_enter Try.func27, Try.ntmps27
    go_wp2
    go_ret
    exact ⟨by first | rfl | (simp; done) | (simp [*]; done), by repeat (first | exact Drawn0.refl _ | apply Drawn0.step)⟩
  · have h0 : ((n / 4194304) == 0) = false := beq_eq_false_iff_ne.mpr h
    have h1 : ((n / 4194304) != 0) = true := bne_iff_ne.mpr h
    by_cases g : n / 4194304 = -1
    · have hw : wideB n = false := by unfold wideB; simp [g]
      rw [hw]
      clear hw
      have g0 : ((n / 4194304) == -1) = true := beq_iff_eq.mpr g
      have g1 : ((n / 4194304) != -1) = false := bne_eq_false_iff_eq.mpr g
      clear h g
      go_enter Try.func27, Try.ntmps27
      go_wp2
      go_ret
      exact ⟨by first | rfl | (simp; done) | (simp [*]; done), by repeat (first | exact Drawn0.refl _ | apply Drawn0.step)⟩
    · have hw : wideB n = true := by unfold wideB; simp [h, g]
      rw [hw]
      clear hw
      have g0 : ((n / 4194304) == -1) = false := beq_eq_false_iff_ne.mpr g
      have g1 : ((n / 4194304) != -1) = true := bne_iff_ne.mpr g
      clear h g
      go_enter Try.func27, Try.ntmps27
      go_wp2
      go_ret
      exact ⟨by first | rfl | (simp; done) | (simp [*]; done), by repeat (first | exact Drawn0.refl _ | apply Drawn0.step)⟩
set_option maxRecDepth 100000 in
theorem lags_Fit1.calls (n s : Int) (B : Nat) (w : World) (hc : w.cell? ⟨B, 0, none⟩ = some (.int .i64 s)) (hs : 0 ≤ s) : Calls Try.prog 26 #[.int .i64 n, .pointer (some ⟨B, 0, none⟩)] w fun e w' => e = .returned (.bool (wideB (shr .i64 n s))) ∧ Drawn0 w w' := by
  have hs0 : decide (0 ≤ s) = true := decide_eq_true hs
  replace hs := eq_true hs
  go_enter Try.func26, Try.ntmps26
  go_wp2_with (go_at_call 27; (with_reducible refine (lags_wide.calls _ _).mono ?_); rintro e w' ⟨rfl, ⟨nd, rfl⟩⟩)
  go_ret
  exact ⟨by first | rfl | (simp; done) | (simp [*]; done), by repeat (first | exact Drawn0.refl _ | apply Drawn0.step)⟩
set_option maxRecDepth 100000 in
theorem fit_IndexFunc.calls (A0 : Option Addr) (c0 : Nat) (l0 : List Int) (s : Int) (B : Nat) (w : World) (hr0 : Kd.C (Kd.int .i64) w A0 l0.length l0) (hc : w.cell? ⟨B, 0, none⟩ = some (.int .i64 s)) (hs : 0 < l0.length → 0 ≤ s) :
    Calls Try.prog 25 #[.slice A0 l0.length c0, .func (.func 26) #[] #[.pointer (some ⟨B, 0, none⟩)]] w fun e w' => e = .returned (.int .i64 (Idx.idxI (fun n => wideB (shr .i64 n s)) l0)) ∧ Drawn0 w w' := by
  have HR0 := Aside0.mk hr0
  have HL : l0.length ≤ 9223372036854775807 := hr0.2.1
  have HS := Aside0.mk hs
  clear hr0 hs
  have HI := Aside0.mk (show ∀ r, Idx.idxI (fun n => wideB (shr .i64 n s)) l0 = r → Idx.idxI (fun n => wideB (shr .i64 n s)) l0 = r from fun _ h => h)
  generalize hX : Idx.idxI (fun n => wideB (shr .i64 n s)) l0 = X at HI ⊢
  have HX := Aside0.mk hX
  clear hX HI
  go_enter Try.func25, Try.ntmps25
  go_wp2
  go_loopg [8] l0.length (fun kq v8 w' => ∃ (i : Nat), v8 = .int .i64 (i : Int) ∧ Aside0 (i + kq = l0.length) ∧ Aside0 (∀ j, j < i → wideB (shr .i64 (rd l0 (j : Int)) s) = false) ∧ Drawn0 w w')
  case atStart => exact ⟨0, rfl, ⟨by omega⟩, ⟨fun j hj => by omega⟩, Drawn0.refl _⟩
  case round =>
    obtain ⟨i, rfl, HK, HN, ⟨m1, rfl⟩⟩ := hrel
    by_cases hi : i < l0.length
    · have p1 : 0 ≤ (i : Int) := by omega
      have q1 : (i : Int) < (l0.length : Int) := by omega
      obtain ⟨ad1, e1, hx1⟩ := Kd.at_int HR0.out (i : Int) p1 q1
      cases e1
      simp only [Int.toNat_natCast] at hx1
      have hs0 := HS.out (by omega)
      have hq := decide_eq_true q1
      replace q1 := eq_true q1
      replace p1 := eq_true p1
      have hw1 : wrap64 ((i : Int) + 1) = ((i + 1 : Nat) : Int) := by unfold wrap64; omega
      have HW := Aside0.mk hw1
      clear hw1
      cases hp : wideB (shr .i64 (rd l0 (i : Int)) s) with
      | true =>
        have HP := Aside0.mk hp
        clear hp
        have hcall := lags_Fit1.calls (rd l0 (i : Int)) s B (w.drewN m1) (by simpa [go_sem] using hc) hs0
        rw [HP.out] at hcall
        have HC := Aside0.mk hcall
        clear hcall
        go_wp2_with (go_at_call 26; (with_reducible refine HC.out.mono ?_); rintro e w' ⟨rfl, ⟨nd, rfl⟩⟩)
        go_ret
        have := Idx.idxI_found hi (p := fun n => wideB (shr .i64 n s)) HP.out HN.out
        rw [HX.out] at this
        subst this
        exact ⟨by first | rfl | (simp; done) | (simp [*]; done), by repeat (first | exact Drawn0.refl _ | apply Drawn0.step)⟩
      | false =>
        have HP := Aside0.mk hp
        clear hp
        have hcall := lags_Fit1.calls (rd l0 (i : Int)) s B (w.drewN m1) (by simpa [go_sem] using hc) hs0
        rw [HP.out] at hcall
        have HC := Aside0.mk hcall
        clear hcall
        go_wp2_with (go_at_call 26; (with_reducible refine HC.out.mono ?_); rintro e w' ⟨rfl, ⟨nd, rfl⟩⟩)
        go_roundg (l0.length - (i + 1))
        case measure => have := HK.out; omega
        case rel => exact ⟨i + 1, by first | rfl | (simp; done) | (simp [HW.out]; done) | go_num, ⟨by omega⟩, ⟨fun j hj => by
          rcases Nat.lt_or_ge j i with h | h
          · exact HN.out j h
          · obtain rfl : j = i := by omega
            exact HP.out⟩, by repeat (first | exact Drawn0.refl _ | apply Drawn0.step)⟩
    · have hq : decide ((i : Int) < (l0.length : Int)) = false := decide_eq_false (by omega)
      go_wp2
      go_ret
      have := Idx.idxI_none (l := l0) (p := fun n => wideB (shr .i64 n s)) (fun j hj => HN.out j (by omega))
      rw [HX.out] at this
      subst this
      exact ⟨by first | rfl | (simp; done) | (simp [*]; done), by repeat (first | exact Drawn0.refl _ | apply Drawn0.step)⟩
set_option maxRecDepth 100000 in
theorem fit_ContainsFunc.calls (A0 : Option Addr) (c0 : Nat) (l0 : List Int) (s : Int) (B : Nat) (w : World) (hr0 : Kd.C (Kd.int .i64) w A0 l0.length l0) (hc : w.cell? ⟨B, 0, none⟩ = some (.int .i64 s)) (hs : 0 < l0.length → 0 ≤ s) (t : Bool) (ht : l0.any (fun n => wideB (shr .i64 n s)) = t) :
    Calls Try.prog 19 #[.slice A0 l0.length c0, .func (.func 26) #[] #[.pointer (some ⟨B, 0, none⟩)]] w fun e w' => e = .returned (.bool t) ∧ Drawn0 w w' := by
  have hI := fit_IndexFunc.calls A0 c0 l0 s B w hr0 hc hs
  have hge := Idx.idxI_ge (fun n => wideB (shr .i64 n s)) l0
  rw [ht] at hge
  generalize Idx.idxI (fun n => wideB (shr .i64 n s)) l0 = X at hI hge
  have HI := Aside0.mk hI
  clear hI hr0 hc hs ht
  go_enter Try.func19, Try.ntmps19
  go_wp2_with (go_at_call 25; (with_reducible refine HI.out.mono ?_); rintro e w' ⟨rfl, ⟨nd, rfl⟩⟩)
  go_ret
  exact ⟨by first | rfl | (simp; done) | (simp [*]; done), by repeat (first | exact Drawn0.refl _ | apply Drawn0.step)⟩
theorem anyWide_l0 (l : List Int) (s : Int) (hl : l.length ≤ 9223372036854775807) : ∀ (k i : Nat) (t : Bool), serinetteshadow_AnyWide.l0 k l s (l.length : Int) (i : Int) = some t → t = (l.drop i).any (fun n => wideB (shr .i64 n s)) ∧ (i < l.length → 0 ≤ s) := by
  intro k
  induction k with
  | zero => intro i t h; simp [serinetteshadow_AnyWide.l0] at h
  | succ k ih =>
    intro i t h
    simp only [serinetteshadow_AnyWide.l0] at h
    by_cases hi : i < l.length
    · have hw : wrap64 ((i : Int) + 1) = ((i + 1 : Nat) : Int) := by unfold wrap64; omega
      rw [if_pos (by omega), if_pos (by omega), if_pos (by omega), hw] at h
      have hd : l.drop i = rd l (i : Int) :: l.drop (i + 1) := by
        rw [List.drop_eq_getElem_cons hi]; simp [rd, List.getD_eq_getElem?_getD, List.getElem?_eq_getElem hi]
      by_cases hs : 0 ≤ s
      · rw [if_pos hs] at h
        rw [hd, List.any_cons]
        refine ⟨?_, fun _ => hs⟩
        by_cases h0 : shr .i64 (rd l (i : Int)) s / 4194304 = 0
        · rw [if_pos h0] at h
          rw [(ih _ _ h).1]
          simp [wideB, h0]
        · rw [if_neg h0] at h
          by_cases h1 : shr .i64 (rd l (i : Int)) s / 4194304 = -1
          · rw [if_pos h1] at h
            rw [(ih _ _ h).1]
            simp [wideB, h1]
          · rw [if_neg h1] at h
            rw [← Option.some.inj h]
            simp [wideB, h0, h1]
      · rw [if_neg hs] at h
        exact absurd h (by simp)
    · rw [if_neg (by omega)] at h
      rw [← Option.some.inj h, List.drop_of_length_le (by omega)]
      exact ⟨rfl, fun h => absurd h hi⟩
set_option maxHeartbeats 2000000 in
set_option maxRecDepth 100000 in
theorem fit_walk (k : Nat) (A0 : Option Addr) (c0 : Nat) (l0 y : List Int) (r : Int) (w : World) (hr0 : Kd.C (Kd.int .i64) w A0 l0.length l0) (hy : ¬ (y.length : Int) = 0) (h : lags_Fit.l0 k l0 y 0 = some r) :
    Calls Try.prog 23 #[.slice A0 l0.length c0] w fun e w' => e = .returned (.int .i64 r) ∧ Below w.heap.size w w' := by
  have HR0 := Aside0.mk hr0
  have HL : l0.length ≤ 9223372036854775807 := hr0.2.1
  have HY := Aside0.mk hy
  have H' := Aside0.mk h
  clear hr0 hy h
  have HB := Aside0.mk (Below.refl w.heap.size w)
  go_enter Try.func23, Try.ntmps23
  go_wp2
  go_loopg [4] k (fun kq v4 w' => ∃ (s : Int), Aside0 (w'.heap[w.heap.size]? = some (.cells #[.int .i64 s] 3 (0, 0))) ∧ Aside0 (lags_Fit.l0 kq l0 y s = some r) ∧ Aside0 (Below w.heap.size w w'))
  case atStart =>
    exact ⟨0, ⟨heap_alloc_new w _⟩, H', ⟨below_alloc HB.out _⟩⟩
  case round =>
    clear H' HB
    obtain ⟨s, HC, HA, HB⟩ := hrel
    have hcell := cell_of_one HC.out
    have hfree := free_of_one HC.out
    have HRr := Aside0.mk (Kd.C_below HR0.out HB.out)
    cases gk with
    | zero => exact absurd HA.out (by simp [lags_Fit.l0])
    | succ k1 =>
      have H := HA.out
      clear HA
      simp only [lags_Fit.l0] at H
      obtain ⟨t, ht, H⟩ := Option.bind_eq_some_iff.mp H
      have ht' := anyWide_l0 l0 s HL k1 0 t ht
      rw [List.drop_zero] at ht'
      have HCC := Aside0.mk (fit_ContainsFunc.calls A0 c0 l0 s w.heap.size wr HRr.out hcell ht'.2 t ht'.1.symm)
      clear ht ht'
      cases t with
      | true =>
        rw [if_pos rfl] at H
        have H' := Aside0.mk H
        clear H
        go_wp2_with (go_at_call 19; (with_reducible refine HCC.out.mono ?_); rintro e w' ⟨rfl, ⟨nd, rfl⟩⟩)
        go_roundg k1
        case measure => omega
        case rel => exact ⟨wrap64 (s + 1), ⟨one_setCell (w := wr.drewN nd) HC.out⟩, H', ⟨below_set (pw_below_drewN HB.out _) (Nat.le_refl _)⟩⟩
      | false =>
        rw [if_neg (by decide), if_neg HY.out] at H
        obtain rfl := Option.some.inj H
        go_wp2_with (go_at_call 19; (with_reducible refine HCC.out.mono ?_); rintro e w' ⟨rfl, ⟨nd, rfl⟩⟩)
        go_ret
        exact ⟨by first | rfl | (simp; done) | (simp [*]; done), by repeat (first | (with_reducible first | exact HB.out | apply below_alloc | apply pw_below_drewN | apply below_drew1) | exact HB.out)⟩
set_option maxHeartbeats 8000000 in
set_option maxRecDepth 100000 in
theorem lags_Fit.calls (k : Nat) (A0 : Option Addr) (c0 : Nat) (l0 : List Int) (r : Int) (w : World) (hr0 : Kd.C (Kd.int .i64) w A0 l0.length l0) (hc0 : l0.length ≤ c0) (h : lags_Fit.f k l0 = some r) :
    Calls Try.prog 23 #[.slice A0 l0.length c0] w fun e w' => e = .returned (.int .i64 r) ∧ Below w.heap.size w w' := by
  have H : lags_Fit.l0 k l0 ([] ++ [0]) 0 = some r := by
    have H : ((some (([] : List Int) : List Int)).bind fun y102 => (if y102.length < 17592186044416 then (lags_Fit.l0 k l0 (y102 ++ [0]) 0) else (none))) = some r := h
    rw [Option.bind_some, if_pos (by simp)] at H
    exact H
  exact fit_walk k A0 c0 l0 _ r w hr0 (by simp) H

end Go.Proofs.Ythcognclnmcbhaa.PA
