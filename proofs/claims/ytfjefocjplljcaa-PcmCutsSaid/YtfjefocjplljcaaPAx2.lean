/- Each Go function named below comes to what the plain Lean function of its name answers, wherever that answers (rounds enough, no panic, no row too long); texts by a program of this session by way of the kit's print.py, what that does not take by hand. Condition: what is read lies in memory as each theorem says. -/
import Derived.Test.YtfjefocjplljcaaPAx0
import Derived.Test.YtfjefocjplljcaaPAx1
import Derived.RangeFuncNested
import Derived.RangeFuncBound
import Derived.RangeFuncCalls
import Derived.RangeFuncLeaves
import Derived.Shelf.Abstract
import Derived.Shelf.RegionOpen
import Derived.WalkKit
import Derived.OwnWalkIn
import Derived.TacticsInMore
import Derived.LoopNIn
import Derived.LoopIn
import Derived.Maps.AppendAt
namespace Go.Proofs.Ytfjefocjplljcaa.PA
open Go.RowKit Go.Proofs.YtfjefocjplljcaaW.PrintWords Go.Proofs.YtfjefocjplljcaaW.PrintLast Go.Proofs.YtfjefocjplljcaaW.PrintMore
attribute [local go_sem] max2_int min2_int max_two min_two max_three min_three max_four min_four   -- for this text's walks alone
set_option linter.unusedVariables false
set_option linter.unusedSimpArgs false

/-! ### pcm_kinds: function 29 -/
mutual
def pcm_kinds.j0 : Nat → Int → Int → Bool → Option (Int)
  | 0, _, _, _ => none
  | k + 1, x0, x1, x7 => if x7 = true then (some 12) else (if x1 < 4 then (pcm_kinds.j1 k x0 true) else (pcm_kinds.j1 k x0 (decide (x1 > 32))))
def pcm_kinds.j1 : Nat → Int → Bool → Option (Int)
  | 0, _, _ => none
  | k + 1, x0, x14 => if x14 = true then (some 10) else (if x0 < 1 then (some 11) else (if x0 > 1048575 then (some 11) else (some 0)))
end
def pcm_kinds.f (k : Nat) (a0 : Int) (a1 : Int) (a2 : Int) : Option (Int) := if a2 < 1 then (pcm_kinds.j0 k a0 a1 true) else (pcm_kinds.j0 k a0 a1 (decide (a2 > 8)))
theorem pcm_kinds.mono_l : ∀ k, (∀ y0 y1 y2, LeO (pcm_kinds.j0 k y0 y1 y2) (pcm_kinds.j0 (k + 1) y0 y1 y2)) ∧ (∀ y0 y1, LeO (pcm_kinds.j1 k y0 y1) (pcm_kinds.j1 (k + 1) y0 y1))
  | 0 => ⟨fun _ _ _ r h => by simp [pcm_kinds.j0] at h, fun _ _ r h => by simp [pcm_kinds.j1] at h⟩
  | k + 1 => by
    obtain ⟨ih0, ih1⟩ := pcm_kinds.mono_l k
    refine ⟨?_, ?_⟩
    · intro y0 y1 y2
      unfold pcm_kinds.j0
      repeat' first
      | (with_reducible exact ih0 _ _ _)
      | (with_reducible exact ih1 _ _)
      | (with_reducible exact LeO.refl _)
      | (with_reducible exact LeO.none _)
      | (with_reducible refine LeO.ite ?_ ?_)
      | (with_reducible refine LeO.bind ?_ (fun _ => ?_))
      | exact ih0 _ _ _
      | exact ih1 _ _
      | exact LeO.none _
      | refine LeO.ite ?_ ?_
      | refine LeO.bind ?_ (fun _ => ?_)
    · intro y0 y1
      unfold pcm_kinds.j1
      repeat' first
      | (with_reducible exact ih0 _ _ _)
      | (with_reducible exact ih1 _ _)
      | (with_reducible exact LeO.refl _)
      | (with_reducible exact LeO.none _)
      | (with_reducible refine LeO.ite ?_ ?_)
      | (with_reducible refine LeO.bind ?_ (fun _ => ?_))
      | exact ih0 _ _ _
      | exact ih1 _ _
      | exact LeO.none _
      | refine LeO.ite ?_ ?_
      | refine LeO.bind ?_ (fun _ => ?_)
theorem pcm_kinds.mono : ∀ a0 a1 a2 k, LeO (pcm_kinds.f k a0 a1 a2) (pcm_kinds.f (k + 1) a0 a1 a2) := by
  intro a0 a1 a2 k
  obtain ⟨ih0, ih1⟩ := pcm_kinds.mono_l k
  unfold pcm_kinds.f
  repeat' first
      | (with_reducible exact ih0 _ _ _)
      | (with_reducible exact ih1 _ _)
      | (with_reducible exact LeO.refl _)
      | (with_reducible exact LeO.none _)
      | (with_reducible refine LeO.ite ?_ ?_)
      | (with_reducible refine LeO.bind ?_ (fun _ => ?_))
      | exact ih0 _ _ _
      | exact ih1 _ _
      | exact LeO.none _
      | refine LeO.ite ?_ ?_
      | refine LeO.bind ?_ (fun _ => ?_)
set_option maxHeartbeats 8000000 in
set_option maxRecDepth 100000 in
theorem pcm_kinds.calls (k : Nat) (a0 : Int) (a1 : Int) (a2 : Int) (r : Int) (w : World) (h : pcm_kinds.f k a0 a1 a2 = some r) :
    Calls Try.prog 29 #[.int .i64 a0, .int .i64 a1, .int .i64 a2] w fun e w' => e = .returned (.int .i64 r) ∧ Drawn0 w w' := by
  have H : (if a2 < 1 then (pcm_kinds.j0 k a0 a1 true) else (pcm_kinds.j0 k a0 a1 (decide (a2 > 8)))) = some r := h
  clear h
  have HC4 := Aside0.mk H
  clear H
  go_enter Try.func29, Try.ntmps29
  go_upto_region 1 with (fail)
  go_cut [7] (fun v7 wc => ∃ (kq : Nat) (x7_3 : Bool), v7 = .bool x7_3 ∧ Aside0 (pcm_kinds.j0 kq a0 a1 x7_3 = some r) ∧ Aside0 (kq ≤ k) ∧ Drawn0 w wc)
  case first =>
    have H := HC4.out
    clear HC4
    by_cases c5 : a2 < 1
    · rw [if_pos c5] at H
      have c5b0 : decide (a2 < 1) = true := decide_eq_true c5
      clear c5
      (first | rw [c5b0] | (simp only [i64_w, i32_w]; rw [c5b0]) | skip)
      have H' := Aside0.mk H
      clear H
      go_wp2
      go_meet
      case rel => exact ⟨_, (true), (by first | rfl | (simp; done) | (simp only [i64_w, i32_w]; done) | (simp [*]; done) | (simp only [i64_w, i32_w]; first | rfl | (simp; done) | (simp [*]; done))), H', ⟨by first | omega | exact Nat.le_refl _⟩, by repeat (first | exact Drawn0.refl _ | apply Drawn0.step)⟩
    · rw [if_neg c5] at H
      have c5b0 : decide (a2 < 1) = false := decide_eq_false c5
      clear c5
      (first | rw [c5b0] | (simp only [i64_w, i32_w]; rw [c5b0]) | skip)
      have H' := Aside0.mk H
      clear H
      go_wp2
      go_meet
      case rel => exact ⟨_, (decide (a2 > 8)), (by first | rfl | (simp; done) | (simp only [i64_w, i32_w]; done) | (simp [*]; done) | (simp only [i64_w, i32_w]; first | rfl | (simp; done) | (simp [*]; done))), H', ⟨by first | omega | exact Nat.le_refl _⟩, by repeat (first | exact Drawn0.refl _ | apply Drawn0.step)⟩
  case rest =>
    clear HC4
    try clear c2
    try clear p2
    try clear c5
    try clear c5b0
    obtain ⟨kq, x7_3, rfl, HA, HJ3, ⟨mc3, rfl⟩⟩ := hcut
    cases kq with
    | zero => exact absurd HA.out (by simp [pcm_kinds.j0])
    | succ kj3 =>
      have H := HA.out
      clear HA
      simp only [pcm_kinds.j0] at H
      by_cases c6 : x7_3 = true
      · subst c6
        have H1 : (some 12) = some r := by rw [if_pos rfl] at H; exact H
        clear H
        have H := H1
        clear H1
        obtain rfl := Option.some.inj H
        go_wp2
        go_ret
        exact ⟨by first | rfl | (simp; done) | (simp [*]; done), by repeat (first | exact Drawn0.refl _ | apply Drawn0.step)⟩
      · replace c6 := Bool.eq_false_iff.mpr c6
        subst c6
        have H1 : (if a1 < 4 then (pcm_kinds.j1 kj3 a0 true) else (pcm_kinds.j1 kj3 a0 (decide (a1 > 32)))) = some r := by rw [if_neg (show ¬ (false = true) by decide)] at H; exact H
        clear H
        have H := H1
        clear H1
        have HC7 := Aside0.mk H
        clear H
        go_upto_region 3 with (fail)
        go_cut [14] (fun v14 wc => ∃ (kq : Nat) (x14_6 : Bool), v14 = .bool x14_6 ∧ Aside0 (pcm_kinds.j1 kq a0 x14_6 = some r) ∧ Aside0 (kq ≤ kj3) ∧ Drawn0 w wc)
        case first =>
          have H := HC7.out
          clear HC7
          by_cases c8 : a1 < 4
          · rw [if_pos c8] at H
            have c8b0 : decide (a1 < 4) = true := decide_eq_true c8
            clear c8
            (first | rw [c8b0] | (simp only [i64_w, i32_w]; rw [c8b0]) | skip)
            have H' := Aside0.mk H
            clear H
            go_wp2
            go_meet
            case rel => exact ⟨_, (true), (by first | rfl | (simp; done) | (simp only [i64_w, i32_w]; done) | (simp [*]; done) | (simp only [i64_w, i32_w]; first | rfl | (simp; done) | (simp [*]; done))), H', ⟨by have := HJ3.out; first | omega | exact Nat.le_refl _⟩, by repeat (first | exact Drawn0.refl _ | apply Drawn0.step)⟩
          · rw [if_neg c8] at H
            have c8b0 : decide (a1 < 4) = false := decide_eq_false c8
            clear c8
            (first | rw [c8b0] | (simp only [i64_w, i32_w]; rw [c8b0]) | skip)
            have H' := Aside0.mk H
            clear H
            go_wp2
            go_meet
            case rel => exact ⟨_, (decide (a1 > 32)), (by first | rfl | (simp; done) | (simp only [i64_w, i32_w]; done) | (simp [*]; done) | (simp only [i64_w, i32_w]; first | rfl | (simp; done) | (simp [*]; done))), H', ⟨by have := HJ3.out; first | omega | exact Nat.le_refl _⟩, by repeat (first | exact Drawn0.refl _ | apply Drawn0.step)⟩
        case rest =>
          clear HC7
          try clear c2
          try clear p2
          try clear c3
          try clear c5
          try clear c5b0
          try clear c6
          try clear c8
          try clear c8b0
          try clear p2
          obtain ⟨kq, x14_6, rfl, HA, HJ6, ⟨mc6, rfl⟩⟩ := hcut
          cases kq with
          | zero => exact absurd HA.out (by simp [pcm_kinds.j1])
          | succ kj6 =>
            have H := HA.out
            clear HA
            simp only [pcm_kinds.j1] at H
            by_cases c9 : x14_6 = true
            · subst c9
              have H1 : (some 10) = some r := by rw [if_pos rfl] at H; exact H
              clear H
              have H := H1
              clear H1
              obtain rfl := Option.some.inj H
              go_wp2
              go_ret
              exact ⟨by first | rfl | (simp; done) | (simp [*]; done), by repeat (first | exact Drawn0.refl _ | apply Drawn0.step)⟩
            · replace c9 := Bool.eq_false_iff.mpr c9
              subst c9
              have H1 : (if a0 < 1 then (some 11) else (if a0 > 1048575 then (some 11) else (some 0))) = some r := by rw [if_neg (show ¬ (false = true) by decide)] at H; exact H
              clear H
              have H := H1
              clear H1
              by_cases c10 : a0 < 1
              · rw [if_pos c10] at H
                have c10b0 : decide (a0 < 1) = true := decide_eq_true c10
                clear c10
                obtain rfl := Option.some.inj H
                go_wp2
                go_ret
                exact ⟨by first | rfl | (simp; done) | (simp [*]; done), by repeat (first | exact Drawn0.refl _ | apply Drawn0.step)⟩
              · rw [if_neg c10] at H
                have c10b0 : decide (a0 < 1) = false := decide_eq_false c10
                clear c10
                by_cases c11 : a0 > 1048575
                · rw [if_pos c11] at H
                  have c11b0 : decide (1048575 < a0) = true := decide_eq_true c11
                  clear c11
                  obtain rfl := Option.some.inj H
                  go_wp2
                  go_ret
                  exact ⟨by first | rfl | (simp; done) | (simp [*]; done), by repeat (first | exact Drawn0.refl _ | apply Drawn0.step)⟩
                · rw [if_neg c11] at H
                  have c11b0 : decide (1048575 < a0) = false := decide_eq_false c11
                  clear c11
                  obtain rfl := Option.some.inj H
                  go_wp2
                  go_ret
                  exact ⟨by first | rfl | (simp; done) | (simp [*]; done), by repeat (first | exact Drawn0.refl _ | apply Drawn0.step)⟩

-- NOT PRINTED: function 40 (slices_IndexFunc_int_int)

-- NOT PRINTED: function 30 (slices_ContainsFunc_int_int)

/-! ### pcm_Check: function 11 -/
attribute [local go_sem] Oper.semAt_some
set_option maxHeartbeats 8000000 in
set_option maxRecDepth 100000 in
theorem pcm_In_same (a0 : Int) (a1 : Int) (r : Bool) (w : World) (h : pcm_In.f a0 a1 = some r) :
    Calls Try.prog 15 #[.int .i64 a0, .int .i64 a1] w fun e w' => e = .returned (.bool r) ∧ w' = w := by
  have H : (if a1 < 1 then (some false) else (if a1 > 62 then (some false) else (if 0 ≤ (wrap64 (a1 - 1)) then (if (shr .i64 a0 (wrap64 (a1 - 1))) = 0 then (some true) else (some ((shr .i64 a0 (wrap64 (a1 - 1))) == (-1)))) else (none)))) = some r := h
  clear h
  by_cases c3 : a1 < 1
  · rw [if_pos c3] at H
    have c3b0 : decide (a1 < 1) = true := decide_eq_true c3
    clear c3
    obtain rfl := Option.some.inj H
    go_enter Try.func15, Try.ntmps15
    go_wp2
    go_ret
    exact ⟨by first | rfl | (simp; done) | (simp [*]; done), rfl⟩
  · rw [if_neg c3] at H
    have c3b0 : decide (a1 < 1) = false := decide_eq_false c3
    clear c3
    by_cases c4 : a1 > 62
    · rw [if_pos c4] at H
      have c4b0 : decide (62 < a1) = true := decide_eq_true c4
      clear c4
      obtain rfl := Option.some.inj H
      go_enter Try.func15, Try.ntmps15
      go_wp2
      go_ret
      exact ⟨by first | rfl | (simp; done) | (simp [*]; done), rfl⟩
    · rw [if_neg c4] at H
      have c4b0 : decide (62 < a1) = false := decide_eq_false c4
      clear c4
      obtain ⟨ji5, hji5⟩ : ∃ j_ : Int, (wrap64 (a1 - 1)) = j_ := ⟨_, rfl⟩
      replace H : (if 0 ≤ (ji5) then (if (shr .i64 a0 (ji5)) = 0 then (some true) else (some ((shr .i64 a0 (ji5)) == (-1)))) else (none)) = some r := by first | (rw [hji5] at H; exact H) | (simp only [hji5] at H ⊢; exact H)
      have hji5w : (IntKind.i64.wrap (a1 - 1)) = ji5 := (i64_w _).trans hji5
      by_cases c6 : 0 ≤ (ji5)
      · rw [if_pos c6] at H
        have c6b0 := eq_true c6
        have c6b1 : decide (0 ≤ (ji5)) = true := decide_eq_true c6
        clear c6
        obtain ⟨ji7, hji7⟩ : ∃ j_ : Int, (shr .i64 a0 (ji5)) = j_ := ⟨_, rfl⟩
        replace H : (if (ji7) = 0 then (some true) else (some ((ji7) == (-1)))) = some r := by first | (rw [hji7] at H; exact H) | (simp only [hji7] at H ⊢; exact H)
        have hji7_ : (a0 / 2 ^ min (ji5).toNat 64) = ji7 := hji7
        have hji7z : (ji5) ≤ 64 → (a0 / 2 ^ (ji5).toNat) = ji7 := shr_small hji7
        by_cases c8 : (ji7) = 0
        · rw [if_pos c8] at H
          have c8b0 : ((ji7) == 0) = true := beq_iff_eq.mpr c8
          have c8b1 : ((ji7) != 0) = false := bne_eq_false_iff_eq.mpr c8
          clear c8
          obtain rfl := Option.some.inj H
          go_enter Try.func15, Try.ntmps15
          go_wp2
          go_ret
          exact ⟨by first | rfl | (simp; done) | (simp only [← hji5, ← hji7] <;> (first | rfl | simp)) | (simp [*]; done), rfl⟩
        · rw [if_neg c8] at H
          have c8b0 : ((ji7) == 0) = false := beq_eq_false_iff_ne.mpr c8
          have c8b1 : ((ji7) != 0) = true := bne_iff_ne.mpr c8
          obtain rfl := Option.some.inj H
          go_enter Try.func15, Try.ntmps15
          go_wp2
          go_ret
          exact ⟨by first | rfl | (simp; done) | (simp only [← hji5, ← hji7] <;> (first | rfl | simp)) | (simp [*]; done), rfl⟩
      · rw [if_neg c6] at H
        exact absurd H (by simp)

theorem pcm_In_some (n p : Int) : pcm_In.f n p = some ((pcm_In.f n p).getD false) := by
  have : ∃ b, pcm_In.f n p = some b := by
    unfold pcm_In.f
    repeat' split
    all_goals first | exact ⟨_, rfl⟩ | (exfalso; unfold wrap64 at *; omega)
  obtain ⟨b, hb⟩ := this
  simp [hb]
/-- What is wrong with a sound. -/
def pcm_Check.f (a0_0 : Int) (a0_1 : Int) (l0_2 : List (List Int)) : Option (Int) :=
  (pcm_kinds.f 5 a0_0 a0_1 (l0_2.length : Int)).bind fun e => if e = 0 then ((pcm_Many.f a0_0 a0_1 l0_2).bind fun m =>
    if l0_2.any (fun c => (c.length : Int) != m) = true then some 13 else if m ≤ 1000000 ∧ l0_2.length ≤ 1000000 then
      (if (pcmAll l0_2 m.toNat).any (fun x => !(pcm_In.f x a0_1).getD false) = true then some 6 else some 0) else none) else some e
set_option maxRecDepth 100000 in
set_option maxHeartbeats 4000000 in
theorem pcm_Check1.calls (A0 : Option Addr) (c0 : Nat) (l0 : List (List Int)) (A1 : Option Addr) (n1 c1 : Nat) (g : Nat) (a0 a1 m : Int) (w : World) (hbx : w.heap[g]? = some (.cells #[.int .i64 a0, .int .i64 a1, .slice A0 l0.length c0] 24 (0, 0)))
    (hr0 : Kd.C (Kd.slice 3 (Kd.int .i64)) w A0 l0.length l0) (hc0 : l0.length ≤ c0) (hm : pcm_Many.f a0 a1 l0 = some m) :
    Calls Try.prog 31 #[.slice A1 n1 c1, .pointer (some ⟨g, 0, none⟩)] w fun e w' => e = .returned (.bool ((n1 : Int) != m)) ∧ Below w.heap.size w w' := by
  have hu24 := Try.underlying24
  have HR := Aside0.mk hr0
  have HCA := Aside0.mk hc0
  have HM := Aside0.mk hm
  clear hr0 hc0 hm
  have hz0 : w.cell? ⟨g, 0, none⟩ = some (.int .i64 a0) := (blk_cell hbx 0).trans rfl
  have hz1 : w.cell? ⟨g, 1, none⟩ = some (.int .i64 a1) := (blk_cell hbx 1).trans rfl
  have hz2 : w.cell? ⟨g, 2, none⟩ = some (.slice A0 l0.length c0) := (blk_cell hbx 2).trans rfl
  clear hbx
  go_enter Try.func31, Try.ntmps31
  go_wp2_with (go_at_call 13; refine (pcm_Many.calls a0 a1 _ _ l0 m _ HR.out HCA.out HM.out).mono ?_; rintro e w1 ⟨rfl, hb1⟩)
  go_ret
  exact ⟨rfl, hb1⟩
set_option maxRecDepth 100000 in
set_option maxHeartbeats 4000000 in
theorem pcm_IndexFunc.calls (A0 : Option Addr) (c0 : Nat) (l0 : List (List Int)) (g : Nat) (a0 a1 m : Int) (w : World) (hbx : w.heap[g]? = some (.cells #[.int .i64 a0, .int .i64 a1, .slice A0 l0.length c0] 24 (0, 0)))
    (hr0 : Kd.C (Kd.slice 3 (Kd.int .i64)) w A0 l0.length l0) (hc0 : l0.length ≤ c0) (hm : pcm_Many.f a0 a1 l0 = some m) (hlx : l0.length < 4611686018427387904) :
    Calls Try.prog 40 #[.slice A0 l0.length c0, .func (.func 31) #[] #[.pointer (some ⟨g, 0, none⟩)]] w fun e w' => ∃ i : Int, e = .returned (.int .i64 i) ∧ decide (0 ≤ i) = l0.any (fun c => (c.length : Int) != m) ∧ Below w.heap.size w w' := by
  have HR := Aside0.mk hr0
  have HCA := Aside0.mk hc0
  have HM := Aside0.mk hm
  have HBX := Aside0.mk hbx
  clear hr0 hc0 hm hbx
  have at_mem : ∀ (j : Nat) (hj : j < l0.length), rd_L1 l0 (j : Int) = l0[j] := fun j hj => by simp [rd_L1, List.getD_eq_getElem?_getD, List.getElem?_eq_getElem hj]
  have AM := Aside0.mk at_mem
  clear at_mem
  go_enter Try.func40, Try.ntmps40
  go_wp2
  go_loopg [8] l0.length (fun kq v8 w' => ∃ (i : Nat), v8 = .int .i64 (i : Int) ∧ Aside0 (i + kq = l0.length) ∧ Aside0 (∀ j : Nat, j < i → ((rd_L1 l0 (j : Int)).length : Int) = m) ∧ Aside0 (Below w.heap.size w w'))
  case atStart => exact ⟨0, rfl, ⟨by omega⟩, ⟨fun j hj => by omega⟩, ⟨Below.refl _ _⟩⟩
  case round =>
    obtain ⟨i, rfl, HK, HN, HB⟩ := hrel
    by_cases hi : i < l0.length
    · have p1 : 0 ≤ (i : Int) := by omega
      have q1 : (i : Int) < (l0.length : Int) := by omega
      obtain ⟨ad1, A1, c1, e1, hx1, hl1, hi1⟩ := at_L1 HR.out (i : Int) p1 q1
      cases e1
      replace hx1 := (HB.out.cell (World.block_lt_of_cell? w _ hx1)).trans hx1
      clear hl1 hi1
      simp only [Int.toNat_natCast] at hx1
      have hq := decide_eq_true q1
      replace q1 := eq_true q1
      replace p1 := eq_true p1
      have hw1 : wrap64 ((i : Int) + 1) = ((i + 1 : Nat) : Int) := by unfold wrap64; omega
      have HW := Aside0.mk hw1
      clear hw1
      have hcall := pcm_Check1.calls (some ad1) c0 l0 A1 (rd_L1 l0 (i : Int)).length c1 g a0 a1 m wr (blk_below (g := g) HBX.out HB.out) (Kd.C_below HR.out HB.out) HCA.out HM.out
      by_cases hp : ((rd_L1 l0 (i : Int)).length : Int) = m
      · have hpb : (((rd_L1 l0 (i : Int)).length : Int) != m) = false := bne_eq_false_iff_eq.mpr hp
        rw [hpb] at hcall
        have HC := Aside0.mk hcall
        clear hcall
        have HP := Aside0.mk hp
        clear hp hpb
        go_wp2_with (go_at_call 31; (with_reducible refine HC.out.mono ?_); rintro e w1 ⟨rfl, hb1⟩)
        go_roundg (l0.length - (i + 1))
        case measure => have := HK.out; omega
        case rel => exact ⟨i + 1, by first | rfl | (simp; done) | (simp [HW.out]; done) | go_num, ⟨by omega⟩, ⟨fun j hj => by
          rcases Nat.lt_or_ge j i with h | h
          · exact HN.out j h
          · obtain rfl : j = i := by omega
            exact HP.out⟩, ⟨below_step HB.out hb1⟩⟩
      · have hpb : (((rd_L1 l0 (i : Int)).length : Int) != m) = true := bne_iff_ne.mpr hp
        rw [hpb] at hcall
        have HC := Aside0.mk hcall
        clear hcall
        have HP := Aside0.mk hpb
        clear hp hpb
        go_wp2_with (go_at_call 31; (with_reducible refine HC.out.mono ?_); rintro e w1 ⟨rfl, hb1⟩)
        go_ret
        refine ⟨_, rfl, ?_, below_step HB.out hb1⟩
        rw [decide_eq_true (Int.natCast_nonneg _)]
        symm
        rw [List.any_eq_true]
        exact ⟨_, List.getElem_mem hi, by rw [← AM.out i hi]; exact HP.out⟩
    · have hq : decide ((i : Int) < (l0.length : Int)) = false := decide_eq_false (by omega)
      go_wp2
      go_ret
      refine ⟨_, rfl, ?_, HB.out⟩
      symm
      rw [show decide ((0 : Int) ≤ -1) = false from rfl, List.any_eq_false]
      intro c hc
      obtain ⟨j, hj, rfl⟩ := List.getElem_of_mem hc
      have := HN.out j (by omega)
      rw [AM.out j hj] at this
      simp [this]
set_option maxRecDepth 100000 in
set_option maxHeartbeats 4000000 in
theorem pcm_ContainsFunc.calls (A0 : Option Addr) (c0 : Nat) (l0 : List (List Int)) (g : Nat) (a0 a1 m : Int) (w : World) (hbx : w.heap[g]? = some (.cells #[.int .i64 a0, .int .i64 a1, .slice A0 l0.length c0] 24 (0, 0)))
    (hr0 : Kd.C (Kd.slice 3 (Kd.int .i64)) w A0 l0.length l0) (hc0 : l0.length ≤ c0) (hm : pcm_Many.f a0 a1 l0 = some m) (hlx : l0.length < 4611686018427387904) (t : Bool) (ht : l0.any (fun c => (c.length : Int) != m) = t) :
    Calls Try.prog 30 #[.slice A0 l0.length c0, .func (.func 31) #[] #[.pointer (some ⟨g, 0, none⟩)]] w fun e w' => e = .returned (.bool t) ∧ Below w.heap.size w w' := by
  have hI := pcm_IndexFunc.calls A0 c0 l0 g a0 a1 m w hbx hr0 hc0 hm hlx
  rw [ht] at hI
  have HI := Aside0.mk hI
  clear hI hr0 ht hbx hm hc0
  go_enter Try.func30, Try.ntmps30
  go_wp2_with (go_at_call 40; (with_reducible refine HI.out.mono ?_); rintro e w1 ⟨i, rfl, hd, hb1⟩)
  go_ret
  exact ⟨by first | rfl | (simp; done) | (rw [← hd]; done) | (simp [*]; done), hb1⟩
set_option maxRecDepth 100000 in
set_option maxHeartbeats 8000000 in
theorem pcm_Check.calls (a0_0 : Int) (a0_1 : Int) (A0_2 : Option Addr) (c0_2 : Nat) (l0_2 : List (List Int)) (r : Int) (w : World) (hr0_2 : Kd.C (Kd.slice 3 (Kd.int .i64)) w A0_2 l0_2.length l0_2) (hc0_2 : l0_2.length ≤ c0_2) (h : pcm_Check.f a0_0 a0_1 l0_2 = some r) :
    Calls Try.prog 11 #[.agg #[.int .i64 a0_0, .int .i64 a0_1, .slice A0_2 l0_2.length c0_2]] w fun e w' => e = .returned (.int .i64 r) ∧ Below w.heap.size w w' := by
  have hu24 := Try.underlying24
  obtain ⟨eI, hk, h⟩ := Option.bind_eq_some_iff.mp h
  have HC := Aside0.mk hr0_2
  have HCA := Aside0.mk hc0_2
  have HK := Aside0.mk hk
  have H := Aside0.mk h
  clear hr0_2 hc0_2 hk h
  refine (callsIn_wide (n := 6)).1 ?_
  refine callsIn_of_wp_marks Try.func11 rfl trivial ?_ rfl
  simp only [Try.ntmps11, List.size_toArray, List.length_cons, List.length_nil, Nat.reduceAdd, Nat.reduceSub, Array.replicate_succ, Array.replicate_zero, List.push_toArray, List.append_toArray, List.nil_append, List.cons_append]
  have hn6 : 1 ≤ 6 := by omega
  obtain ⟨CS, hCS⟩ : ∃ CS : Array Value, CS = #[.int .i64 a0_0, .int .i64 a0_1, .slice A0_2 l0_2.length c0_2] := ⟨_, rfl⟩
  have k0 : ((w.alloc (.cells CS 24)).alloc (.cells #[.int .i64 0] 27)).heap[w.heap.size]? = some (.cells CS 24 (0, 0)) := blk_alloc (World.alloc_heap_new w _) _
  have k1 : Boxed ((w.alloc (.cells CS 24)).alloc (.cells #[.int .i64 0] 27)) (w.heap.size + 1) 27 (.int .i64 0) := by
    have h := Boxed.new (w.alloc (.cells CS 24)) 27 (.int .i64 0)
    rwa [World.size_alloc] at h
  have hBw : Below w.heap.size w ((w.alloc (.cells CS 24)).alloc (.cells #[.int .i64 0] 27)) := ((Below.refl _ w).alloc (Nat.le_refl _) _).alloc (by simp) _
  have hsz : ((w.alloc (.cells CS 24)).alloc (.cells #[.int .i64 0] 27)).heap.size = w.heap.size + 2 := by simp
  have HCS := Aside0.mk hCS
  rw [hCS] at k0 k1 hBw hsz
  clear hCS
  have K0 := Aside0.mk k0
  have K1 := Aside0.mk k1
  have HB := Aside0.mk hBw
  have HSZ := Aside0.mk hsz
  clear k0 k1 hBw hsz
  by_cases ce : eI = 0
  case neg =>
    have c1 : (eI == 0) = false := beq_eq_false_iff_ne.mpr ce
    have c2 : (eI != 0) = true := bne_iff_ne.mpr ce
    have h2 := H.out
    rw [if_neg ce] at h2
    obtain rfl := Option.some.inj h2
    clear H h2
    gi_wp2_with (refine ⟨trivial, ?_⟩; gi_at_call 29; refine (callsIn_wide.2 (pcm_kinds.calls 5 a0_0 a0_1 _ _ _ HK.out)).mono ?_; rintro e w1 ⟨rfl, ⟨d, rfl⟩⟩; have hc1 := K1.out.cell; have hf1 := K1.out.frozen)
    have hc5 := World.cell?_setCell_same' (((w.alloc (.cells #[.int .i64 a0_0, .int .i64 a0_1, .slice A0_2 l0_2.length c0_2] 24)).alloc (.cells #[.int .i64 0] 27)).drewN d) ⟨w.heap.size + 1, 0, none⟩ (.int .i64 eI) (congrArg Option.isSome hc1)
    refine ⟨.int .i64 eI, ?_, rfl, (pw_below_drewN HB.out d).setCell (p := ⟨w.heap.size + 1, 0, none⟩) (by simp) _⟩
    simp [results, Try.f11, go_sem, hc5]
  case pos =>
  subst ce
  have h2 := H.out
  rw [if_pos rfl] at h2
  clear H
  obtain ⟨mI, hm, h2⟩ := Option.bind_eq_some_iff.mp h2
  have HM := Aside0.mk hm
  have H := Aside0.mk h2
  clear h2 hm
  have hch : l0_2.length ≤ 8 := by
    have hk := HK.out
    simp only [pcm_kinds.f, pcm_kinds.j0] at hk
    by_cases h1 : (l0_2.length : Int) < 1
    · rw [if_pos h1, if_pos trivial] at hk; exact absurd hk (by simp)
    · rw [if_neg h1] at hk
      by_cases h3 : (l0_2.length : Int) > 8
      · rw [decide_eq_true h3, if_pos rfl] at hk; exact absurd hk (by simp)
      · omega
  have hlx : l0_2.length < 4611686018427387904 := by omega
  cases hany : l0_2.any (fun c => (c.length : Int) != mI) with
  | true =>
    have h2 := H.out
    rw [hany, if_pos rfl] at h2
    obtain rfl := Option.some.inj h2
    clear H h2
    gi_wp2_with (first
      | (refine ⟨trivial, ?_⟩; gi_at_call 29; refine (callsIn_wide.2 (pcm_kinds.calls 5 a0_0 a0_1 _ _ _ HK.out)).mono ?_; rintro e w1 ⟨rfl, ⟨d, rfl⟩⟩)
      | (refine ⟨trivial, ?_⟩; gi_at_call 30; refine (callsIn_wide.2 (pcm_ContainsFunc.calls A0_2 c0_2 l0_2 w.heap.size a0_0 a0_1 mI _ (blk_drewN K0.out _) (Kd.C_below HC.out (pw_below_drewN HB.out _)) HCA.out HM.out hlx true hany)).mono ?_; rintro e w3 ⟨rfl, hb3⟩; have k3 : Boxed w3 (w.heap.size + 1) 27 (.int .i64 0) := blk_below (g := w.heap.size + 1) (blk_drewN K1.out d) hb3; have hc3 := k3.cell; have hf3 := k3.frozen))
    have hc5 := World.cell?_setCell_same' w3 ⟨w.heap.size + 1, 0, none⟩ (.int .i64 13) (by rw [hc3]; rfl)
    refine ⟨.int .i64 13, ?_, rfl, ((below_step (pw_below_drewN HB.out d) hb3)).setCell (p := ⟨w.heap.size + 1, 0, none⟩) (by simp) _⟩
    simp [results, Try.f11, go_sem, hc5]
  | false =>
    have h2 := H.out
    rw [hany, if_neg (by simp)] at h2
    by_cases hc : mI ≤ 1000000 ∧ l0_2.length ≤ 1000000
    case neg => rw [if_neg hc] at h2; exact absurd h2 (by simp)
    rw [if_pos hc] at h2
    clear H
    have H := Aside0.mk h2
    clear h2
    have hm0 : 0 ≤ mI := by
      have hm := HM.out
      unfold pcm_Many.f at hm
      split at hm
      · rw [← Option.some.inj hm]; exact Int.le_refl _
      · split at hm
        · rw [← Option.some.inj hm]; exact Int.natCast_nonneg _
        · cases hm
    obtain ⟨m, rfl⟩ := Int.eq_ofNat_of_zero_le hm0
    have hrow2 : ∀ j : Nat, j < l0_2.length → m ≤ (rd_L1 l0_2 (j : Int)).length := fun j hj => by
      have hmem : rd_L1 l0_2 (j : Int) ∈ l0_2 := by
        have : rd_L1 l0_2 (j : Int) = l0_2[j] := by simp [rd_L1, List.getD_eq_getElem?_getD, List.getElem?_eq_getElem hj]
        rw [this]; exact List.getElem_mem _
      have := List.any_eq_false.1 hany _ hmem
      simp at this
      omega
    have hmx : m ≤ 1000000 := by omega
    clear hm0 hc
    gi_wp2_with (first
      | (refine ⟨trivial, ?_⟩; gi_at_call 29; refine (callsIn_wide.2 (pcm_kinds.calls 5 a0_0 a0_1 _ _ _ HK.out)).mono ?_; rintro e w1 ⟨rfl, ⟨d, rfl⟩⟩)
      | (refine ⟨trivial, ?_⟩; gi_at_call 30; refine (callsIn_wide.2 (pcm_ContainsFunc.calls A0_2 c0_2 l0_2 w.heap.size a0_0 a0_1 (m : Int) _ (blk_drewN K0.out _) (Kd.C_below HC.out (pw_below_drewN HB.out _)) HCA.out HM.out hlx false hany)).mono ?_; rintro e w3 ⟨rfl, hb3⟩; have k3 : w3.heap[w.heap.size]? = some (.cells #[.int .i64 a0_0, .int .i64 a0_1, .slice A0_2 l0_2.length c0_2] 24 (0, 0)) := blk_below (g := w.heap.size) (blk_drewN K0.out d) hb3; have hz0 := (blk_cell k3 0).trans rfl; have hz1 := (blk_cell k3 1).trans rfl; have hz2 := (blk_cell k3 2).trans rfl)
      | (refine ⟨trivial, ?_⟩; gi_at_call 32; refine (pcm_samples_in _ _ _ _ _ _ _).mono ?_; rintro e w4 ⟨rfl, rfl⟩))
    clear hz0 hz1 hz2
    have k1 : Boxed w3 (w.heap.size + 1) 27 (.int .i64 0) := blk_below (g := w.heap.size + 1) (blk_drewN K1.out d) hb3
    have hB3 : Below w.heap.size w w3 := below_step (pw_below_drewN HB.out d) hb3
    have hs3 : w.heap.size + 2 ≤ w3.heap.size := by have h := hb3.size; have e := HSZ.out; exact e ▸ h
    have hBx : Below w.heap.size w (w3.alloc (.cells #[.int .i64 a0_0, .int .i64 a0_1, .slice A0_2 l0_2.length c0_2] 24)) := below_alloc hB3 _
    have kx : (w3.alloc (.cells #[.int .i64 a0_0, .int .i64 a0_1, .slice A0_2 l0_2.length c0_2] 24)).heap[w3.heap.size]? = some (.cells #[.int .i64 a0_0, .int .i64 a0_1, .slice A0_2 l0_2.length c0_2] 24 (0, 0)) := World.alloc_heap_new w3 _
    have kx0 : (w3.alloc (.cells #[.int .i64 a0_0, .int .i64 a0_1, .slice A0_2 l0_2.length c0_2] 24)).heap[w.heap.size]? = some (.cells #[.int .i64 a0_0, .int .i64 a0_1, .slice A0_2 l0_2.length c0_2] 24 (0, 0)) := blk_alloc k3 _
    have kx1 : Boxed (w3.alloc (.cells #[.int .i64 a0_0, .int .i64 a0_1, .slice A0_2 l0_2.length c0_2] 24)) (w.heap.size + 1) 27 (.int .i64 0) := k1.alloc _
    obtain ⟨W0, hW0⟩ : ∃ W0, w3.alloc (.cells #[.int .i64 a0_0, .int .i64 a0_1, .slice A0_2 l0_2.length c0_2] 24) = W0 := ⟨_, rfl⟩
    have hsz : W0.heap.size = w3.heap.size + 1 := by rw [← hW0]; simp
    rw [hW0] at hBx kx kx0 kx1 ⊢
    obtain ⟨B, hBdef⟩ : ∃ B, w3.heap.size = B := ⟨_, rfl⟩
    rw [hBdef] at kx hsz hs3 ⊢
    clear hW0 hB3 k1 k3 hb3
    have HSZ3 := Aside0.mk hsz
    have HS3 := Aside0.mk hs3
    clear hsz hs3 hBdef
    refine wpIn_rangeFunc_ownG rfl hn6 (gf := 41) (lb := #[.pointer (some ⟨B, 0, none⟩)]) rfl trivial (enters_of Try.func41 (by kernel_rfl) rfl)
      (pcm_samples_stops (6 - 1) (by omega) B w W0 a0_0 a0_1 A0_2 c0_2 l0_2 m HC.out HCA.out HM.out hrow2 (by omega) hlx hBx kx)
      kpB_t (kpB_b (by have := HSZ3.out; have := HS3.out; omega)) (Below.refl _ _) (fun _ => rfl)
      (fun pre W => ((((∀ x ∈ pre, (pcm_In.f x a0_1).getD false = true) ∧ Boxed W (w.heap.size + 1) 27 (.int .i64 0)) ∧ W.heap[w.heap.size]? = some (.cells #[.int .i64 a0_0, .int .i64 a0_1, .slice A0_2 l0_2.length c0_2] 24 (0, 0))) ∧ W.heap[B]? = some (.cells #[.int .i64 a0_0, .int .i64 a0_1, .slice A0_2 l0_2.length c0_2] 24 (0, 0))) ∧ Below w.heap.size w W)
      (fun c pre W => (c = .ret ∧ (∃ x ∈ pre, (pcm_In.f x a0_1).getD false = false) ∧ Boxed W (w.heap.size + 1) 27 (.int .i64 6)) ∧ Below w.heap.size w W)
      ?hI ?hIx
      ⟨⟨⟨⟨by simp, kx1⟩, kx0⟩, kx⟩, hBx⟩
      (fun x => { tmps := #[.agg #[.int .i64 a0_0, .int .i64 a0_1, .slice A0_2 l0_2.length c0_2], .pointer (some ⟨w.heap.size, 0, none⟩), .pointer (some ⟨w.heap.size + 1, 0, none⟩), .int .i64 0, .int .i64 x, .pointer (some ⟨w.heap.size, 0, none⟩), .int .i64 a0_0, .pointer (some ⟨w.heap.size, 1, none⟩), .int .i64 a0_1, .pointer (some ⟨w.heap.size, 2, none⟩), .slice A0_2 l0_2.length c0_2, .int .i64 l0_2.length, .int .i64 0, .int .i64 0, .bool false, undef, .pointer (some ⟨w.heap.size, 2, none⟩), .slice A0_2 l0_2.length c0_2, .func (.func 31) #[] #[.pointer (some ⟨w.heap.size, 0, none⟩)], .bool false, .agg #[.int .i64 a0_0, .int .i64 a0_1, .slice A0_2 l0_2.length c0_2], .func (.func 41) #[] #[.pointer (some ⟨B, 0, none⟩)], .int .i64 x, undef, undef, undef, undef, undef], defers := [] }) ?assign ?body ?done ?stop
    case hI => exact OwnFrom.and (Own.from (fun s A B row hs hg hr => ⟨⟨⟨hs.1.1.1, blk_kept hs.1.1.2 hg hr⟩, blk_kept hs.1.2 hg hr⟩, blk_kept hs.2 hg hr⟩) _) (ownFrom_below (Nat.le_refl _) (by have := HSZ3.out; have := HS3.out; omega))
    case hIx => exact fun c => OwnFrom.and (Own.from (fun s A B row hs hg hr => ⟨hs.1, hs.2.1, blk_kept hs.2.2 hg hr⟩) _) (ownFrom_below (Nat.le_refl _) (by have := HSZ3.out; have := HS3.out; omega))
    case assign =>
      intro l x W K hK
      gi_wp2
      exact hK
    case body =>
      rintro l pre x W ⟨⟨⟨⟨hp, b1⟩, b0⟩, bB⟩, hB⟩ _
      have hz1 : W.cell? ⟨w.heap.size, 1, none⟩ = some (.int .i64 a0_1) := (blk_cell b0 1).trans rfl
      have h4 : 1 ≤ 6 - 1 - 1 := by omega
      have hc1 := b1.cell
      have hf1 := b1.frozen
      have hin := pcm_In_same x a0_1 _ W (pcm_In_some x a0_1)
      cases hb : (pcm_In.f x a0_1).getD false with
      | true =>
        rw [hb] at hin
        gi_wp2_with (refine ⟨trivial, ?_⟩; gi_at_call 15; refine (CallsIn.inRound l (callsIn_wide.2 hin)).mono ?_; rintro e1 w1 ⟨rfl, hw⟩; obtain rfl := hw.symm)
        exact ⟨KeepsFrom.refl _ _, kpB_of (Below.refl _ _) bB bB, ⟨⟨⟨⟨fun y hy => (List.mem_append.1 hy).elim (hp y) (fun e => by simp at e; subst e; exact hb), b1⟩, b0⟩, bB⟩, hB⟩⟩
      | false =>
        rw [hb] at hin
        gi_wp2_with (refine ⟨trivial, ?_⟩; gi_at_call 15; refine (CallsIn.inRound l (callsIn_wide.2 hin)).mono ?_; rintro e1 w1 ⟨rfl, hw⟩; obtain rfl := hw.symm)
        exact ⟨(KeepsOthers.setCell _ _ _).from _, ⟨rfl, ⟨x, by simp, hb⟩, b1.set _⟩, hB.setCell (p := ⟨w.heap.size + 1, 0, none⟩) (Nat.le_succ _) _⟩
    case done =>
      rintro D ys W hD rfl ⟨⟨⟨⟨hp, b1⟩, b0⟩, bB⟩, hB⟩ hK
      have hc1 := b1.cell
      have hf1 := b1.frozen
      have hr0 : r = 0 := by
        have h := H.out
        rw [Int.toNat_natCast, if_neg (by rw [Bool.not_eq_true, List.any_eq_false]; intro x hx; simp [hp x hx])] at h
        exact (Option.some.inj h).symm
      subst hr0
      gi_wp2
      have hK' := (KeepsOthers.setCell W ⟨w.heap.size + 1, 0, none⟩ (.int .i64 0)).same D _ hK rfl
      refine ⟨by simp, .inl ⟨_, _, rfl, run_takeDeferred hK', ?_⟩⟩
      have hc5 := cell_kept (World.cell?_setCell_same' W ⟨w.heap.size + 1, 0, none⟩ (.int .i64 0) (by rw [hc1]; rfl)) (grownBy_putObj' _ D (.deferred none)) (fun r e => by cases e; exact ⟨_, hK', rfl⟩)
      refine ⟨.int .i64 0, ?_, rfl, (hB.setCell (p := ⟨w.heap.size + 1, 0, none⟩) (Nat.le_succ _) _).trans (belowK_b (w := w) (Nat.le_refl _) _ D _ _ (by have := HSZ3.out; have := HS3.out; omega) hK' rfl rfl)⟩
      simp [results, Try.f11, go_sem, hc5]
    case stop =>
      rintro D c pre W hD hpre ⟨⟨rfl, ⟨x, hx, hb⟩, b6⟩, hB⟩ hK
      have hr6 : r = 6 := by
        have h := H.out
        rw [Int.toNat_natCast, if_pos (by rw [List.any_eq_true]; exact ⟨x, hpre.subset hx, by simp [hb]⟩)] at h
        exact (Option.some.inj h).symm
      subst hr6
      gi_wp2
      refine ⟨by simp, .inl ⟨_, _, rfl, run_takeDeferred hK, ?_⟩⟩
      have hc5 := cell_kept b6.cell (grownBy_putObj' _ D (.deferred none)) (fun r e => by cases e; exact ⟨_, hK, rfl⟩)
      refine ⟨.int .i64 6, ?_, rfl, hB.trans (belowK_b (w := w) (Nat.le_refl _) W D _ _ (by have := HSZ3.out; have := HS3.out; omega) hK rfl rfl)⟩
      simp [results, Try.f11, go_sem, hc5]


end Go.Proofs.Ytfjefocjplljcaa.PA
