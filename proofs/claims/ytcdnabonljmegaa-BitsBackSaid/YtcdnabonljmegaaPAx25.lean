/- Each Go function named below comes to what the plain Lean function of its name answers, wherever that answers (rounds enough, no panic, no row too long); texts by a program of this session by way of the kit's print.py, what that does not take by hand. Condition: what is read lies in memory as each theorem says. -/
import Derived.Test.YtcdnabonljmegaaPAx0
import Derived.Test.YtcdnabonljmegaaPAx1
import Derived.Test.YtcdnabonljmegaaPAx3
import Derived.Test.YtcdnabonljmegaaPAx4
import Derived.Test.YtcdnabonljmegaaPAx7
import Derived.Test.YtcdnabonljmegaaPAx8
import Derived.Test.YtcdnabonljmegaaPAx15
import Derived.Test.YtcdnabonljmegaaPAx16
import Derived.Test.YtcdnabonljmegaaPAx17
import Derived.Test.YtcdnabonljmegaaPAx19
import Derived.Test.YtcdnabonljmegaaPAx22
import Derived.Test.YtcdnabonljmegaaPAx24
namespace Go.Proofs.Ytcdnabonljmegaa.PA
open Go.RowKit Go.Proofs.YtcdnabonljmegaaW.PrintWords Go.Proofs.YtcdnabonljmegaaW.PrintLast Go.Proofs.YtcdnabonljmegaaW.PrintMore
attribute [local go_sem] max2_int min2_int max_two min_two max_three min_three max_four min_four   -- for this text's walks alone
set_option linter.unusedVariables false
set_option linter.unusedSimpArgs false

/-! ### serinettelaw01_BitsBack: function 7 -/
mutual
def serinettelaw01_BitsBack.j0 : Nat → List Int → List Int → Bool → Bool → Option (Bool)
  | 0, _, _, _, _ => none
  | k + 1, x0, x1, x5, x22 => if x22 = true then (some x5) else ((bits_New.f).bind fun bt363 => (serinettelaw01_BitsBack.l0 k x0 x1 x5 0 bt363.1 bt363.2))
def serinettelaw01_BitsBack.l0 : Nat → List Int → List Int → Bool → Int → ByteArray → Int → Option (Bool)
  | 0, _, _, _, _, _, _ => none
  | k + 1, x0, x1, x5, x7, x366000, x366001 => if x7 < (x0.length : Int) then (if 0 ≤ x7 then (if x7 < (x1.length : Int) then ((bits_Writer_Put.f x366000 x366001 (rd x0 x7) (rd x1 x7)).bind fun bt368 => (serinettelaw01_BitsBack.l0 k x0 x1 x5 (wrap64 (x7 + 1)) bt368.1 bt368.2)) else (none)) else (none)) else ((bits_Writer_Bytes.f x366000 x366001).bind fun bt370 => ((bits_Open.f bt370.1).bind fun bt375 => (serinettelaw01_BitsBack.l1 k x0 x1 x5 0 bt370.2.1 bt370.2.2 bt375.1 bt375.2.1 bt375.2.2)))
def serinettelaw01_BitsBack.l1 : Nat → List Int → List Int → Bool → Int → ByteArray → Int → List Int → Int → Int → Option (Bool)
  | 0, _, _, _, _, _, _, _, _, _ => none
  | k + 1, x0, x1, x5, x9, x366000, x366001, x379000, x379001, x379002 => if x9 < (x0.length : Int) then (if 0 ≤ x9 then (if x9 < (x1.length : Int) then (if (mx 0 (mn (rd x1 x9) 64)) < 64 then (if (IntKind.u64.wrap (2 ^ (mx 0 (mn (rd x1 x9) 64)).toNat)) = 0 then (none) else ((bits_Reader_Take.f k x379000 x379001 x379002 (rd x1 x9)).bind fun bt383 => (if bt383.1 = (Int.tmod (rd x0 x9) (IntKind.u64.wrap (2 ^ (mx 0 (mn (rd x1 x9) 64)).toNat))) then (serinettelaw01_BitsBack.l1 k x0 x1 x5 (wrap64 (x9 + 1)) x366000 x366001 x379000 bt383.2.1 bt383.2.2) else (some false)))) else ((bits_Reader_Take.f k x379000 x379001 x379002 (rd x1 x9)).bind fun bt387 => (if bt387.1 = (rd x0 x9) then (serinettelaw01_BitsBack.l1 k x0 x1 x5 (wrap64 (x9 + 1)) x366000 x366001 x379000 bt387.2.1 bt387.2.2) else (some false)))) else (none)) else (none)) else ((bits_Reader_At.f x379000 x379001 x379002).bind fun bt390 => ((bits_Writer_Len.f x366000 x366001).bind fun bt393 => (if bt390.1 = bt393.1 then ((bits_Reader_Left.f x379000 bt390.2.1 bt390.2.2).bind fun bt396 => (serinettelaw01_BitsBack.j3 k x5 (decide (bt396.1 > 7)) x379000 bt396.2.1 bt396.2.2)) else (serinettelaw01_BitsBack.j3 k x5 true x379000 bt390.2.1 bt390.2.2))))
def serinettelaw01_BitsBack.j3 : Nat → Bool → Bool → List Int → Int → Int → Option (Bool)
  | 0, _, _, _, _, _ => none
  | k + 1, x5, x90, x379000, x379001, x379002 => if x90 = true then (some false) else ((bits_Reader_Fill.f k x379000 x379001 x379002).bind fun bt399 => (if x5 = true then ((bits_Reader_End.f x379000 bt399.1 bt399.2).bind fun bt401 => (some (bt401.1 == 0))) else (some false)))
end
def serinettelaw01_BitsBack.f (k : Nat) (l0 : List Int) (l1 : List Int) : Option (Bool) := (serinettelaw01_awake.f k).bind fun t362 => (if (l0.length : Int) > 60 then (serinettelaw01_BitsBack.j0 k l0 l1 t362 true) else (serinettelaw01_BitsBack.j0 k l0 l1 t362 (decide ((l1.length : Int) < (l0.length : Int)))))
theorem serinettelaw01_BitsBack.mono_l : ∀ k, (∀ y0 y1 y2 y3, LeO (serinettelaw01_BitsBack.j0 k y0 y1 y2 y3) (serinettelaw01_BitsBack.j0 (k + 1) y0 y1 y2 y3)) ∧ (∀ y0 y1 y2 y3 y4 y5, LeO (serinettelaw01_BitsBack.l0 k y0 y1 y2 y3 y4 y5) (serinettelaw01_BitsBack.l0 (k + 1) y0 y1 y2 y3 y4 y5)) ∧ (∀ y0 y1 y2 y3 y4 y5 y6 y7 y8, LeO (serinettelaw01_BitsBack.l1 k y0 y1 y2 y3 y4 y5 y6 y7 y8) (serinettelaw01_BitsBack.l1 (k + 1) y0 y1 y2 y3 y4 y5 y6 y7 y8)) ∧ (∀ y0 y1 y2 y3 y4, LeO (serinettelaw01_BitsBack.j3 k y0 y1 y2 y3 y4) (serinettelaw01_BitsBack.j3 (k + 1) y0 y1 y2 y3 y4))
  | 0 => ⟨fun _ _ _ _ r h => by simp [serinettelaw01_BitsBack.j0] at h, fun _ _ _ _ _ _ r h => by simp [serinettelaw01_BitsBack.l0] at h, fun _ _ _ _ _ _ _ _ _ r h => by simp [serinettelaw01_BitsBack.l1] at h, fun _ _ _ _ _ r h => by simp [serinettelaw01_BitsBack.j3] at h⟩
  | k + 1 => by
    obtain ⟨ih0, ih1, ih2, ih3⟩ := serinettelaw01_BitsBack.mono_l k
    refine ⟨?_, ?_, ?_, ?_⟩
    · intro y0 y1 y2 y3
      unfold serinettelaw01_BitsBack.j0
      repeat' first
      | (with_reducible exact ih0 _ _ _ _)
      | (with_reducible exact ih1 _ _ _ _ _ _)
      | (with_reducible exact ih2 _ _ _ _ _ _ _ _ _)
      | (with_reducible exact ih3 _ _ _ _ _)
      | (with_reducible exact bits_Reader_Fill.mono _ _ _ _)
      | (with_reducible exact bits_Reader_Take.mono _ _ _ _ _)
      | (with_reducible exact serinettelaw01_awake.mono _)
      | (with_reducible exact LeO.refl _)
      | (with_reducible exact LeO.none _)
      | (with_reducible refine LeO.ite ?_ ?_)
      | (with_reducible refine LeO.bind ?_ (fun _ => ?_))
      | exact ih0 _ _ _ _
      | exact ih1 _ _ _ _ _ _
      | exact ih2 _ _ _ _ _ _ _ _ _
      | exact ih3 _ _ _ _ _
      | exact bits_Reader_Fill.mono _ _ _ _
      | exact bits_Reader_Take.mono _ _ _ _ _
      | exact serinettelaw01_awake.mono _
      | exact LeO.none _
      | refine LeO.ite ?_ ?_
      | refine LeO.bind ?_ (fun _ => ?_)
    · intro y0 y1 y2 y3 y4 y5
      unfold serinettelaw01_BitsBack.l0
      repeat' first
      | (with_reducible exact ih0 _ _ _ _)
      | (with_reducible exact ih1 _ _ _ _ _ _)
      | (with_reducible exact ih2 _ _ _ _ _ _ _ _ _)
      | (with_reducible exact ih3 _ _ _ _ _)
      | (with_reducible exact bits_Reader_Fill.mono _ _ _ _)
      | (with_reducible exact bits_Reader_Take.mono _ _ _ _ _)
      | (with_reducible exact serinettelaw01_awake.mono _)
      | (with_reducible exact LeO.refl _)
      | (with_reducible exact LeO.none _)
      | (with_reducible refine LeO.ite ?_ ?_)
      | (with_reducible refine LeO.bind ?_ (fun _ => ?_))
      | exact ih0 _ _ _ _
      | exact ih1 _ _ _ _ _ _
      | exact ih2 _ _ _ _ _ _ _ _ _
      | exact ih3 _ _ _ _ _
      | exact bits_Reader_Fill.mono _ _ _ _
      | exact bits_Reader_Take.mono _ _ _ _ _
      | exact serinettelaw01_awake.mono _
      | exact LeO.none _
      | refine LeO.ite ?_ ?_
      | refine LeO.bind ?_ (fun _ => ?_)
    · intro y0 y1 y2 y3 y4 y5 y6 y7 y8
      unfold serinettelaw01_BitsBack.l1
      repeat' first
      | (with_reducible exact ih0 _ _ _ _)
      | (with_reducible exact ih1 _ _ _ _ _ _)
      | (with_reducible exact ih2 _ _ _ _ _ _ _ _ _)
      | (with_reducible exact ih3 _ _ _ _ _)
      | (with_reducible exact bits_Reader_Fill.mono _ _ _ _)
      | (with_reducible exact bits_Reader_Take.mono _ _ _ _ _)
      | (with_reducible exact serinettelaw01_awake.mono _)
      | (with_reducible exact LeO.refl _)
      | (with_reducible exact LeO.none _)
      | (with_reducible refine LeO.ite ?_ ?_)
      | (with_reducible refine LeO.bind ?_ (fun _ => ?_))
      | exact ih0 _ _ _ _
      | exact ih1 _ _ _ _ _ _
      | exact ih2 _ _ _ _ _ _ _ _ _
      | exact ih3 _ _ _ _ _
      | exact bits_Reader_Fill.mono _ _ _ _
      | exact bits_Reader_Take.mono _ _ _ _ _
      | exact serinettelaw01_awake.mono _
      | exact LeO.none _
      | refine LeO.ite ?_ ?_
      | refine LeO.bind ?_ (fun _ => ?_)
    · intro y0 y1 y2 y3 y4
      unfold serinettelaw01_BitsBack.j3
      repeat' first
      | (with_reducible exact ih0 _ _ _ _)
      | (with_reducible exact ih1 _ _ _ _ _ _)
      | (with_reducible exact ih2 _ _ _ _ _ _ _ _ _)
      | (with_reducible exact ih3 _ _ _ _ _)
      | (with_reducible exact bits_Reader_Fill.mono _ _ _ _)
      | (with_reducible exact bits_Reader_Take.mono _ _ _ _ _)
      | (with_reducible exact serinettelaw01_awake.mono _)
      | (with_reducible exact LeO.refl _)
      | (with_reducible exact LeO.none _)
      | (with_reducible refine LeO.ite ?_ ?_)
      | (with_reducible refine LeO.bind ?_ (fun _ => ?_))
      | exact ih0 _ _ _ _
      | exact ih1 _ _ _ _ _ _
      | exact ih2 _ _ _ _ _ _ _ _ _
      | exact ih3 _ _ _ _ _
      | exact bits_Reader_Fill.mono _ _ _ _
      | exact bits_Reader_Take.mono _ _ _ _ _
      | exact serinettelaw01_awake.mono _
      | exact LeO.none _
      | refine LeO.ite ?_ ?_
      | refine LeO.bind ?_ (fun _ => ?_)
theorem serinettelaw01_BitsBack.mono : ∀ a0 a1 k, LeO (serinettelaw01_BitsBack.f k a0 a1) (serinettelaw01_BitsBack.f (k + 1) a0 a1) := by
  intro a0 a1 k
  obtain ⟨ih0, ih1, ih2, ih3⟩ := serinettelaw01_BitsBack.mono_l k
  unfold serinettelaw01_BitsBack.f
  repeat' first
      | (with_reducible exact ih0 _ _ _ _)
      | (with_reducible exact ih1 _ _ _ _ _ _)
      | (with_reducible exact ih2 _ _ _ _ _ _ _ _ _)
      | (with_reducible exact ih3 _ _ _ _ _)
      | (with_reducible exact bits_Reader_Fill.mono _ _ _ _)
      | (with_reducible exact bits_Reader_Take.mono _ _ _ _ _)
      | (with_reducible exact serinettelaw01_awake.mono _)
      | (with_reducible exact LeO.refl _)
      | (with_reducible exact LeO.none _)
      | (with_reducible refine LeO.ite ?_ ?_)
      | (with_reducible refine LeO.bind ?_ (fun _ => ?_))
      | exact ih0 _ _ _ _
      | exact ih1 _ _ _ _ _ _
      | exact ih2 _ _ _ _ _ _ _ _ _
      | exact ih3 _ _ _ _ _
      | exact bits_Reader_Fill.mono _ _ _ _
      | exact bits_Reader_Take.mono _ _ _ _ _
      | exact serinettelaw01_awake.mono _
      | exact LeO.none _
      | refine LeO.ite ?_ ?_
      | refine LeO.bind ?_ (fun _ => ?_)
def serinettelaw01_BitsBack.T10 : Bool × List (List Nat × List Nat) := (true, [([], []), ([], []), ([], []), ([1, 2], [1, 2]), ([3], [3]), ([], []), ([], []), ([5, 6], [5, 6]), ([7], [7]), ([0, 4, 8], [0, 4, 8])])
def serinettelaw01_BitsBack.B10 : List Nat := [0, 0, 0, 6, 14, 0, 0, 96, 224, 511]
theorem serinettelaw01_BitsBack.tab10 : rtab .any (opsOf Try.f7 10) = serinettelaw01_BitsBack.T10 := by kernel_rfl
theorem serinettelaw01_BitsBack.bits10 : waitsOk serinettelaw01_BitsBack.T10.2 serinettelaw01_BitsBack.B10 = true := by kernel_rfl
def serinettelaw01_BitsBack.T20 : Bool × List (List Nat × List Nat) := (true, [([], []), ([], []), ([0, 1], [0, 1]), ([2], [2]), ([], []), ([4], [4]), ([3, 5], [3, 5]), ([6, 0, 1, 2, 3, 4, 5, 6], [6])])
def serinettelaw01_BitsBack.B20 : List Nat := [0, 0, 3, 7, 0, 16, 63, 127]
theorem serinettelaw01_BitsBack.tab20 : rtab .any (opsOf Try.f7 20) = serinettelaw01_BitsBack.T20 := by kernel_rfl
theorem serinettelaw01_BitsBack.bits20 : waitsOk serinettelaw01_BitsBack.T20.2 serinettelaw01_BitsBack.B20 = true := by kernel_rfl
set_option maxHeartbeats 8000000 in
set_option maxRecDepth 100000 in
theorem serinettelaw01_BitsBack.calls (k : Nat) (A0 : Option Addr) (c0 : Nat) (l0 : List Int) (A1 : Option Addr) (c1 : Nat) (l1 : List Int) (r : Bool) (w : World) (hr0 : Kd.C (Kd.int .u64) w A0 l0.length l0) (hc0 : l0.length ≤ c0) (hr1 : Kd.C (Kd.int .i64) w A1 l1.length l1) (hc1 : l1.length ≤ c1) (h : serinettelaw01_BitsBack.f k l0 l1 = some r) :
    Calls Try.prog 7 #[.slice A0 l0.length c0, .slice A1 l1.length c1] w fun e w' => e = .returned (.bool r) ∧ Below w.heap.size w w' := by
  have HR0 := Aside0.mk hr0
  have HC0 := Aside0.mk hc0
  clear hr0 hc0
  have HR1 := Aside0.mk hr1
  have HC1 := Aside0.mk hc1
  clear hr1 hc1
  have HB := Aside0.mk (Below.refl w.heap.size w)
  have H : ((serinettelaw01_awake.f k).bind fun t362 => (if (l0.length : Int) > 60 then (serinettelaw01_BitsBack.j0 k l0 l1 t362 true) else (serinettelaw01_BitsBack.j0 k l0 l1 t362 (decide ((l1.length : Int) < (l0.length : Int)))))) = some r := h
  clear h
  replace H := Option.bind_eq_some_iff.mp H
  obtain ⟨t362, A30, H⟩ := H
  replace H : (if (l0.length : Int) > 60 then (serinettelaw01_BitsBack.j0 k l0 l1 t362 true) else (serinettelaw01_BitsBack.j0 k l0 l1 t362 (decide ((l1.length : Int) < (l0.length : Int))))) = some r := H
  have A3 := Aside0.mk A30
  clear A30
  have HC4 := Aside0.mk H
  clear H
  go_enter Try.func7, Try.ntmps7
  go_upto_region 2 with (first | ((with_reducible refine gate_callee (f := 9) rfl ?_); refine goesL_ (some 12) rfl rfl Try.func9 (by kernel_rfl) rfl #[] rfl (by (try simp only [List.map_toArray, List.map_cons, List.map_nil]); first | done | rfl | (simp only [List.length_drop, List.length_take]; rfl)) ?_; (with_reducible refine (serinettelaw01_awake.calls k  t362 _ A3.out).mono ?_); rintro e w5 ⟨rfl, hb⟩; refine ⟨_, rfl, ?_⟩; have n0_ := Aside0.mk (below_step (by repeat (first | (with_reducible first | exact HB.out | apply below_alloc | apply pw_below_drewN | apply below_drew1) | exact HB.out)) hb); clear HB; have HB := n0_; clear n0_; (try clear hb); (try clear hb2); (try clear hk); (try clear hi)))
  (try simp only [Act.put, List.setIfInBounds_toArray, List.set_cons_zero, List.set_cons_succ])
  go_cut [22] (fun v22 wc => ∃ (kq : Nat) (x22_3 : Bool), v22 = .bool x22_3 ∧ Aside0 (serinettelaw01_BitsBack.j0 kq l0 l1 t362 x22_3 = some r) ∧ Aside0 (kq ≤ k) ∧ Aside0 (Below w.heap.size w wc))
  case first =>
    have H := HC4.out
    clear HC4
    by_cases c6 : (l0.length : Int) > 60
    · rw [if_pos c6] at H
      have c6b0 : decide (60 < (l0.length : Int)) = true := decide_eq_true c6
      have c6b1 : decide (60 < l0.length) = true := decide_eq_true (by omega)
      clear c6
      (first | rw [c6b0] | (simp only [i64_w, i32_w]; rw [c6b0]) | skip)
      have H' := Aside0.mk H
      clear H
      go_wp2
      go_meet
      case rel => exact ⟨_, (true), (by first | rfl | (simp; done) | (simp only [i64_w, i32_w]; done) | (simp [*]; done) | (simp only [i64_w, i32_w]; first | rfl | (simp; done) | (simp [*]; done))), H', ⟨by first | omega | exact Nat.le_refl _⟩, ⟨by repeat (first | (with_reducible first | exact HB.out | apply below_alloc | apply pw_below_drewN | apply below_drew1) | exact HB.out)⟩⟩
    · rw [if_neg c6] at H
      have c6b0 : decide (60 < (l0.length : Int)) = false := decide_eq_false c6
      have c6b1 : decide (60 < l0.length) = false := decide_eq_false (by omega)
      clear c6
      (first | rw [c6b0] | (simp only [i64_w, i32_w]; rw [c6b0]) | skip)
      have H' := Aside0.mk H
      clear H
      go_wp2
      go_meet
      case rel => exact ⟨_, (decide ((l1.length : Int) < (l0.length : Int))), (by first | rfl | (simp; done) | (simp only [i64_w, i32_w]; done) | (simp [*]; done) | (simp only [i64_w, i32_w]; first | rfl | (simp; done) | (simp [*]; done))), H', ⟨by first | omega | exact Nat.le_refl _⟩, ⟨by repeat (first | (with_reducible first | exact HB.out | apply below_alloc | apply pw_below_drewN | apply below_drew1) | exact HB.out)⟩⟩
  case rest =>
    clear HC4
    try clear c1
    try clear p2
    try clear c6
    try clear c6b0
    try clear c6b1
    obtain ⟨kq, x22_3, rfl, HA, HJ3, HB⟩ := hcut
    cases kq with
    | zero => exact absurd HA.out (by simp [serinettelaw01_BitsBack.j0])
    | succ kj3 =>
      have H := HA.out
      clear HA
      simp only [serinettelaw01_BitsBack.j0] at H
      by_cases c7 : x22_3 = true
      · subst c7
        have H1 : (some t362) = some r := by rw [if_pos rfl] at H; exact H
        clear H
        have H := H1
        clear H1
        obtain rfl := Option.some.inj H
        go_wp2
        go_ret
        exact ⟨by first | rfl | (simp [errW_none, errW_some] <;> rfl) | (simp [*, errW_none, errW_some] <;> rfl), by repeat (first | (with_reducible first | exact HB.out | apply below_alloc | apply pw_below_drewN | apply below_drew1) | exact HB.out)⟩
      · replace c7 := Bool.eq_false_iff.mpr c7
        subst c7
        have H1 : ((bits_New.f).bind fun bt363 => (serinettelaw01_BitsBack.l0 kj3 l0 l1 t362 0 bt363.1 bt363.2)) = some r := by rw [if_neg (show ¬ (false = true) by decide)] at H; exact H
        clear H
        have H := H1
        clear H1
        replace H := Option.bind_eq_some_iff.mp H
        obtain ⟨⟨t363, t364⟩, A80, H⟩ := H
        replace H : (serinettelaw01_BitsBack.l0 kj3 l0 l1 t362 0 t363 t364) = some r := H
        have A8 := Aside0.mk A80
        clear A80
        have H' := Aside0.mk H
        clear H
        go_wp2_with (first | ((with_reducible refine gate_callee (f := 10) rfl ?_); refine goesL_ (some 24) rfl rfl Try.func10 (by kernel_rfl) rfl #[] rfl (by (try simp only [List.map_toArray, List.map_cons, List.map_nil]); first | done | rfl | (simp only [List.length_drop, List.length_take]; rfl)) ?_; (with_reducible refine (bits_New.calls  t363 t364 w _ ?side1 A8.out).mono ?_); (case side1 => repeat (first | (with_reducible first | exact HB.out | apply below_alloc | apply pw_below_drewN | apply below_drew1) | exact HB.out)); rintro e w9 ⟨g365, rfl, hi, hb, hb2⟩; refine ⟨_, rfl, ?_⟩; have n0_ := Aside0.mk (hb); have n1_ := Aside0.mk (hi); clear HB; have HB := n0_; have HI365 := n1_; clear n0_ n1_; (try clear hb); (try clear hb2); (try clear hk); (try clear hi)))
        go_loopg [7] kj3 (fun kq v7 w' => ∃ (x7_2 : Int) (x366000_2 : ByteArray) (x366001_2 : Int), v7 = .int .i64 x7_2 ∧ Aside0 (serinettelaw01_BitsBack.l0 kq l0 l1 t362 x7_2 x366000_2 x366001_2 = some r) ∧ Aside0 (kq ≤ kj3) ∧ Aside0 (IsS52 w w' g365 x366000_2 x366001_2) ∧ Aside0 (Below w.heap.size w w'))
        case atStart => exact ⟨(0), (t363), (t364), (by first | rfl | (simp; done) | (simp only [i64_w, i32_w]; done) | (simp [*]; done) | (simp only [i64_w, i32_w]; first | rfl | (simp; done) | (simp [*]; done))), H', ⟨Nat.le_refl _⟩, ⟨by repeat (first | (with_reducible first | exact HI365.out | apply IsS52.alloc | apply IsS52.drewN | apply IsS52.drew | apply IsS52.set_0 | apply IsS52.set_1) | exact HI365.out)⟩, ⟨by repeat (first | (with_reducible first | exact HB.out | apply below_alloc | apply pw_below_drewN | apply below_drew1 | refine below_set ?_ (IsS52.ge HI365.out)) | exact HB.out)⟩⟩
        case round =>
          clear H'
          try clear c1
          try clear p2
          try clear c6
          try clear c6b0
          try clear c6b1
          try clear c7
          try clear c9
          try clear p2
          obtain ⟨x7_2, x366000_2, x366001_2, rfl, HA, HK2, HI365, HB⟩ := hrel
          cases gk with
          | zero => exact absurd HA.out (by simp [serinettelaw01_BitsBack.l0])
          | succ k2 =>
            have H := HA.out
            clear HA
            simp only [serinettelaw01_BitsBack.l0] at H
            by_cases c10 : x7_2 < (l0.length : Int)
            · rw [if_pos c10] at H
              have c10b0 : decide (x7_2 < (l0.length : Int)) = true := decide_eq_true c10
              clear c10
              by_cases c11 : 0 ≤ x7_2
              · rw [if_pos c11] at H
                have c11b0 : decide (0 ≤ x7_2) = true := decide_eq_true c11
                clear c11
                by_cases c12 : x7_2 < (l1.length : Int)
                · rw [if_pos c12] at H
                  have c12b0 : decide (x7_2 < (l1.length : Int)) = true := decide_eq_true c12
                  clear c12
                  replace H := Option.bind_eq_some_iff.mp H
                  obtain ⟨⟨t368, t369⟩, A130, H⟩ := H
                  replace H : (serinettelaw01_BitsBack.l0 k2 l0 l1 t362 (wrap64 (x7_2 + 1)) t368 t369) = some r := H
                  have A13 := Aside0.mk A130
                  clear A130
                  have H' := Aside0.mk H
                  clear H
                  try go_wp2
                  have n0_ := Aside0.mk (IsS52.drew HI365.out)
                  have n1_ := Aside0.mk (below_drew1 HB.out)
                  clear HI365
                  clear HB
                  have HI365 := n0_
                  have HB := n1_
                  clear n0_ n1_
                  have p366 : 0 ≤ (x7_2 : Int) := of_decide_eq_true (by first | (with_reducible assumption) | assumption)
                  have q366 : x7_2 < (l0.length : Int) := of_decide_eq_true (by first | (with_reducible assumption) | assumption)
                  obtain ⟨ad366, e366, hx366_0⟩ := Kd.at_int HR0.out x7_2 p366 q366
                  have hw366_0 := hx366_0
                  cases e366
                  replace hx366_0 := (HB.out.cell (World.block_lt_of_cell? w _ hx366_0)).trans hx366_0
                  replace p366 := eq_true p366
                  replace q366 := eq_true q366
                  have p367 : 0 ≤ (x7_2 : Int) := of_decide_eq_true (by first | (with_reducible assumption) | assumption)
                  have q367 : x7_2 < (l1.length : Int) := of_decide_eq_true (by first | (with_reducible assumption) | assumption)
                  obtain ⟨ad367, e367, hx367_0⟩ := Kd.at_int HR1.out x7_2 p367 q367
                  have hw367_0 := hx367_0
                  cases e367
                  replace hx367_0 := (HB.out.cell (World.block_lt_of_cell? w _ hx367_0)).trans hx367_0
                  replace p367 := eq_true p367
                  replace q367 := eq_true q367
                  refine start_ (n := 10) (S := fun w' => w'.cell? (ad366.add (x7_2).toNat) = some (.int .u64 (rd l0 x7_2)) ∧ w'.cell? (ad367.add (x7_2).toNat) = some (.int .i64 (rd l1 x7_2))) (ds := []) #[false, false, false, false, false, false, false, false, false, false] (by kernel_rfl) rfl rfl ⟨((HB.out.cell (World.block_lt_of_cell? w _ hw366_0)).trans hw366_0), ((HB.out.cell (World.block_lt_of_cell? w _ hw367_0)).trans hw367_0)⟩ (fun hHeld => ?_); refine with_tabW serinettelaw01_BitsBack.tab10 serinettelaw01_BitsBack.bits10 (fun HT_ HW_ => ?_)
                  generalize wr.drew = w14 at HI365 HB hx366_0 hx367_0 hHeld ⊢
                  refine pure_ (i := 0) (N := some 33) (v := ?_) (a' := ?_) #[true, false, false, false, false, false, false, false, false, false] rfl rfl (any_of HT_.out (by kernel_rfl)) (fun _ _ _ h => h) (Or.inl ⟨by rfl, ?_⟩) ?_ ?_
                  rotate_left
                  · intro w'
                    go_simp
                    with_reducible rfl
                  rotate_left
                  · simp only [Act.put, List.setIfInBounds_toArray, List.set_cons_zero, List.set_cons_succ, i64_w, i32_w]
                    rfl
                  refine pure_ (i := 1) (N := some 34) (v := ?_) (a' := ?_) #[true, true, false, false, false, false, false, false, false, false] rfl rfl (any_of HT_.out (by kernel_rfl)) (fun _ _ _ h => h) (Or.inl ⟨by rfl, ?_⟩) ?_ ?_
                  rotate_left
                  · intro w'
                    go_simp
                    with_reducible rfl
                  rotate_left
                  · simp only [Act.put, List.setIfInBounds_toArray, List.set_cons_zero, List.set_cons_succ, i64_w, i32_w]
                    rfl
                  refine pure_ (i := 2) (N := some 35) (v := ?_) (a' := ?_) #[true, true, true, false, false, false, false, false, false, false] rfl rfl (any_of HT_.out (by kernel_rfl)) (fun _ _ _ h => h) (Or.inl ⟨by rfl, ?_⟩) ?_ ?_
                  rotate_left
                  · intro w'
                    go_simp
                    with_reducible rfl
                  rotate_left
                  · simp only [Act.put, List.setIfInBounds_toArray, List.set_cons_zero, List.set_cons_succ, i64_w, i32_w]
                    rfl
                  refine pure_ (i := 3) (N := some 36) (v := ?_) (a' := ?_) #[true, true, true, true, false, false, false, false, false, false] rfl rfl (any_of HT_.out (by kernel_rfl)) (fun _ _ _ h => h) (Or.inl ⟨by rfl, ?_⟩) ?_ ?_
                  rotate_left
                  · intro w'
                    go_simp
                    with_reducible rfl
                  rotate_left
                  · simp only [Act.put, List.setIfInBounds_toArray, List.set_cons_zero, List.set_cons_succ, i64_w, i32_w]
                    rfl
                  refine pure_ (i := 5) (N := some 38) (v := ?_) (a' := ?_) #[true, true, true, true, false, true, false, false, false, false] rfl rfl (any_of HT_.out (by kernel_rfl)) (fun _ _ _ h => h) (Or.inl ⟨by rfl, ?_⟩) ?_ ?_
                  rotate_left
                  · intro w'
                    go_simp
                    with_reducible rfl
                  rotate_left
                  · simp only [Act.put, List.setIfInBounds_toArray, List.set_cons_zero, List.set_cons_succ, i64_w, i32_w]
                    rfl
                  refine pure_ (i := 6) (N := some 39) (v := ?_) (a' := ?_) #[true, true, true, true, false, true, true, false, false, false] rfl rfl (any_of HT_.out (by kernel_rfl)) (fun _ _ _ h => h) (Or.inl ⟨by rfl, ?_⟩) ?_ ?_
                  rotate_left
                  · intro w'
                    go_simp
                    with_reducible rfl
                  rotate_left
                  · simp only [Act.put, List.setIfInBounds_toArray, List.set_cons_zero, List.set_cons_succ, i64_w, i32_w]
                    rfl
                  refine pure_ (i := 7) (N := some 40) (v := ?_) (a' := ?_) #[true, true, true, true, false, true, true, true, false, false] rfl rfl (any_of HT_.out (by kernel_rfl)) (fun _ _ _ h => h) (Or.inl ⟨by rfl, ?_⟩) ?_ ?_
                  rotate_left
                  · intro w'
                    go_simp
                    with_reducible rfl
                  rotate_left
                  · simp only [Act.put, List.setIfInBounds_toArray, List.set_cons_zero, List.set_cons_succ, i64_w, i32_w]
                    rfl
                  refine take_ (i := 4) (N := some 37) (v := ?_) (a' := ?_) #[true, true, true, true, true, true, true, true, false, false] rfl rfl (take_ofW HT_.out HW_.out (by kernel_rfl)) (fun _ _ _ h => h) (Or.inl ⟨by rfl, ?_⟩) hHeld ?_ ?_
                  rotate_left
                  · rintro w' ⟨s0, s1⟩
                    go_simp
                    with_reducible rfl
                  rotate_left
                  · simp only [Act.put, List.setIfInBounds_toArray, List.set_cons_zero, List.set_cons_succ, i64_w, i32_w]
                    rfl
                  refine take_ (i := 8) (N := some 41) (v := ?_) (a' := ?_) #[true, true, true, true, true, true, true, true, true, false] rfl rfl (take_ofW HT_.out HW_.out (by kernel_rfl)) (fun _ _ _ h => h) (Or.inl ⟨by rfl, ?_⟩) hHeld ?_ ?_
                  rotate_left
                  · rintro w' ⟨s0, s1⟩
                    go_simp
                    with_reducible rfl
                  rotate_left
                  · simp only [Act.put, List.setIfInBounds_toArray, List.set_cons_zero, List.set_cons_succ, i64_w, i32_w]
                    rfl
                  refine one_ (i := 9) (N := some 42) #[true, true, true, true, true, true, true, true, true, true] rfl rfl (one_of HT_.out (by kernel_rfl)) (by decide) (fun K hK => ?_)
                  refine goes_ Try.func11 (by kernel_rfl) rfl #[.pointer (some ⟨g365, 0, none⟩), .int .u64 (rd l0 x7_2), .int .i64 (rd l1 x7_2)] (by rfl) rfl rfl (by (try simp only [List.map_toArray, List.map_cons, List.map_nil]); first | done | rfl | (simp only [List.length_drop, List.length_take]; rfl)) ?_
                  with_reducible refine (bits_Writer_Put.calls g365 x366000_2 x366001_2 (rd l0 x7_2) (rd l1 x7_2) t368 t369 w _ ?side1 ?side2 A13.out).mono ?_
                  (case side1 => repeat (first | (with_reducible first | exact HI365.out | apply IsS52.alloc | apply IsS52.drewN | apply IsS52.drew | apply IsS52.set_0 | apply IsS52.set_1) | exact HI365.out))
                  (case side2 => repeat (first | (with_reducible first | exact HB.out | apply below_alloc | apply pw_below_drewN | apply below_drew1 | refine below_set ?_ (IsS52.ge HI365.out)) | exact HB.out))
                  rintro e w15 ⟨rfl, hi, hb, hk⟩
                  refine ⟨_, rfl, ?_⟩
                  have n0_ := Aside0.mk (hb)
                  have n1_ := Aside0.mk (hi)
                  clear HB
                  clear HI365
                  have HB := n0_
                  have HI365 := n1_
                  clear n0_ n1_
                  (try clear hb)
                  (try clear hb2)
                  (try clear hk)
                  (try clear hi)
                  refine hK.out _ _ ⟨((HB.out.cell (World.block_lt_of_cell? w _ hw366_0)).trans hw366_0), ((HB.out.cell (World.block_lt_of_cell? w _ hw367_0)).trans hw367_0)⟩ (fun hHeld => ?_)
                  clear hK K
                  refine norm_ (a' := ?_) ?_ ?_
                  rotate_left
                  · show Act.put _ (some 42) _ = _
                    simp only [Act.put, List.setIfInBounds_toArray, List.set_cons_zero, List.set_cons_succ, i64_w, i32_w]
                    rfl
                  refine done_ (done_of HT_.out (by kernel_rfl)) ?_
                  try go_wp2
                  go_roundg k2
                  case measure => have := HJ3.out; have := HK2.out; omega
                  case rel => exact ⟨(wrap64 (x7_2 + 1)), (t368), (t369), (by first | rfl | (simp; done) | (simp only [i64_w, i32_w]; done) | (simp [*]; done) | (simp only [i64_w, i32_w]; first | rfl | (simp; done) | (simp [*]; done))), H', ⟨by have := HJ3.out; have := HK2.out; omega⟩, ⟨by repeat (first | (with_reducible first | exact HI365.out | apply IsS52.alloc | apply IsS52.drewN | apply IsS52.drew | apply IsS52.set_0 | apply IsS52.set_1) | exact HI365.out)⟩, ⟨by repeat (first | (with_reducible first | exact HB.out | apply below_alloc | apply pw_below_drewN | apply below_drew1 | refine below_set ?_ (IsS52.ge HI365.out)) | exact HB.out)⟩⟩
                · rw [if_neg c12] at H
                  exact absurd H (by simp)
              · rw [if_neg c11] at H
                exact absurd H (by simp)
            · rw [if_neg c10] at H
              have c10b0 : decide (x7_2 < (l0.length : Int)) = false := decide_eq_false c10
              clear c10
              replace H := Option.bind_eq_some_iff.mp H
              obtain ⟨⟨t370, t373, t374⟩, A160, H⟩ := H
              replace H : ((bits_Open.f t370).bind fun bt375 => (serinettelaw01_BitsBack.l1 k2 l0 l1 t362 0 t373 t374 bt375.1 bt375.2.1 bt375.2.2)) = some r := H
              have A16 := Aside0.mk A160
              clear A160
              replace H := Option.bind_eq_some_iff.mp H
              obtain ⟨⟨t375, t376, t377⟩, A170, H⟩ := H
              replace H : (serinettelaw01_BitsBack.l1 k2 l0 l1 t362 0 t373 t374 t375 t376 t377) = some r := H
              have A17 := Aside0.mk A170
              clear A170
              have H' := Aside0.mk H
              clear H
              go_wp2_with (first | ((with_reducible refine gate_callee (f := 16) rfl ?_); refine goesL_ (some 44) rfl rfl Try.func16 (by kernel_rfl) rfl #[.pointer (some ⟨g365, 0, none⟩)] rfl (by (try simp only [List.map_toArray, List.map_cons, List.map_nil]); first | done | rfl | (simp only [List.length_drop, List.length_take]; rfl)) ?_; (with_reducible refine (bits_Writer_Bytes.calls g365 x366000_2 x366001_2 t370 t373 t374 w _ ?side1 ?side2 A16.out).mono ?_); (case side1 => repeat (first | (with_reducible first | exact HI365.out | apply IsS52.alloc | apply IsS52.drewN | apply IsS52.drew | apply IsS52.set_0 | apply IsS52.set_1) | exact HI365.out)); (case side2 => repeat (first | (with_reducible first | exact HB.out | apply below_alloc | apply pw_below_drewN | apply below_drew1 | refine below_set ?_ (IsS52.ge HI365.out)) | exact HB.out)); rintro e w18 ⟨v371, rfl, ho0, hi, hb, hk⟩; refine ⟨_, rfl, ?_⟩; have n0_ := Aside0.mk (Kd.R_lower ho0 (below_size (by repeat (first | (with_reducible first | exact HB.out | apply below_alloc | apply pw_below_drewN | apply below_drew1 | refine below_set ?_ (IsS52.ge HI365.out)) | exact HB.out)))); have n1_ := Aside0.mk (hb); have n2_ := Aside0.mk (hi); clear HB; clear HI365; have HO372 := n0_; have HB := n1_; have HI365 := n2_; clear n0_ n1_ n2_; (try clear hb); (try clear hb2); (try clear hk); (try clear hi); (try clear ho0); obtain ⟨Ao19, co19, eo19⟩ := Kd.R_slice HO372.out; subst eo19) | ((with_reducible refine gate_callee (f := 18) rfl ?_); refine goesL_ (some 45) rfl rfl Try.func18 (by kernel_rfl) rfl #[.slice Ao19 t370.length co19] rfl (by (try simp only [List.map_toArray, List.map_cons, List.map_nil]); first | done | rfl | (simp only [List.length_drop, List.length_take]; rfl)) ?_; (with_reducible refine (bits_Open.calls _ _ t370 t375 t376 t377 w _ ?side1 ?side2 ?side3 A17.out).mono ?_); (case side1 => repeat (first | (with_reducible first | exact HB.out | apply below_alloc | apply pw_below_drewN | apply below_drew1 | refine below_set ?_ (IsS52.ge HI365.out)) | exact HB.out)); (case side2 => repeat (first | exact (Kd.R_reads' HO372.out).2.2 | (with_reducible refine Kd.C_alloc ?_ _) | (with_reducible refine Kd.C_drewN ?_ _) | (with_reducible refine Kd.C_drew ?_))); (case side3 => exact (Kd.R_reads' HO372.out).2.1); rintro e w20 ⟨g378, rfl, hi, hb, hb2⟩; refine ⟨_, rfl, ?_⟩; have n0_ := Aside0.mk (Kd.R_below (by (with_reducible repeat (first | apply Kd.R_alloc | apply Kd.R_drewN | apply Kd.R_drew)); exact HO372.out) hb2); have n1_ := Aside0.mk (IsS52.below (by repeat (first | (with_reducible first | exact HI365.out | apply IsS52.alloc | apply IsS52.drewN | apply IsS52.drew | apply IsS52.set_0 | apply IsS52.set_1) | exact HI365.out)) hb2); have n2_ := Aside0.mk (hb); have n3_ := Aside0.mk (hi); clear HO372; clear HI365; clear HB; have HO372 := n0_; have HI365 := n1_; have HB := n2_; have HI378 := n3_; clear n0_ n1_ n2_ n3_; (try clear hb); (try clear hb2); (try clear hk); (try clear hi)))
              go_loopg [9] k2 (fun kq v9 w' => ∃ (x9_3 : Int) (x379001_3 : Int) (x379002_3 : Int), v9 = .int .i64 x9_3 ∧ Aside0 (serinettelaw01_BitsBack.l1 kq l0 l1 t362 x9_3 t373 t374 t375 x379001_3 x379002_3 = some r) ∧ Aside0 (kq ≤ k2) ∧ Aside0 (IsS52 w w' g365 t373 t374) ∧ Aside0 (IsS57 w w' g378 t375 x379001_3 x379002_3) ∧ Aside0 (Below w.heap.size w w'))
              case atStart => exact ⟨(0), (t376), (t377), (by first | rfl | (simp; done) | (simp only [i64_w, i32_w]; done) | (simp [*]; done) | (simp only [i64_w, i32_w]; first | rfl | (simp; done) | (simp [*]; done))), H', ⟨Nat.le_refl _⟩, ⟨by repeat (first | (with_reducible first | exact HI365.out | apply IsS52.alloc | apply IsS52.drewN | apply IsS52.drew | apply IsS52.set_0 | apply IsS52.set_1) | exact HI365.out)⟩, ⟨by repeat (first | (with_reducible first | exact HI378.out | apply IsS57.alloc | apply IsS57.drewN | apply IsS57.drew | apply IsS57.set_1 | apply IsS57.set_2) | exact HI378.out)⟩, ⟨by repeat (first | (with_reducible first | exact HB.out | apply below_alloc | apply pw_below_drewN | apply below_drew1 | refine below_set ?_ (IsS52.ge HI365.out) | refine below_set ?_ (IsS57.ge HI378.out)) | exact HB.out)⟩⟩
              case round =>
                clear H'
                try clear c1
                try clear p2
                try clear p3
                try clear q3
                try clear hx3
                try clear c6
                try clear c6b0
                try clear c6b1
                try clear p6
                try clear c7
                try clear c9
                try clear c10
                try clear c10b0
                try clear c11
                try clear c11b0
                try clear c12
                try clear c12b0
                try clear c16
                try clear c18
                try clear hx366_0
                try clear hx367_0
                try clear p2
                try clear p366
                try clear p367
                try clear q366
                try clear q367
                obtain ⟨x9_3, x379001_3, x379002_3, rfl, HA, HK3, HI365, HI378, HB⟩ := hrel
                cases gk with
                | zero => exact absurd HA.out (by simp [serinettelaw01_BitsBack.l1])
                | succ k3 =>
                  have H := HA.out
                  clear HA
                  simp only [serinettelaw01_BitsBack.l1] at H
                  by_cases c21 : x9_3 < (l0.length : Int)
                  · rw [if_pos c21] at H
                    have c21b0 : decide (x9_3 < (l0.length : Int)) = true := decide_eq_true c21
                    clear c21
                    by_cases c22 : 0 ≤ x9_3
                    · rw [if_pos c22] at H
                      have c22b0 : decide (0 ≤ x9_3) = true := decide_eq_true c22
                      clear c22
                      by_cases c23 : x9_3 < (l1.length : Int)
                      · rw [if_pos c23] at H
                        have c23b0 : decide (x9_3 < (l1.length : Int)) = true := decide_eq_true c23
                        clear c23
                        obtain ⟨ji24, hji24⟩ : ∃ j_ : Int, (mn (rd l1 x9_3) 64) = j_ := ⟨_, rfl⟩
                        replace H : (if (mx 0 (ji24)) < 64 then (if (IntKind.u64.wrap (2 ^ (mx 0 (ji24)).toNat)) = 0 then (none) else ((bits_Reader_Take.f k3 t375 x379001_3 x379002_3 (rd l1 x9_3)).bind fun bt383 => (if bt383.1 = (Int.tmod (rd l0 x9_3) (IntKind.u64.wrap (2 ^ (mx 0 (ji24)).toNat))) then (serinettelaw01_BitsBack.l1 k3 l0 l1 t362 (wrap64 (x9_3 + 1)) t373 t374 t375 bt383.2.1 bt383.2.2) else (some false)))) else ((bits_Reader_Take.f k3 t375 x379001_3 x379002_3 (rd l1 x9_3)).bind fun bt387 => (if bt387.1 = (rd l0 x9_3) then (serinettelaw01_BitsBack.l1 k3 l0 l1 t362 (wrap64 (x9_3 + 1)) t373 t374 t375 bt387.2.1 bt387.2.2) else (some false)))) = some r := by first | (rw [hji24] at H; exact H) | (simp only [hji24] at H ⊢; exact H)
                        have hji24_ : (if 64 < (rd l1 x9_3) then 64 else (rd l1 x9_3)) = ji24 := hji24
                        obtain ⟨ji25, hji25⟩ : ∃ j_ : Int, (mx 0 (ji24)) = j_ := ⟨_, rfl⟩
                        replace H : (if (ji25) < 64 then (if (IntKind.u64.wrap (2 ^ (ji25).toNat)) = 0 then (none) else ((bits_Reader_Take.f k3 t375 x379001_3 x379002_3 (rd l1 x9_3)).bind fun bt383 => (if bt383.1 = (Int.tmod (rd l0 x9_3) (IntKind.u64.wrap (2 ^ (ji25).toNat))) then (serinettelaw01_BitsBack.l1 k3 l0 l1 t362 (wrap64 (x9_3 + 1)) t373 t374 t375 bt383.2.1 bt383.2.2) else (some false)))) else ((bits_Reader_Take.f k3 t375 x379001_3 x379002_3 (rd l1 x9_3)).bind fun bt387 => (if bt387.1 = (rd l0 x9_3) then (serinettelaw01_BitsBack.l1 k3 l0 l1 t362 (wrap64 (x9_3 + 1)) t373 t374 t375 bt387.2.1 bt387.2.2) else (some false)))) = some r := by first | (rw [hji25] at H; exact H) | (simp only [hji25] at H ⊢; exact H)
                        have hji25_ : (if 0 < (ji24) then (ji24) else 0) = ji25 := hji25
                        by_cases c26 : (ji25) < 64
                        · rw [if_pos c26] at H
                          have c26b0 : decide ((ji25) < 64) = true := decide_eq_true c26
                          clear c26
                          by_cases c27 : (IntKind.u64.wrap (2 ^ (ji25).toNat)) = 0
                          · rw [if_pos c27] at H
                            exact absurd H (by simp)
                          · rw [if_neg c27] at H
                            have c27b0 : ((IntKind.u64.wrap (2 ^ (ji25).toNat)) == 0) = false := beq_eq_false_iff_ne.mpr c27
                            have c27b1 : ((IntKind.u64.wrap (2 ^ (ji25).toNat)) != 0) = true := bne_iff_ne.mpr c27
                            replace H := Option.bind_eq_some_iff.mp H
                            obtain ⟨⟨t383, t384, t385⟩, A280, H⟩ := H
                            replace H : (if t383 = (Int.tmod (rd l0 x9_3) (IntKind.u64.wrap (2 ^ (ji25).toNat))) then (serinettelaw01_BitsBack.l1 k3 l0 l1 t362 (wrap64 (x9_3 + 1)) t373 t374 t375 t384 t385) else (some false)) = some r := H
                            have A28 := Aside0.mk A280
                            clear A280
                            by_cases c29 : t383 = (Int.tmod (rd l0 x9_3) (IntKind.u64.wrap (2 ^ (ji25).toNat)))
                            · rw [if_pos c29] at H
                              have c29b0 : (t383 == (Int.tmod (rd l0 x9_3) (IntKind.u64.wrap (2 ^ (ji25).toNat)))) = true := beq_iff_eq.mpr c29
                              have c29b1 : (t383 != (Int.tmod (rd l0 x9_3) (IntKind.u64.wrap (2 ^ (ji25).toNat)))) = false := bne_eq_false_iff_eq.mpr c29
                              clear c29
                              have H' := Aside0.mk H
                              clear H
                              have p379 : 0 ≤ (x9_3 : Int) := of_decide_eq_true (by first | (with_reducible assumption) | assumption)
                              have q379 : x9_3 < (l1.length : Int) := of_decide_eq_true (by first | (with_reducible assumption) | assumption)
                              obtain ⟨ad379, e379, hx379_0⟩ := Kd.at_int HR1.out x9_3 p379 q379
                              cases e379
                              replace hx379_0 := (HB.out.cell (World.block_lt_of_cell? w _ hx379_0)).trans hx379_0
                              replace p379 := eq_true p379
                              replace q379 := eq_true q379
                              have p380 : 0 ≤ (x9_3 : Int) := of_decide_eq_true (by first | (with_reducible assumption) | assumption)
                              have q380 : x9_3 < (l0.length : Int) := of_decide_eq_true (by first | (with_reducible assumption) | assumption)
                              obtain ⟨ad380, e380, hx380_0⟩ := Kd.at_int HR0.out x9_3 p380 q380
                              cases e380
                              replace hx380_0 := (HB.out.cell (World.block_lt_of_cell? w _ hx380_0)).trans hx380_0
                              replace p380 := eq_true p380
                              replace q380 := eq_true q380
                              try go_wp2
                              have n0_ := Aside0.mk (IsS52.drew HI365.out)
                              have n1_ := Aside0.mk (IsS57.drew HI378.out)
                              have n2_ := Aside0.mk (below_drew1 HB.out)
                              clear HI365
                              clear HI378
                              clear HB
                              have HI365 := n0_
                              have HI378 := n1_
                              have HB := n2_
                              clear n0_ n1_ n2_
                              have p381 : 0 ≤ (x9_3 : Int) := of_decide_eq_true (by first | (with_reducible assumption) | assumption)
                              have q381 : x9_3 < (l0.length : Int) := of_decide_eq_true (by first | (with_reducible assumption) | assumption)
                              obtain ⟨ad381, e381, hx381_0⟩ := Kd.at_int HR0.out x9_3 p381 q381
                              have hw381_0 := hx381_0
                              obtain rfl : ad380 = ad381 := (by injection e381)
                              replace hx381_0 := (HB.out.cell (World.block_lt_of_cell? w _ hx381_0)).trans hx381_0
                              replace p381 := eq_true p381
                              replace q381 := eq_true q381
                              refine start_ (n := 8) (S := fun w' => w'.cell? (ad380.add (x9_3).toNat) = some (.int .u64 (rd l0 x9_3))) (ds := []) #[false, false, false, false, false, false, false, false] (by kernel_rfl) rfl rfl (((HB.out.cell (World.block_lt_of_cell? w _ hw381_0)).trans hw381_0)) (fun hHeld => ?_); refine with_tabW serinettelaw01_BitsBack.tab20 serinettelaw01_BitsBack.bits20 (fun HT_ HW_ => ?_)
                              generalize wr.drew = w30 at HI365 HI378 HB hx381_0 hHeld ⊢
                              refine pure_ (i := 0) (N := some 66) (v := ?_) (a' := ?_) #[true, false, false, false, false, false, false, false] rfl rfl (any_of HT_.out (by kernel_rfl)) (fun _ _ _ h => h) (Or.inl ⟨by rfl, ?_⟩) ?_ ?_
                              rotate_left
                              · intro w'
                                go_simp
                                with_reducible rfl
                              rotate_left
                              · simp only [Act.put, List.setIfInBounds_toArray, List.set_cons_zero, List.set_cons_succ, i64_w, i32_w]
                                rfl
                              refine pure_ (i := 1) (N := some 67) (v := ?_) (a' := ?_) #[true, true, false, false, false, false, false, false] rfl rfl (any_of HT_.out (by kernel_rfl)) (fun _ _ _ h => h) (Or.inl ⟨by rfl, ?_⟩) ?_ ?_
                              rotate_left
                              · intro w'
                                go_simp
                                with_reducible rfl
                              rotate_left
                              · simp only [Act.put, List.setIfInBounds_toArray, List.set_cons_zero, List.set_cons_succ, i64_w, i32_w]
                                rfl
                              refine pure_ (i := 2) (N := some 68) (v := ?_) (a' := ?_) #[true, true, true, false, false, false, false, false] rfl rfl (any_of HT_.out (by kernel_rfl)) (fun _ _ _ h => h) (Or.inl ⟨by rfl, ?_⟩) ?_ ?_
                              rotate_left
                              · intro w'
                                go_simp
                                with_reducible rfl
                              rotate_left
                              · simp only [Act.put, List.setIfInBounds_toArray, List.set_cons_zero, List.set_cons_succ, i64_w, i32_w]
                                rfl
                              refine pure_ (i := 4) (N := some 70) (v := ?_) (a' := ?_) #[true, true, true, false, true, false, false, false] rfl rfl (any_of HT_.out (by kernel_rfl)) (fun _ _ _ h => h) (Or.inl ⟨by rfl, ?_⟩) ?_ ?_
                              rotate_left
                              · intro w'
                                go_simp
                                with_reducible rfl
                              rotate_left
                              · simp only [Act.put, List.setIfInBounds_toArray, List.set_cons_zero, List.set_cons_succ, i64_w, i32_w]
                                rfl
                              refine pure_ (i := 5) (N := some 71) (v := ?_) (a' := ?_) #[true, true, true, false, true, true, false, false] rfl rfl (any_of HT_.out (by kernel_rfl)) (fun _ _ _ h => h) (Or.inl ⟨by rfl, ?_⟩) ?_ ?_
                              rotate_left
                              · intro w'
                                go_simp
                                with_reducible rfl
                              rotate_left
                              · simp only [Act.put, List.setIfInBounds_toArray, List.set_cons_zero, List.set_cons_succ, i64_w, i32_w]
                                rfl
                              refine take_ (i := 3) (N := some 69) (v := ?_) (a' := ?_) #[true, true, true, true, true, true, false, false] rfl rfl (take_ofW HT_.out HW_.out (by kernel_rfl)) (fun _ _ _ h => h) (Or.inl ⟨by rfl, ?_⟩) hHeld ?_ ?_
                              rotate_left
                              · intro w' s0
                                go_simp
                                with_reducible rfl
                              rotate_left
                              · simp only [Act.put, List.setIfInBounds_toArray, List.set_cons_zero, List.set_cons_succ, i64_w, i32_w]
                                rfl
                              refine pure_ (i := 6) (N := some 72) (v := ?_) (a' := ?_) #[true, true, true, true, true, true, true, false] rfl rfl (any_of HT_.out (by kernel_rfl)) (fun _ _ _ h => h) (Or.inl ⟨by rfl, ?_⟩) ?_ ?_
                              rotate_left
                              · intro w'
                                go_simp
                                with_reducible rfl
                              rotate_left
                              · simp only [Act.put, List.setIfInBounds_toArray, List.set_cons_zero, List.set_cons_succ, i64_w, i32_w]
                                rfl
                              refine pure_ (i := 7) (N := some 11) (v := ?_) (a' := ?_) #[true, true, true, true, true, true, true, true] rfl rfl (any_of HT_.out (by kernel_rfl)) (fun _ _ _ h => h) (Or.inl ⟨by rfl, ?_⟩) ?_ ?_
                              rotate_left
                              · intro w'
                                go_simp
                                with_reducible rfl
                              rotate_left
                              · simp only [Act.put, List.setIfInBounds_toArray, List.set_cons_zero, List.set_cons_succ, i64_w, i32_w]
                                rfl
                              refine done_ (done_of HT_.out (by kernel_rfl)) ?_
                              have p382 : 0 ≤ (x9_3 : Int) := of_decide_eq_true (by first | (with_reducible assumption) | assumption)
                              have q382 : x9_3 < (l1.length : Int) := of_decide_eq_true (by first | (with_reducible assumption) | assumption)
                              obtain ⟨ad382, e382, hx382_0⟩ := Kd.at_int HR1.out x9_3 p382 q382
                              obtain rfl : ad379 = ad382 := (by injection e382)
                              replace hx382_0 := (HB.out.cell (World.block_lt_of_cell? w _ hx382_0)).trans hx382_0
                              replace p382 := eq_true p382
                              replace q382 := eq_true q382
                              try go_wp2_with (first | ((with_reducible refine gate_callee (f := 19) rfl ?_); refine goesL_ (some 78) rfl rfl Try.func19 (by kernel_rfl) rfl #[.pointer (some ⟨g378, 0, none⟩), .int .i64 (rd l1 x9_3)] rfl (by (try simp only [List.map_toArray, List.map_cons, List.map_nil]); first | done | rfl | (simp only [List.length_drop, List.length_take]; rfl)) ?_; (with_reducible refine (bits_Reader_Take.calls k3 g378 t375 x379001_3 x379002_3 (rd l1 x9_3) t383 t384 t385 w _ ?side1 ?side2 A28.out).mono ?_); (case side1 => repeat (first | (with_reducible first | exact HI378.out | apply IsS57.alloc | apply IsS57.drewN | apply IsS57.drew | apply IsS57.set_1 | apply IsS57.set_2) | exact HI378.out)); (case side2 => repeat (first | (with_reducible first | exact HB.out | apply below_alloc | apply pw_below_drewN | apply below_drew1 | refine below_set ?_ (IsS52.ge HI365.out) | refine below_set ?_ (IsS57.ge HI378.out)) | exact HB.out)); rintro e w31 ⟨rfl, hi, hb, hk⟩; refine ⟨_, rfl, ?_⟩; have n0_ := Aside0.mk (IsS52.keepG (by repeat (first | (with_reducible first | exact HI365.out | apply IsS52.alloc | apply IsS52.drewN | apply IsS52.drew | apply IsS52.set_0 | apply IsS52.set_1) | exact HI365.out)) (IsS57.blk (show IsS57 w _ g378 t375 x379001_3 x379002_3 from by repeat (first | (with_reducible first | exact HI378.out | apply IsS57.alloc | apply IsS57.drewN | apply IsS57.drew | apply IsS57.set_1 | apply IsS57.set_2) | exact HI378.out))).choose_spec (by decide) hk); have n1_ := Aside0.mk (hb); have n2_ := Aside0.mk (hi); clear HI365; clear HB; clear HI378; have HI365 := n0_; have HB := n1_; have HI378 := n2_; clear n0_ n1_ n2_; (try clear hb); (try clear hb2); (try clear hk); (try clear hi)))
                              go_roundg k3
                              case measure => have := HJ3.out; have := HK2.out; have := HK3.out; omega
                              case rel => exact ⟨(wrap64 (x9_3 + 1)), (t384), (t385), (by first | rfl | (simp; done) | (simp only [i64_w, i32_w]; done) | (simp [*]; done) | (simp only [i64_w, i32_w]; first | rfl | (simp; done) | (simp [*]; done))), H', ⟨by have := HJ3.out; have := HK2.out; have := HK3.out; omega⟩, ⟨by repeat (first | (with_reducible first | exact HI365.out | apply IsS52.alloc | apply IsS52.drewN | apply IsS52.drew | apply IsS52.set_0 | apply IsS52.set_1) | exact HI365.out)⟩, ⟨by repeat (first | (with_reducible first | exact HI378.out | apply IsS57.alloc | apply IsS57.drewN | apply IsS57.drew | apply IsS57.set_1 | apply IsS57.set_2) | exact HI378.out)⟩, ⟨by repeat (first | (with_reducible first | exact HB.out | apply below_alloc | apply pw_below_drewN | apply below_drew1 | refine below_set ?_ (IsS52.ge HI365.out) | refine below_set ?_ (IsS57.ge HI378.out)) | exact HB.out)⟩⟩
                            · rw [if_neg c29] at H
                              have c29b0 : (t383 == (Int.tmod (rd l0 x9_3) (IntKind.u64.wrap (2 ^ (ji25).toNat)))) = false := beq_eq_false_iff_ne.mpr c29
                              have c29b1 : (t383 != (Int.tmod (rd l0 x9_3) (IntKind.u64.wrap (2 ^ (ji25).toNat)))) = true := bne_iff_ne.mpr c29
                              obtain rfl := Option.some.inj H
                              have p379 : 0 ≤ (x9_3 : Int) := of_decide_eq_true (by first | (with_reducible assumption) | assumption)
                              have q379 : x9_3 < (l1.length : Int) := of_decide_eq_true (by first | (with_reducible assumption) | assumption)
                              obtain ⟨ad379, e379, hx379_0⟩ := Kd.at_int HR1.out x9_3 p379 q379
                              cases e379
                              replace hx379_0 := (HB.out.cell (World.block_lt_of_cell? w _ hx379_0)).trans hx379_0
                              replace p379 := eq_true p379
                              replace q379 := eq_true q379
                              have p380 : 0 ≤ (x9_3 : Int) := of_decide_eq_true (by first | (with_reducible assumption) | assumption)
                              have q380 : x9_3 < (l0.length : Int) := of_decide_eq_true (by first | (with_reducible assumption) | assumption)
                              obtain ⟨ad380, e380, hx380_0⟩ := Kd.at_int HR0.out x9_3 p380 q380
                              cases e380
                              replace hx380_0 := (HB.out.cell (World.block_lt_of_cell? w _ hx380_0)).trans hx380_0
                              replace p380 := eq_true p380
                              replace q380 := eq_true q380
                              try go_wp2
                              have n0_ := Aside0.mk (IsS52.drew HI365.out)
                              have n1_ := Aside0.mk (IsS57.drew HI378.out)
                              have n2_ := Aside0.mk (below_drew1 HB.out)
                              clear HI365
                              clear HI378
                              clear HB
                              have HI365 := n0_
                              have HI378 := n1_
                              have HB := n2_
                              clear n0_ n1_ n2_
                              have p381 : 0 ≤ (x9_3 : Int) := of_decide_eq_true (by first | (with_reducible assumption) | assumption)
                              have q381 : x9_3 < (l0.length : Int) := of_decide_eq_true (by first | (with_reducible assumption) | assumption)
                              obtain ⟨ad381, e381, hx381_0⟩ := Kd.at_int HR0.out x9_3 p381 q381
                              have hw381_0 := hx381_0
                              obtain rfl : ad380 = ad381 := (by injection e381)
                              replace hx381_0 := (HB.out.cell (World.block_lt_of_cell? w _ hx381_0)).trans hx381_0
                              replace p381 := eq_true p381
                              replace q381 := eq_true q381
                              refine start_ (n := 8) (S := fun w' => w'.cell? (ad380.add (x9_3).toNat) = some (.int .u64 (rd l0 x9_3))) (ds := []) #[false, false, false, false, false, false, false, false] (by kernel_rfl) rfl rfl (((HB.out.cell (World.block_lt_of_cell? w _ hw381_0)).trans hw381_0)) (fun hHeld => ?_); refine with_tabW serinettelaw01_BitsBack.tab20 serinettelaw01_BitsBack.bits20 (fun HT_ HW_ => ?_)
                              generalize wr.drew = w32 at HI365 HI378 HB hx381_0 hHeld ⊢
                              refine pure_ (i := 0) (N := some 66) (v := ?_) (a' := ?_) #[true, false, false, false, false, false, false, false] rfl rfl (any_of HT_.out (by kernel_rfl)) (fun _ _ _ h => h) (Or.inl ⟨by rfl, ?_⟩) ?_ ?_
                              rotate_left
                              · intro w'
                                go_simp
                                with_reducible rfl
                              rotate_left
                              · simp only [Act.put, List.setIfInBounds_toArray, List.set_cons_zero, List.set_cons_succ, i64_w, i32_w]
                                rfl
                              refine pure_ (i := 1) (N := some 67) (v := ?_) (a' := ?_) #[true, true, false, false, false, false, false, false] rfl rfl (any_of HT_.out (by kernel_rfl)) (fun _ _ _ h => h) (Or.inl ⟨by rfl, ?_⟩) ?_ ?_
                              rotate_left
                              · intro w'
                                go_simp
                                with_reducible rfl
                              rotate_left
                              · simp only [Act.put, List.setIfInBounds_toArray, List.set_cons_zero, List.set_cons_succ, i64_w, i32_w]
                                rfl
                              refine pure_ (i := 2) (N := some 68) (v := ?_) (a' := ?_) #[true, true, true, false, false, false, false, false] rfl rfl (any_of HT_.out (by kernel_rfl)) (fun _ _ _ h => h) (Or.inl ⟨by rfl, ?_⟩) ?_ ?_
                              rotate_left
                              · intro w'
                                go_simp
                                with_reducible rfl
                              rotate_left
                              · simp only [Act.put, List.setIfInBounds_toArray, List.set_cons_zero, List.set_cons_succ, i64_w, i32_w]
                                rfl
                              refine pure_ (i := 4) (N := some 70) (v := ?_) (a' := ?_) #[true, true, true, false, true, false, false, false] rfl rfl (any_of HT_.out (by kernel_rfl)) (fun _ _ _ h => h) (Or.inl ⟨by rfl, ?_⟩) ?_ ?_
                              rotate_left
                              · intro w'
                                go_simp
                                with_reducible rfl
                              rotate_left
                              · simp only [Act.put, List.setIfInBounds_toArray, List.set_cons_zero, List.set_cons_succ, i64_w, i32_w]
                                rfl
                              refine pure_ (i := 5) (N := some 71) (v := ?_) (a' := ?_) #[true, true, true, false, true, true, false, false] rfl rfl (any_of HT_.out (by kernel_rfl)) (fun _ _ _ h => h) (Or.inl ⟨by rfl, ?_⟩) ?_ ?_
                              rotate_left
                              · intro w'
                                go_simp
                                with_reducible rfl
                              rotate_left
                              · simp only [Act.put, List.setIfInBounds_toArray, List.set_cons_zero, List.set_cons_succ, i64_w, i32_w]
                                rfl
                              refine take_ (i := 3) (N := some 69) (v := ?_) (a' := ?_) #[true, true, true, true, true, true, false, false] rfl rfl (take_ofW HT_.out HW_.out (by kernel_rfl)) (fun _ _ _ h => h) (Or.inl ⟨by rfl, ?_⟩) hHeld ?_ ?_
                              rotate_left
                              · intro w' s0
                                go_simp
                                with_reducible rfl
                              rotate_left
                              · simp only [Act.put, List.setIfInBounds_toArray, List.set_cons_zero, List.set_cons_succ, i64_w, i32_w]
                                rfl
                              refine pure_ (i := 6) (N := some 72) (v := ?_) (a' := ?_) #[true, true, true, true, true, true, true, false] rfl rfl (any_of HT_.out (by kernel_rfl)) (fun _ _ _ h => h) (Or.inl ⟨by rfl, ?_⟩) ?_ ?_
                              rotate_left
                              · intro w'
                                go_simp
                                with_reducible rfl
                              rotate_left
                              · simp only [Act.put, List.setIfInBounds_toArray, List.set_cons_zero, List.set_cons_succ, i64_w, i32_w]
                                rfl
                              refine pure_ (i := 7) (N := some 11) (v := ?_) (a' := ?_) #[true, true, true, true, true, true, true, true] rfl rfl (any_of HT_.out (by kernel_rfl)) (fun _ _ _ h => h) (Or.inl ⟨by rfl, ?_⟩) ?_ ?_
                              rotate_left
                              · intro w'
                                go_simp
                                with_reducible rfl
                              rotate_left
                              · simp only [Act.put, List.setIfInBounds_toArray, List.set_cons_zero, List.set_cons_succ, i64_w, i32_w]
                                rfl
                              refine done_ (done_of HT_.out (by kernel_rfl)) ?_
                              have p382 : 0 ≤ (x9_3 : Int) := of_decide_eq_true (by first | (with_reducible assumption) | assumption)
                              have q382 : x9_3 < (l1.length : Int) := of_decide_eq_true (by first | (with_reducible assumption) | assumption)
                              obtain ⟨ad382, e382, hx382_0⟩ := Kd.at_int HR1.out x9_3 p382 q382
                              obtain rfl : ad379 = ad382 := (by injection e382)
                              replace hx382_0 := (HB.out.cell (World.block_lt_of_cell? w _ hx382_0)).trans hx382_0
                              replace p382 := eq_true p382
                              replace q382 := eq_true q382
                              try go_wp2_with (first | ((with_reducible refine gate_callee (f := 19) rfl ?_); refine goesL_ (some 78) rfl rfl Try.func19 (by kernel_rfl) rfl #[.pointer (some ⟨g378, 0, none⟩), .int .i64 (rd l1 x9_3)] rfl (by (try simp only [List.map_toArray, List.map_cons, List.map_nil]); first | done | rfl | (simp only [List.length_drop, List.length_take]; rfl)) ?_; (with_reducible refine (bits_Reader_Take.calls k3 g378 t375 x379001_3 x379002_3 (rd l1 x9_3) t383 t384 t385 w _ ?side1 ?side2 A28.out).mono ?_); (case side1 => repeat (first | (with_reducible first | exact HI378.out | apply IsS57.alloc | apply IsS57.drewN | apply IsS57.drew | apply IsS57.set_1 | apply IsS57.set_2) | exact HI378.out)); (case side2 => repeat (first | (with_reducible first | exact HB.out | apply below_alloc | apply pw_below_drewN | apply below_drew1 | refine below_set ?_ (IsS52.ge HI365.out) | refine below_set ?_ (IsS57.ge HI378.out)) | exact HB.out)); rintro e w33 ⟨rfl, hi, hb, hk⟩; refine ⟨_, rfl, ?_⟩; have n0_ := Aside0.mk (IsS52.keepG (by repeat (first | (with_reducible first | exact HI365.out | apply IsS52.alloc | apply IsS52.drewN | apply IsS52.drew | apply IsS52.set_0 | apply IsS52.set_1) | exact HI365.out)) (IsS57.blk (show IsS57 w _ g378 t375 x379001_3 x379002_3 from by repeat (first | (with_reducible first | exact HI378.out | apply IsS57.alloc | apply IsS57.drewN | apply IsS57.drew | apply IsS57.set_1 | apply IsS57.set_2) | exact HI378.out))).choose_spec (by decide) hk); have n1_ := Aside0.mk (hb); have n2_ := Aside0.mk (hi); clear HI365; clear HB; clear HI378; have HI365 := n0_; have HB := n1_; have HI378 := n2_; clear n0_ n1_ n2_; (try clear hb); (try clear hb2); (try clear hk); (try clear hi)))
                              go_ret
                              exact ⟨by first | rfl | (simp [errW_none, errW_some] <;> rfl) | (simp only [← hji24, ← hji25]; first | rfl | (simp [errW_none, errW_some] <;> rfl)) | (simp [*, errW_none, errW_some] <;> rfl), by repeat (first | (with_reducible first | exact HB.out | apply below_alloc | apply pw_below_drewN | apply below_drew1 | refine below_set ?_ (IsS52.ge HI365.out) | refine below_set ?_ (IsS57.ge HI378.out)) | exact HB.out)⟩
                        · rw [if_neg c26] at H
                          have c26b0 : decide ((ji25) < 64) = false := decide_eq_false c26
                          clear c26
                          replace H := Option.bind_eq_some_iff.mp H
                          obtain ⟨⟨t387, t388, t389⟩, A340, H⟩ := H
                          replace H : (if t387 = (rd l0 x9_3) then (serinettelaw01_BitsBack.l1 k3 l0 l1 t362 (wrap64 (x9_3 + 1)) t373 t374 t375 t388 t389) else (some false)) = some r := H
                          have A34 := Aside0.mk A340
                          clear A340
                          by_cases c35 : t387 = (rd l0 x9_3)
                          · rw [if_pos c35] at H
                            have c35b0 : (t387 == (rd l0 x9_3)) = true := beq_iff_eq.mpr c35
                            have c35b1 : (t387 != (rd l0 x9_3)) = false := bne_eq_false_iff_eq.mpr c35
                            clear c35
                            have H' := Aside0.mk H
                            clear H
                            have p379 : 0 ≤ (x9_3 : Int) := of_decide_eq_true (by first | (with_reducible assumption) | assumption)
                            have q379 : x9_3 < (l1.length : Int) := of_decide_eq_true (by first | (with_reducible assumption) | assumption)
                            obtain ⟨ad379, e379, hx379_0⟩ := Kd.at_int HR1.out x9_3 p379 q379
                            cases e379
                            replace hx379_0 := (HB.out.cell (World.block_lt_of_cell? w _ hx379_0)).trans hx379_0
                            replace p379 := eq_true p379
                            replace q379 := eq_true q379
                            have p380 : 0 ≤ (x9_3 : Int) := of_decide_eq_true (by first | (with_reducible assumption) | assumption)
                            have q380 : x9_3 < (l0.length : Int) := of_decide_eq_true (by first | (with_reducible assumption) | assumption)
                            obtain ⟨ad380, e380, hx380_0⟩ := Kd.at_int HR0.out x9_3 p380 q380
                            cases e380
                            replace hx380_0 := (HB.out.cell (World.block_lt_of_cell? w _ hx380_0)).trans hx380_0
                            replace p380 := eq_true p380
                            replace q380 := eq_true q380
                            have p386 : 0 ≤ (x9_3 : Int) := of_decide_eq_true (by first | (with_reducible assumption) | assumption)
                            have q386 : x9_3 < (l1.length : Int) := of_decide_eq_true (by first | (with_reducible assumption) | assumption)
                            obtain ⟨ad386, e386, hx386_0⟩ := Kd.at_int HR1.out x9_3 p386 q386
                            obtain rfl : ad379 = ad386 := (by injection e386)
                            replace hx386_0 := (HB.out.cell (World.block_lt_of_cell? w _ hx386_0)).trans hx386_0
                            replace p386 := eq_true p386
                            replace q386 := eq_true q386
                            go_wp2_with (first | ((with_reducible refine gate_callee (f := 19) rfl ?_); refine goesL_ (some 78) rfl rfl Try.func19 (by kernel_rfl) rfl #[.pointer (some ⟨g378, 0, none⟩), .int .i64 (rd l1 x9_3)] rfl (by (try simp only [List.map_toArray, List.map_cons, List.map_nil]); first | done | rfl | (simp only [List.length_drop, List.length_take]; rfl)) ?_; (with_reducible refine (bits_Reader_Take.calls k3 g378 t375 x379001_3 x379002_3 (rd l1 x9_3) t387 t388 t389 w _ ?side1 ?side2 A34.out).mono ?_); (case side1 => repeat (first | (with_reducible first | exact HI378.out | apply IsS57.alloc | apply IsS57.drewN | apply IsS57.drew | apply IsS57.set_1 | apply IsS57.set_2) | exact HI378.out)); (case side2 => repeat (first | (with_reducible first | exact HB.out | apply below_alloc | apply pw_below_drewN | apply below_drew1 | refine below_set ?_ (IsS52.ge HI365.out) | refine below_set ?_ (IsS57.ge HI378.out)) | exact HB.out)); rintro e w36 ⟨rfl, hi, hb, hk⟩; refine ⟨_, rfl, ?_⟩; have n0_ := Aside0.mk (IsS52.keepG (by repeat (first | (with_reducible first | exact HI365.out | apply IsS52.alloc | apply IsS52.drewN | apply IsS52.drew | apply IsS52.set_0 | apply IsS52.set_1) | exact HI365.out)) (IsS57.blk (show IsS57 w _ g378 t375 x379001_3 x379002_3 from by repeat (first | (with_reducible first | exact HI378.out | apply IsS57.alloc | apply IsS57.drewN | apply IsS57.drew | apply IsS57.set_1 | apply IsS57.set_2) | exact HI378.out))).choose_spec (by decide) hk); have n1_ := Aside0.mk (hb); have n2_ := Aside0.mk (hi); clear HI365; clear HB; clear HI378; have HI365 := n0_; have HB := n1_; have HI378 := n2_; clear n0_ n1_ n2_; (try clear hb); (try clear hb2); (try clear hk); (try clear hi)))
                            go_roundg k3
                            case measure => have := HJ3.out; have := HK2.out; have := HK3.out; omega
                            case rel => exact ⟨(wrap64 (x9_3 + 1)), (t388), (t389), (by first | rfl | (simp; done) | (simp only [i64_w, i32_w]; done) | (simp [*]; done) | (simp only [i64_w, i32_w]; first | rfl | (simp; done) | (simp [*]; done))), H', ⟨by have := HJ3.out; have := HK2.out; have := HK3.out; omega⟩, ⟨by repeat (first | (with_reducible first | exact HI365.out | apply IsS52.alloc | apply IsS52.drewN | apply IsS52.drew | apply IsS52.set_0 | apply IsS52.set_1) | exact HI365.out)⟩, ⟨by repeat (first | (with_reducible first | exact HI378.out | apply IsS57.alloc | apply IsS57.drewN | apply IsS57.drew | apply IsS57.set_1 | apply IsS57.set_2) | exact HI378.out)⟩, ⟨by repeat (first | (with_reducible first | exact HB.out | apply below_alloc | apply pw_below_drewN | apply below_drew1 | refine below_set ?_ (IsS52.ge HI365.out) | refine below_set ?_ (IsS57.ge HI378.out)) | exact HB.out)⟩⟩
                          · rw [if_neg c35] at H
                            have c35b0 : (t387 == (rd l0 x9_3)) = false := beq_eq_false_iff_ne.mpr c35
                            have c35b1 : (t387 != (rd l0 x9_3)) = true := bne_iff_ne.mpr c35
                            obtain rfl := Option.some.inj H
                            have p379 : 0 ≤ (x9_3 : Int) := of_decide_eq_true (by first | (with_reducible assumption) | assumption)
                            have q379 : x9_3 < (l1.length : Int) := of_decide_eq_true (by first | (with_reducible assumption) | assumption)
                            obtain ⟨ad379, e379, hx379_0⟩ := Kd.at_int HR1.out x9_3 p379 q379
                            cases e379
                            replace hx379_0 := (HB.out.cell (World.block_lt_of_cell? w _ hx379_0)).trans hx379_0
                            replace p379 := eq_true p379
                            replace q379 := eq_true q379
                            have p380 : 0 ≤ (x9_3 : Int) := of_decide_eq_true (by first | (with_reducible assumption) | assumption)
                            have q380 : x9_3 < (l0.length : Int) := of_decide_eq_true (by first | (with_reducible assumption) | assumption)
                            obtain ⟨ad380, e380, hx380_0⟩ := Kd.at_int HR0.out x9_3 p380 q380
                            cases e380
                            replace hx380_0 := (HB.out.cell (World.block_lt_of_cell? w _ hx380_0)).trans hx380_0
                            replace p380 := eq_true p380
                            replace q380 := eq_true q380
                            have p386 : 0 ≤ (x9_3 : Int) := of_decide_eq_true (by first | (with_reducible assumption) | assumption)
                            have q386 : x9_3 < (l1.length : Int) := of_decide_eq_true (by first | (with_reducible assumption) | assumption)
                            obtain ⟨ad386, e386, hx386_0⟩ := Kd.at_int HR1.out x9_3 p386 q386
                            obtain rfl : ad379 = ad386 := (by injection e386)
                            replace hx386_0 := (HB.out.cell (World.block_lt_of_cell? w _ hx386_0)).trans hx386_0
                            replace p386 := eq_true p386
                            replace q386 := eq_true q386
                            go_wp2_with (first | ((with_reducible refine gate_callee (f := 19) rfl ?_); refine goesL_ (some 78) rfl rfl Try.func19 (by kernel_rfl) rfl #[.pointer (some ⟨g378, 0, none⟩), .int .i64 (rd l1 x9_3)] rfl (by (try simp only [List.map_toArray, List.map_cons, List.map_nil]); first | done | rfl | (simp only [List.length_drop, List.length_take]; rfl)) ?_; (with_reducible refine (bits_Reader_Take.calls k3 g378 t375 x379001_3 x379002_3 (rd l1 x9_3) t387 t388 t389 w _ ?side1 ?side2 A34.out).mono ?_); (case side1 => repeat (first | (with_reducible first | exact HI378.out | apply IsS57.alloc | apply IsS57.drewN | apply IsS57.drew | apply IsS57.set_1 | apply IsS57.set_2) | exact HI378.out)); (case side2 => repeat (first | (with_reducible first | exact HB.out | apply below_alloc | apply pw_below_drewN | apply below_drew1 | refine below_set ?_ (IsS52.ge HI365.out) | refine below_set ?_ (IsS57.ge HI378.out)) | exact HB.out)); rintro e w37 ⟨rfl, hi, hb, hk⟩; refine ⟨_, rfl, ?_⟩; have n0_ := Aside0.mk (IsS52.keepG (by repeat (first | (with_reducible first | exact HI365.out | apply IsS52.alloc | apply IsS52.drewN | apply IsS52.drew | apply IsS52.set_0 | apply IsS52.set_1) | exact HI365.out)) (IsS57.blk (show IsS57 w _ g378 t375 x379001_3 x379002_3 from by repeat (first | (with_reducible first | exact HI378.out | apply IsS57.alloc | apply IsS57.drewN | apply IsS57.drew | apply IsS57.set_1 | apply IsS57.set_2) | exact HI378.out))).choose_spec (by decide) hk); have n1_ := Aside0.mk (hb); have n2_ := Aside0.mk (hi); clear HI365; clear HB; clear HI378; have HI365 := n0_; have HB := n1_; have HI378 := n2_; clear n0_ n1_ n2_; (try clear hb); (try clear hb2); (try clear hk); (try clear hi)))
                            go_ret
                            exact ⟨by first | rfl | (simp [errW_none, errW_some] <;> rfl) | (simp only [← hji24, ← hji25]; first | rfl | (simp [errW_none, errW_some] <;> rfl)) | (simp [*, errW_none, errW_some] <;> rfl), by repeat (first | (with_reducible first | exact HB.out | apply below_alloc | apply pw_below_drewN | apply below_drew1 | refine below_set ?_ (IsS52.ge HI365.out) | refine below_set ?_ (IsS57.ge HI378.out)) | exact HB.out)⟩
                      · rw [if_neg c23] at H
                        exact absurd H (by simp)
                    · rw [if_neg c22] at H
                      exact absurd H (by simp)
                  · rw [if_neg c21] at H
                    have c21b0 : decide (x9_3 < (l0.length : Int)) = false := decide_eq_false c21
                    clear c21
                    have HC38 := Aside0.mk H
                    clear H
                    go_upto_region 23 with (fail)
                    go_cut [90] (fun v90 wc => ∃ (kq : Nat) (x90_37 : Bool) (x379001_37 : Int) (x379002_37 : Int), v90 = .bool x90_37 ∧ Aside0 (serinettelaw01_BitsBack.j3 kq t362 x90_37 t375 x379001_37 x379002_37 = some r) ∧ Aside0 (kq ≤ k3) ∧ Aside0 (IsS57 w wc g378 t375 x379001_37 x379002_37) ∧ Aside0 (Below w.heap.size w wc))
                    case first =>
                      have H := HC38.out
                      clear HC38
                      replace H := Option.bind_eq_some_iff.mp H
                      obtain ⟨⟨t390, t391, t392⟩, A390, H⟩ := H
                      replace H : ((bits_Writer_Len.f t373 t374).bind fun bt393 => (if t390 = bt393.1 then ((bits_Reader_Left.f t375 t391 t392).bind fun bt396 => (serinettelaw01_BitsBack.j3 k3 t362 (decide (bt396.1 > 7)) t375 bt396.2.1 bt396.2.2)) else (serinettelaw01_BitsBack.j3 k3 t362 true t375 t391 t392))) = some r := H
                      have A39 := Aside0.mk A390
                      clear A390
                      replace H := Option.bind_eq_some_iff.mp H
                      obtain ⟨⟨t393, t394, t395⟩, A400, H⟩ := H
                      replace H : (if t390 = t393 then ((bits_Reader_Left.f t375 t391 t392).bind fun bt396 => (serinettelaw01_BitsBack.j3 k3 t362 (decide (bt396.1 > 7)) t375 bt396.2.1 bt396.2.2)) else (serinettelaw01_BitsBack.j3 k3 t362 true t375 t391 t392)) = some r := H
                      have A40 := Aside0.mk A400
                      clear A400
                      by_cases c41 : t390 = t393
                      · rw [if_pos c41] at H
                        have c41b0 : (t390 == t393) = true := beq_iff_eq.mpr c41
                        have c41b1 : (t390 != t393) = false := bne_eq_false_iff_eq.mpr c41
                        clear c41
                        (first | rw [c41b0] | (simp only [i64_w, i32_w]; rw [c41b0]) | skip)
                        replace H := Option.bind_eq_some_iff.mp H
                        obtain ⟨⟨t396, t397, t398⟩, A420, H⟩ := H
                        replace H : (serinettelaw01_BitsBack.j3 k3 t362 (decide (t396 > 7)) t375 t397 t398) = some r := H
                        have A42 := Aside0.mk A420
                        clear A420
                        have H' := Aside0.mk H
                        clear H
                        go_wp2_with (first | ((with_reducible refine gate_callee (f := 20) rfl ?_); refine goesL_ (some 82) rfl rfl Try.func20 (by kernel_rfl) rfl #[.pointer (some ⟨g378, 0, none⟩)] rfl (by (try simp only [List.map_toArray, List.map_cons, List.map_nil]); first | done | rfl | (simp only [List.length_drop, List.length_take]; rfl)) ?_; (with_reducible refine (bits_Reader_At.calls g378 t375 x379001_3 x379002_3 t390 t391 t392 w _ ?side1 ?side2 A39.out).mono ?_); (case side1 => repeat (first | (with_reducible first | exact HI378.out | apply IsS57.alloc | apply IsS57.drewN | apply IsS57.drew | apply IsS57.set_1 | apply IsS57.set_2) | exact HI378.out)); (case side2 => repeat (first | (with_reducible first | exact HB.out | apply below_alloc | apply pw_below_drewN | apply below_drew1 | refine below_set ?_ (IsS52.ge HI365.out) | refine below_set ?_ (IsS57.ge HI378.out)) | exact HB.out)); rintro e w43 ⟨rfl, hi, hb, hk⟩; refine ⟨_, rfl, ?_⟩; have n0_ := Aside0.mk (IsS52.keepG (by repeat (first | (with_reducible first | exact HI365.out | apply IsS52.alloc | apply IsS52.drewN | apply IsS52.drew | apply IsS52.set_0 | apply IsS52.set_1) | exact HI365.out)) (IsS57.blk (show IsS57 w _ g378 t375 x379001_3 x379002_3 from by repeat (first | (with_reducible first | exact HI378.out | apply IsS57.alloc | apply IsS57.drewN | apply IsS57.drew | apply IsS57.set_1 | apply IsS57.set_2) | exact HI378.out))).choose_spec (by decide) hk); have n1_ := Aside0.mk (hb); have n2_ := Aside0.mk (hi); clear HI365; clear HB; clear HI378; have HI365 := n0_; have HB := n1_; have HI378 := n2_; clear n0_ n1_ n2_; (try clear hb); (try clear hb2); (try clear hk); (try clear hi)) | ((with_reducible refine gate_callee (f := 14) rfl ?_); refine goesL_ (some 84) rfl rfl Try.func14 (by kernel_rfl) rfl #[.pointer (some ⟨g365, 0, none⟩)] rfl (by (try simp only [List.map_toArray, List.map_cons, List.map_nil]); first | done | rfl | (simp only [List.length_drop, List.length_take]; rfl)) ?_; (with_reducible refine (bits_Writer_Len.calls g365 t373 t374 t393 t394 t395 w _ ?side1 ?side2 A40.out).mono ?_); (case side1 => repeat (first | (with_reducible first | exact HI365.out | apply IsS52.alloc | apply IsS52.drewN | apply IsS52.drew | apply IsS52.set_0 | apply IsS52.set_1) | exact HI365.out)); (case side2 => repeat (first | (with_reducible first | exact HB.out | apply below_alloc | apply pw_below_drewN | apply below_drew1 | refine below_set ?_ (IsS52.ge HI365.out) | refine below_set ?_ (IsS57.ge HI378.out)) | exact HB.out)); rintro e w44 ⟨rfl, hi, hb, hk⟩; refine ⟨_, rfl, ?_⟩; have n0_ := Aside0.mk (IsS57.keepG (by repeat (first | (with_reducible first | exact HI378.out | apply IsS57.alloc | apply IsS57.drewN | apply IsS57.drew | apply IsS57.set_1 | apply IsS57.set_2) | exact HI378.out)) (IsS52.blk (show IsS52 w _ g365 t373 t374 from by repeat (first | (with_reducible first | exact HI365.out | apply IsS52.alloc | apply IsS52.drewN | apply IsS52.drew | apply IsS52.set_0 | apply IsS52.set_1) | exact HI365.out))).choose_spec (by decide) hk); have n1_ := Aside0.mk (hb); have n2_ := Aside0.mk (hi); clear HI378; clear HB; clear HI365; have HI378 := n0_; have HB := n1_; have HI365 := n2_; clear n0_ n1_ n2_; (try clear hb); (try clear hb2); (try clear hk); (try clear hi)) | (go_at_call 22; (with_reducible refine (bits_Reader_Left.calls g378 t375 t391 t392 t396 t397 t398 w _ ?side1 ?side2 A42.out).mono ?_); (case side1 => repeat (first | (with_reducible first | exact HI378.out | apply IsS57.alloc | apply IsS57.drewN | apply IsS57.drew | apply IsS57.set_1 | apply IsS57.set_2) | exact HI378.out)); (case side2 => repeat (first | (with_reducible first | exact HB.out | apply below_alloc | apply pw_below_drewN | apply below_drew1 | refine below_set ?_ (IsS52.ge HI365.out) | refine below_set ?_ (IsS57.ge HI378.out)) | exact HB.out)); rintro e w45 ⟨rfl, hi, hb, hk⟩; have n0_ := Aside0.mk (IsS52.keepG (by repeat (first | (with_reducible first | exact HI365.out | apply IsS52.alloc | apply IsS52.drewN | apply IsS52.drew | apply IsS52.set_0 | apply IsS52.set_1) | exact HI365.out)) (IsS57.blk (show IsS57 w _ g378 t375 t391 t392 from by repeat (first | (with_reducible first | exact HI378.out | apply IsS57.alloc | apply IsS57.drewN | apply IsS57.drew | apply IsS57.set_1 | apply IsS57.set_2) | exact HI378.out))).choose_spec (by decide) hk); have n1_ := Aside0.mk (hb); have n2_ := Aside0.mk (hi); clear HI365; clear HB; clear HI378; have HI365 := n0_; have HB := n1_; have HI378 := n2_; clear n0_ n1_ n2_; (try clear hb); (try clear hb2); (try clear hk); (try clear hi)))
                        go_meet
                        case rel => exact ⟨_, (decide (t396 > 7)), (t397), (t398), (by first | rfl | (simp; done) | (simp only [i64_w, i32_w]; done) | (simp [*]; done) | (simp only [i64_w, i32_w]; first | rfl | (simp; done) | (simp [*]; done))), H', ⟨by have := HJ3.out; have := HK2.out; have := HK3.out; first | omega | exact Nat.le_refl _⟩, ⟨by repeat (first | (with_reducible first | exact HI378.out | apply IsS57.alloc | apply IsS57.drewN | apply IsS57.drew | apply IsS57.set_1 | apply IsS57.set_2) | exact HI378.out)⟩, ⟨by repeat (first | (with_reducible first | exact HB.out | apply below_alloc | apply pw_below_drewN | apply below_drew1 | refine below_set ?_ (IsS52.ge HI365.out) | refine below_set ?_ (IsS57.ge HI378.out)) | exact HB.out)⟩⟩
                      · rw [if_neg c41] at H
                        have c41b0 : (t390 == t393) = false := beq_eq_false_iff_ne.mpr c41
                        have c41b1 : (t390 != t393) = true := bne_iff_ne.mpr c41
                        (first | rw [c41b0] | (simp only [i64_w, i32_w]; rw [c41b0]) | skip)
                        have H' := Aside0.mk H
                        clear H
                        go_wp2_with (first | ((with_reducible refine gate_callee (f := 20) rfl ?_); refine goesL_ (some 82) rfl rfl Try.func20 (by kernel_rfl) rfl #[.pointer (some ⟨g378, 0, none⟩)] rfl (by (try simp only [List.map_toArray, List.map_cons, List.map_nil]); first | done | rfl | (simp only [List.length_drop, List.length_take]; rfl)) ?_; (with_reducible refine (bits_Reader_At.calls g378 t375 x379001_3 x379002_3 t390 t391 t392 w _ ?side1 ?side2 A39.out).mono ?_); (case side1 => repeat (first | (with_reducible first | exact HI378.out | apply IsS57.alloc | apply IsS57.drewN | apply IsS57.drew | apply IsS57.set_1 | apply IsS57.set_2) | exact HI378.out)); (case side2 => repeat (first | (with_reducible first | exact HB.out | apply below_alloc | apply pw_below_drewN | apply below_drew1 | refine below_set ?_ (IsS52.ge HI365.out) | refine below_set ?_ (IsS57.ge HI378.out)) | exact HB.out)); rintro e w46 ⟨rfl, hi, hb, hk⟩; refine ⟨_, rfl, ?_⟩; have n0_ := Aside0.mk (IsS52.keepG (by repeat (first | (with_reducible first | exact HI365.out | apply IsS52.alloc | apply IsS52.drewN | apply IsS52.drew | apply IsS52.set_0 | apply IsS52.set_1) | exact HI365.out)) (IsS57.blk (show IsS57 w _ g378 t375 x379001_3 x379002_3 from by repeat (first | (with_reducible first | exact HI378.out | apply IsS57.alloc | apply IsS57.drewN | apply IsS57.drew | apply IsS57.set_1 | apply IsS57.set_2) | exact HI378.out))).choose_spec (by decide) hk); have n1_ := Aside0.mk (hb); have n2_ := Aside0.mk (hi); clear HI365; clear HB; clear HI378; have HI365 := n0_; have HB := n1_; have HI378 := n2_; clear n0_ n1_ n2_; (try clear hb); (try clear hb2); (try clear hk); (try clear hi)) | ((with_reducible refine gate_callee (f := 14) rfl ?_); refine goesL_ (some 84) rfl rfl Try.func14 (by kernel_rfl) rfl #[.pointer (some ⟨g365, 0, none⟩)] rfl (by (try simp only [List.map_toArray, List.map_cons, List.map_nil]); first | done | rfl | (simp only [List.length_drop, List.length_take]; rfl)) ?_; (with_reducible refine (bits_Writer_Len.calls g365 t373 t374 t393 t394 t395 w _ ?side1 ?side2 A40.out).mono ?_); (case side1 => repeat (first | (with_reducible first | exact HI365.out | apply IsS52.alloc | apply IsS52.drewN | apply IsS52.drew | apply IsS52.set_0 | apply IsS52.set_1) | exact HI365.out)); (case side2 => repeat (first | (with_reducible first | exact HB.out | apply below_alloc | apply pw_below_drewN | apply below_drew1 | refine below_set ?_ (IsS52.ge HI365.out) | refine below_set ?_ (IsS57.ge HI378.out)) | exact HB.out)); rintro e w47 ⟨rfl, hi, hb, hk⟩; refine ⟨_, rfl, ?_⟩; have n0_ := Aside0.mk (IsS57.keepG (by repeat (first | (with_reducible first | exact HI378.out | apply IsS57.alloc | apply IsS57.drewN | apply IsS57.drew | apply IsS57.set_1 | apply IsS57.set_2) | exact HI378.out)) (IsS52.blk (show IsS52 w _ g365 t373 t374 from by repeat (first | (with_reducible first | exact HI365.out | apply IsS52.alloc | apply IsS52.drewN | apply IsS52.drew | apply IsS52.set_0 | apply IsS52.set_1) | exact HI365.out))).choose_spec (by decide) hk); have n1_ := Aside0.mk (hb); have n2_ := Aside0.mk (hi); clear HI378; clear HB; clear HI365; have HI378 := n0_; have HB := n1_; have HI365 := n2_; clear n0_ n1_ n2_; (try clear hb); (try clear hb2); (try clear hk); (try clear hi)))
                        go_meet
                        case rel => exact ⟨_, (true), (t391), (t392), (by first | rfl | (simp; done) | (simp only [i64_w, i32_w]; done) | (simp [*]; done) | (simp only [i64_w, i32_w]; first | rfl | (simp; done) | (simp [*]; done))), H', ⟨by have := HJ3.out; have := HK2.out; have := HK3.out; first | omega | exact Nat.le_refl _⟩, ⟨by repeat (first | (with_reducible first | exact HI378.out | apply IsS57.alloc | apply IsS57.drewN | apply IsS57.drew | apply IsS57.set_1 | apply IsS57.set_2) | exact HI378.out)⟩, ⟨by repeat (first | (with_reducible first | exact HB.out | apply below_alloc | apply pw_below_drewN | apply below_drew1 | refine below_set ?_ (IsS52.ge HI365.out) | refine below_set ?_ (IsS57.ge HI378.out)) | exact HB.out)⟩⟩
                    case rest =>
                      clear HC38
                      try clear c1
                      try clear c2
                      try clear p2
                      try clear c3
                      try clear p3
                      try clear q3
                      try clear hx3
                      try clear c4
                      try clear c6
                      try clear c6b0
                      try clear c6b1
                      try clear p6
                      try clear c7
                      try clear c9
                      try clear c10
                      try clear c10b0
                      try clear c11
                      try clear c11b0
                      try clear c12
                      try clear c12b0
                      try clear c14
                      try clear c16
                      try clear c18
                      try clear c19
                      try clear c20
                      try clear c21
                      try clear c21b0
                      try clear c22
                      try clear c22b0
                      try clear c23
                      try clear c23b0
                      try clear c26
                      try clear c26b0
                      try clear c27
                      try clear c27b0
                      try clear c27b1
                      try clear c29
                      try clear c29b0
                      try clear c29b1
                      try clear c35
                      try clear c35b0
                      try clear c35b1
                      try clear p36
                      try clear q36
                      try clear hx36
                      try clear p37
                      try clear q37
                      try clear hx37
                      try clear p38
                      try clear q38
                      try clear hx38
                      try clear c41
                      try clear c41b0
                      try clear c41b1
                      try clear hx366_0
                      try clear hx367_0
                      try clear hx379_0
                      try clear hx380_0
                      try clear hx381_0
                      try clear hx382_0
                      try clear hx386_0
                      try clear p2
                      try clear p3
                      try clear p366
                      try clear p367
                      try clear p379
                      try clear p380
                      try clear p381
                      try clear p382
                      try clear p386
                      try clear p6
                      try clear q3
                      try clear q366
                      try clear q367
                      try clear q379
                      try clear q380
                      try clear q381
                      try clear q382
                      try clear q386
                      obtain ⟨kq, x90_37, x379001_37, x379002_37, rfl, HA, HJ37, HI378, HB⟩ := hcut
                      cases kq with
                      | zero => exact absurd HA.out (by simp [serinettelaw01_BitsBack.j3])
                      | succ kj37 =>
                        have H := HA.out
                        clear HA
                        simp only [serinettelaw01_BitsBack.j3] at H
                        by_cases c48 : x90_37 = true
                        · subst c48
                          have H1 : (some false) = some r := by rw [if_pos rfl] at H; exact H
                          clear H
                          have H := H1
                          clear H1
                          obtain rfl := Option.some.inj H
                          go_wp2
                          go_ret
                          exact ⟨by first | rfl | (simp [errW_none, errW_some] <;> rfl) | (simp [*, errW_none, errW_some] <;> rfl), by repeat (first | (with_reducible first | exact HB.out | apply below_alloc | apply pw_below_drewN | apply below_drew1 | refine below_set ?_ (IsS57.ge HI378.out)) | exact HB.out)⟩
                        · replace c48 := Bool.eq_false_iff.mpr c48
                          subst c48
                          have H1 : ((bits_Reader_Fill.f kj37 t375 x379001_37 x379002_37).bind fun bt399 => (if t362 = true then ((bits_Reader_End.f t375 bt399.1 bt399.2).bind fun bt401 => (some (bt401.1 == 0))) else (some false))) = some r := by rw [if_neg (show ¬ (false = true) by decide)] at H; exact H
                          clear H
                          have H := H1
                          clear H1
                          replace H := Option.bind_eq_some_iff.mp H
                          obtain ⟨⟨t399, t400⟩, A490, H⟩ := H
                          replace H : (if t362 = true then ((bits_Reader_End.f t375 t399 t400).bind fun bt401 => (some (bt401.1 == 0))) else (some false)) = some r := H
                          have A49 := Aside0.mk A490
                          clear A490
                          by_cases c50 : t362 = true
                          · subst c50
                            have H1 : ((bits_Reader_End.f t375 t399 t400).bind fun bt401 => (some (bt401.1 == 0))) = some r := by rw [if_pos rfl] at H; exact H
                            clear H
                            have H := H1
                            clear H1
                            replace H := Option.bind_eq_some_iff.mp H
                            obtain ⟨⟨t401, t402, t403⟩, A510, H⟩ := H
                            replace H : (some (t401 == 0)) = some r := H
                            have A51 := Aside0.mk A510
                            clear A510
                            obtain rfl := Option.some.inj H
                            go_wp2_with (first | ((with_reducible refine gate_callee (f := 23) rfl ?_); refine goesL_ (some 92) rfl rfl Try.func23 (by kernel_rfl) rfl #[.pointer (some ⟨g378, 0, none⟩)] rfl (by (try simp only [List.map_toArray, List.map_cons, List.map_nil]); first | done | rfl | (simp only [List.length_drop, List.length_take]; rfl)) ?_; (with_reducible refine (bits_Reader_Fill.calls kj37 g378 t375 x379001_37 x379002_37 t399 t400 w _ ?side1 ?side2 A49.out).mono ?_); (case side1 => repeat (first | (with_reducible first | exact HI378.out | apply IsS57.alloc | apply IsS57.drewN | apply IsS57.drew | apply IsS57.set_1 | apply IsS57.set_2) | exact HI378.out)); (case side2 => repeat (first | (with_reducible first | exact HB.out | apply below_alloc | apply pw_below_drewN | apply below_drew1 | refine below_set ?_ (IsS57.ge HI378.out)) | exact HB.out)); rintro e w52 ⟨rfl, hi, hb, hk⟩; refine ⟨_, rfl, ?_⟩; have n0_ := Aside0.mk (hb); have n1_ := Aside0.mk (hi); clear HB; clear HI378; have HB := n0_; have HI378 := n1_; clear n0_ n1_; (try clear hb); (try clear hb2); (try clear hk); (try clear hi)) | (go_at_call 24; (with_reducible refine (bits_Reader_End.calls g378 t375 t399 t400 t401 t402 t403 w _ ?side1 ?side2 A51.out).mono ?_); (case side1 => repeat (first | (with_reducible first | exact HI378.out | apply IsS57.alloc | apply IsS57.drewN | apply IsS57.drew | apply IsS57.set_1 | apply IsS57.set_2) | exact HI378.out)); (case side2 => repeat (first | (with_reducible first | exact HB.out | apply below_alloc | apply pw_below_drewN | apply below_drew1 | refine below_set ?_ (IsS57.ge HI378.out)) | exact HB.out)); rintro e w53 ⟨rfl, hi, hb, hk⟩; have n0_ := Aside0.mk (hb); have n1_ := Aside0.mk (hi); clear HB; clear HI378; have HB := n0_; have HI378 := n1_; clear n0_ n1_; (try clear hb); (try clear hb2); (try clear hk); (try clear hi)))
                            go_ret
                            exact ⟨by first | rfl | (simp [errW_none, errW_some] <;> rfl) | (simp [*, errW_none, errW_some] <;> rfl), by repeat (first | (with_reducible first | exact HB.out | apply below_alloc | apply pw_below_drewN | apply below_drew1 | refine below_set ?_ (IsS57.ge HI378.out)) | exact HB.out)⟩
                          · replace c50 := Bool.eq_false_iff.mpr c50
                            subst c50
                            have H1 : (some false) = some r := by rw [if_neg (show ¬ (false = true) by decide)] at H; exact H
                            clear H
                            have H := H1
                            clear H1
                            obtain rfl := Option.some.inj H
                            go_wp2_with (first | ((with_reducible refine gate_callee (f := 23) rfl ?_); refine goesL_ (some 92) rfl rfl Try.func23 (by kernel_rfl) rfl #[.pointer (some ⟨g378, 0, none⟩)] rfl (by (try simp only [List.map_toArray, List.map_cons, List.map_nil]); first | done | rfl | (simp only [List.length_drop, List.length_take]; rfl)) ?_; (with_reducible refine (bits_Reader_Fill.calls kj37 g378 t375 x379001_37 x379002_37 t399 t400 w _ ?side1 ?side2 A49.out).mono ?_); (case side1 => repeat (first | (with_reducible first | exact HI378.out | apply IsS57.alloc | apply IsS57.drewN | apply IsS57.drew | apply IsS57.set_1 | apply IsS57.set_2) | exact HI378.out)); (case side2 => repeat (first | (with_reducible first | exact HB.out | apply below_alloc | apply pw_below_drewN | apply below_drew1 | refine below_set ?_ (IsS57.ge HI378.out)) | exact HB.out)); rintro e w54 ⟨rfl, hi, hb, hk⟩; refine ⟨_, rfl, ?_⟩; have n0_ := Aside0.mk (hb); have n1_ := Aside0.mk (hi); clear HB; clear HI378; have HB := n0_; have HI378 := n1_; clear n0_ n1_; (try clear hb); (try clear hb2); (try clear hk); (try clear hi)))
                            go_ret
                            exact ⟨by first | rfl | (simp [errW_none, errW_some] <;> rfl) | (simp [*, errW_none, errW_some] <;> rfl), by repeat (first | (with_reducible first | exact HB.out | apply below_alloc | apply pw_below_drewN | apply below_drew1 | refine below_set ?_ (IsS57.ge HI378.out)) | exact HB.out)⟩

/-- THE ONE PURE STATEMENT of serinettelaw01_BitsBack: yours. -/
def serinettelaw01_BitsBack.Pure : Prop := ∀ (l0 : List Int) (l1 : List Int), l0.length ≤ maxLen → l0.length * 8 ≤ 140737488351232 → (∀ x ∈ l0, (Lit.int .u64 x).wf = true) → l1.length ≤ maxLen → l1.length * 8 ≤ 140737488351232 → (∀ x ∈ l1, (Lit.int .i64 x).wf = true) → ∃ k, serinettelaw01_BitsBack.f k l0 l1 = some true
theorem serinettelaw01_BitsBack.walk (P : serinettelaw01_BitsBack.Pure) (a0 : Option Addr) (len0 cap0 : Nat) (z0 : List Int) (a1 : Option Addr) (len1 cap1 : Nat) (z1 : List Int) (w : World) (w0 : (a0 = none ∧ len0 = 0 ∧ cap0 = 0 ∧ z0 = []) ∨ ∃ x, a0 = some x ∧ len0 ≤ cap0 ∧ cap0 ≤ maxLen ∧ z0.length = cap0 ∧ (∀ i, i < z0.length → w.cell? (x.add i) = some (.int .u64 (z0.getD i 0))) ∧ ∀ n ∈ z0, (Lit.int .u64 n).wf = true) (y0 : len0 * 8 ≤ 140737488351232) (w1 : (a1 = none ∧ len1 = 0 ∧ cap1 = 0 ∧ z1 = []) ∨ ∃ x, a1 = some x ∧ len1 ≤ cap1 ∧ cap1 ≤ maxLen ∧ z1.length = cap1 ∧ (∀ i, i < z1.length → w.cell? (x.add i) = some (.int .i64 (z1.getD i 0))) ∧ ∀ n ∈ z1, (Lit.int .i64 n).wf = true) (y1 : len1 * 8 ≤ 140737488351232) :
    Calls Try.prog 7 #[.slice a0 len0 cap0, .slice a1 len1 cap1] w fun e w' => e = .returned (.bool true) ∧ Below w.heap.size w w' := by
  obtain ⟨l0, rfl, hr0, hm0, hw0, hc0⟩ := ReadsInt.ofRowC w0
  obtain ⟨l1, rfl, hr1, hm1, hw1, hc1⟩ := ReadsInt.ofRowC w1
  obtain ⟨k, h⟩ := P l0 l1 hm0 y0 hw0 hm1 y1 hw1
  refine (serinettelaw01_BitsBack.calls k _ _ l0 _ _ l1 true w (Kd.C_of_reads (d := (0 : Int)) (h1 := fun _ => rfl) hr0) hc0 (Kd.C_of_reads (d := (0 : Int)) (h1 := fun _ => rfl) hr1) hc1 h).mono ?_
  rintro e w' ⟨rfl, hd⟩
  exact ⟨rfl, hd⟩

end Go.Proofs.Ytcdnabonljmegaa.PA
