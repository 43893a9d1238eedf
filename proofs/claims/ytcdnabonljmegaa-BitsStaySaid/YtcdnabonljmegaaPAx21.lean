/- Each Go function named below comes to what the plain Lean function of its name answers, wherever that answers (rounds enough, no panic, no row too long); texts by a program of this session by way of the kit's print.py, what that does not take by hand. Condition: what is read lies in memory as each theorem says. -/
import Derived.Test.YtcdnabonljmegaaPAx0
import Derived.Test.YtcdnabonljmegaaPAx8
import Derived.Test.YtcdnabonljmegaaPAx15
import Derived.Test.YtcdnabonljmegaaPAx16
import Derived.Test.YtcdnabonljmegaaPAx17
import Derived.Test.YtcdnabonljmegaaPAx19
import Derived.Test.YtcdnabonljmegaaPAx20
namespace Go.Proofs.Ytcdnabonljmegaa.PA
open Go.RowKit Go.Proofs.YtcdnabonljmegaaW.PrintWords Go.Proofs.YtcdnabonljmegaaW.PrintLast Go.Proofs.YtcdnabonljmegaaW.PrintMore
attribute [local go_sem] max2_int min2_int max_two min_two max_three min_three max_four min_four   -- for this text's walks alone
set_option linter.unusedVariables false
set_option linter.unusedSimpArgs false

/-! ### serinettelaw01_BitsStay: function 5 -/
mutual
def serinettelaw01_BitsStay.j0 : Nat → List Int → Int → List Int → Bool → Bool → Option (Bool)
  | 0, _, _, _, _, _ => none
  | k + 1, x0, x1, x2, x7, x21 => if x21 = true then (some x7) else ((bits_Open.f x0).bind fun bt258 => ((bits_Reader_Take.f k bt258.1 bt258.2.1 bt258.2.2 x1).bind fun bt262 => (serinettelaw01_BitsStay.l0 k x0 x2 x7 0 bt258.1 bt262.2.1 bt262.2.2)))
def serinettelaw01_BitsStay.l0 : Nat → List Int → List Int → Bool → Int → List Int → Int → Int → Option (Bool)
  | 0, _, _, _, _, _, _, _ => none
  | k + 1, x0, x2, x7, x9, x262000, x262001, x262002 => if x9 < (x2.length : Int) then ((bits_Reader_At.f x262000 x262001 x262002).bind fun bt265 => ((bits_Reader_Fail.f x262000 bt265.2.1 bt265.2.2).bind fun bt268 => (if 0 ≤ x9 then ((bits_Reader_Take.f k x262000 bt268.2.1 bt268.2.2 (rd x2 x9)).bind fun bt272 => (if bt268.1 = 0 then (serinettelaw01_BitsStay.j2 k x0 x2 x7 x9 bt265.1 false x262000 bt272.2.1 bt272.2.2) else (if bt272.1 = 0 then ((bits_Reader_At.f x262000 bt272.2.1 bt272.2.2).bind fun bt275 => (if bt275.1 = bt265.1 then ((bits_Reader_Fail.f x262000 bt275.2.1 bt275.2.2).bind fun bt278 => (serinettelaw01_BitsStay.j2 k x0 x2 x7 x9 bt265.1 (bt278.1 != bt268.1) x262000 bt278.2.1 bt278.2.2)) else (serinettelaw01_BitsStay.j2 k x0 x2 x7 x9 bt265.1 true x262000 bt275.2.1 bt275.2.2))) else (serinettelaw01_BitsStay.j2 k x0 x2 x7 x9 bt265.1 true x262000 bt272.2.1 bt272.2.2)))) else (none)))) else (some x7)
def serinettelaw01_BitsStay.j2 : Nat → List Int → List Int → Bool → Int → Int → Bool → List Int → Int → Int → Option (Bool)
  | 0, _, _, _, _, _, _, _, _, _ => none
  | k + 1, x0, x2, x7, x9, x10, x63, x262000, x262001, x262002 => if x63 = true then (some false) else ((bits_Reader_At.f x262000 x262001 x262002).bind fun bt281 => ((bits_Reader_Left.f x262000 bt281.2.1 bt281.2.2).bind fun bt284 => (if (wrap64 (bt281.1 + bt284.1)) = (wrap64 (8 * (x0.length : Int))) then ((bits_Reader_At.f x262000 bt284.2.1 bt284.2.2).bind fun bt287 => (if bt287.1 < x10 then (some false) else ((bits_Reader_Fail.f x262000 bt287.2.1 bt287.2.2).bind fun bt290 => (if bt290.1 = 0 then (serinettelaw01_BitsStay.l0 k x0 x2 x7 (wrap64 (x9 + 1)) x262000 bt290.2.1 bt290.2.2) else ((bits_Reader_At.f x262000 bt290.2.1 bt290.2.2).bind fun bt293 => (if bt293.1 = x10 then (serinettelaw01_BitsStay.l0 k x0 x2 x7 (wrap64 (x9 + 1)) x262000 bt293.2.1 bt293.2.2) else (some false))))))) else (some false))))
end
def serinettelaw01_BitsStay.f (k : Nat) (l0 : List Int) (a1 : Int) (l2 : List Int) : Option (Bool) := (serinettelaw01_awake.f k).bind fun t257 => (if (l0.length : Int) > 200 then (serinettelaw01_BitsStay.j0 k l0 a1 l2 t257 true) else (serinettelaw01_BitsStay.j0 k l0 a1 l2 t257 (decide ((l2.length : Int) > 60))))
theorem serinettelaw01_BitsStay.mono_l : ∀ k, (∀ y0 y1 y2 y3 y4, LeO (serinettelaw01_BitsStay.j0 k y0 y1 y2 y3 y4) (serinettelaw01_BitsStay.j0 (k + 1) y0 y1 y2 y3 y4)) ∧ (∀ y0 y1 y2 y3 y4 y5 y6, LeO (serinettelaw01_BitsStay.l0 k y0 y1 y2 y3 y4 y5 y6) (serinettelaw01_BitsStay.l0 (k + 1) y0 y1 y2 y3 y4 y5 y6)) ∧ (∀ y0 y1 y2 y3 y4 y5 y6 y7 y8, LeO (serinettelaw01_BitsStay.j2 k y0 y1 y2 y3 y4 y5 y6 y7 y8) (serinettelaw01_BitsStay.j2 (k + 1) y0 y1 y2 y3 y4 y5 y6 y7 y8))
  | 0 => ⟨fun _ _ _ _ _ r h => by simp [serinettelaw01_BitsStay.j0] at h, fun _ _ _ _ _ _ _ r h => by simp [serinettelaw01_BitsStay.l0] at h, fun _ _ _ _ _ _ _ _ _ r h => by simp [serinettelaw01_BitsStay.j2] at h⟩
  | k + 1 => by
    obtain ⟨ih0, ih1, ih2⟩ := serinettelaw01_BitsStay.mono_l k
    refine ⟨?_, ?_, ?_⟩
    · intro y0 y1 y2 y3 y4
      unfold serinettelaw01_BitsStay.j0
      repeat' first
      | (with_reducible exact ih0 _ _ _ _ _)
      | (with_reducible exact ih1 _ _ _ _ _ _ _)
      | (with_reducible exact ih2 _ _ _ _ _ _ _ _ _)
      | (with_reducible exact bits_Reader_Take.mono _ _ _ _ _)
      | (with_reducible exact serinettelaw01_awake.mono _)
      | (with_reducible exact LeO.refl _)
      | (with_reducible exact LeO.none _)
      | (with_reducible refine LeO.ite ?_ ?_)
      | (with_reducible refine LeO.bind ?_ (fun _ => ?_))
      | exact ih0 _ _ _ _ _
      | exact ih1 _ _ _ _ _ _ _
      | exact ih2 _ _ _ _ _ _ _ _ _
      | exact bits_Reader_Take.mono _ _ _ _ _
      | exact serinettelaw01_awake.mono _
      | exact LeO.none _
      | refine LeO.ite ?_ ?_
      | refine LeO.bind ?_ (fun _ => ?_)
    · intro y0 y1 y2 y3 y4 y5 y6
      unfold serinettelaw01_BitsStay.l0
      repeat' first
      | (with_reducible exact ih0 _ _ _ _ _)
      | (with_reducible exact ih1 _ _ _ _ _ _ _)
      | (with_reducible exact ih2 _ _ _ _ _ _ _ _ _)
      | (with_reducible exact bits_Reader_Take.mono _ _ _ _ _)
      | (with_reducible exact serinettelaw01_awake.mono _)
      | (with_reducible exact LeO.refl _)
      | (with_reducible exact LeO.none _)
      | (with_reducible refine LeO.ite ?_ ?_)
      | (with_reducible refine LeO.bind ?_ (fun _ => ?_))
      | exact ih0 _ _ _ _ _
      | exact ih1 _ _ _ _ _ _ _
      | exact ih2 _ _ _ _ _ _ _ _ _
      | exact bits_Reader_Take.mono _ _ _ _ _
      | exact serinettelaw01_awake.mono _
      | exact LeO.none _
      | refine LeO.ite ?_ ?_
      | refine LeO.bind ?_ (fun _ => ?_)
    · intro y0 y1 y2 y3 y4 y5 y6 y7 y8
      unfold serinettelaw01_BitsStay.j2
      repeat' first
      | (with_reducible exact ih0 _ _ _ _ _)
      | (with_reducible exact ih1 _ _ _ _ _ _ _)
      | (with_reducible exact ih2 _ _ _ _ _ _ _ _ _)
      | (with_reducible exact bits_Reader_Take.mono _ _ _ _ _)
      | (with_reducible exact serinettelaw01_awake.mono _)
      | (with_reducible exact LeO.refl _)
      | (with_reducible exact LeO.none _)
      | (with_reducible refine LeO.ite ?_ ?_)
      | (with_reducible refine LeO.bind ?_ (fun _ => ?_))
      | exact ih0 _ _ _ _ _
      | exact ih1 _ _ _ _ _ _ _
      | exact ih2 _ _ _ _ _ _ _ _ _
      | exact bits_Reader_Take.mono _ _ _ _ _
      | exact serinettelaw01_awake.mono _
      | exact LeO.none _
      | refine LeO.ite ?_ ?_
      | refine LeO.bind ?_ (fun _ => ?_)
theorem serinettelaw01_BitsStay.mono : ∀ a0 a1 a2 k, LeO (serinettelaw01_BitsStay.f k a0 a1 a2) (serinettelaw01_BitsStay.f (k + 1) a0 a1 a2) := by
  intro a0 a1 a2 k
  obtain ⟨ih0, ih1, ih2⟩ := serinettelaw01_BitsStay.mono_l k
  unfold serinettelaw01_BitsStay.f
  repeat' first
      | (with_reducible exact ih0 _ _ _ _ _)
      | (with_reducible exact ih1 _ _ _ _ _ _ _)
      | (with_reducible exact ih2 _ _ _ _ _ _ _ _ _)
      | (with_reducible exact bits_Reader_Take.mono _ _ _ _ _)
      | (with_reducible exact serinettelaw01_awake.mono _)
      | (with_reducible exact LeO.refl _)
      | (with_reducible exact LeO.none _)
      | (with_reducible refine LeO.ite ?_ ?_)
      | (with_reducible refine LeO.bind ?_ (fun _ => ?_))
      | exact ih0 _ _ _ _ _
      | exact ih1 _ _ _ _ _ _ _
      | exact ih2 _ _ _ _ _ _ _ _ _
      | exact bits_Reader_Take.mono _ _ _ _ _
      | exact serinettelaw01_awake.mono _
      | exact LeO.none _
      | refine LeO.ite ?_ ?_
      | refine LeO.bind ?_ (fun _ => ?_)
set_option maxHeartbeats 8000000 in
set_option maxRecDepth 100000 in
theorem serinettelaw01_BitsStay.calls (k : Nat) (A0 : Option Addr) (c0 : Nat) (l0 : List Int) (a1 : Int) (A2 : Option Addr) (c2 : Nat) (l2 : List Int) (r : Bool) (w : World) (hr0 : Kd.C (Kd.int .u8) w A0 l0.length l0) (hc0 : l0.length ≤ c0) (hr2 : Kd.C (Kd.int .i64) w A2 l2.length l2) (hc2 : l2.length ≤ c2) (h : serinettelaw01_BitsStay.f k l0 a1 l2 = some r) :
    Calls Try.prog 5 #[.slice A0 l0.length c0, .int .i64 a1, .slice A2 l2.length c2] w fun e w' => e = .returned (.bool r) ∧ Below w.heap.size w w' := by
  have HR0 := Aside0.mk hr0
  have HC0 := Aside0.mk hc0
  clear hr0 hc0
  have HR2 := Aside0.mk hr2
  have HC2 := Aside0.mk hc2
  clear hr2 hc2
  have HB := Aside0.mk (Below.refl w.heap.size w)
  have H : ((serinettelaw01_awake.f k).bind fun t257 => (if (l0.length : Int) > 200 then (serinettelaw01_BitsStay.j0 k l0 a1 l2 t257 true) else (serinettelaw01_BitsStay.j0 k l0 a1 l2 t257 (decide ((l2.length : Int) > 60))))) = some r := h
  clear h
  replace H := Option.bind_eq_some_iff.mp H
  obtain ⟨t257, A40, H⟩ := H
  replace H : (if (l0.length : Int) > 200 then (serinettelaw01_BitsStay.j0 k l0 a1 l2 t257 true) else (serinettelaw01_BitsStay.j0 k l0 a1 l2 t257 (decide ((l2.length : Int) > 60)))) = some r := H
  have A4 := Aside0.mk A40
  clear A40
  have HC5 := Aside0.mk H
  clear H
  go_enter Try.func5, Try.ntmps5
  go_upto_region 2 with (first | ((with_reducible refine gate_callee (f := 9) rfl ?_); refine goesL_ (some 13) rfl rfl Try.func9 (by kernel_rfl) rfl #[] rfl (by (try simp only [List.map_toArray, List.map_cons, List.map_nil]); first | done | rfl | (simp only [List.length_drop, List.length_take]; rfl)) ?_; (with_reducible refine (serinettelaw01_awake.calls k  t257 _ A4.out).mono ?_); rintro e w6 ⟨rfl, hb⟩; refine ⟨_, rfl, ?_⟩; have n0_ := Aside0.mk (below_step (by repeat (first | (with_reducible first | exact HB.out | apply below_alloc | apply pw_below_drewN | apply below_drew1) | exact HB.out)) hb); clear HB; have HB := n0_; clear n0_; (try clear hb); (try clear hb2); (try clear hk); (try clear hi)))
  (try simp only [Act.put, List.setIfInBounds_toArray, List.set_cons_zero, List.set_cons_succ])
  go_cut [21] (fun v21 wc => ∃ (kq : Nat) (x21_4 : Bool), v21 = .bool x21_4 ∧ Aside0 (serinettelaw01_BitsStay.j0 kq l0 a1 l2 t257 x21_4 = some r) ∧ Aside0 (kq ≤ k) ∧ Aside0 (Below w.heap.size w wc))
  case first =>
    have H := HC5.out
    clear HC5
    by_cases c7 : (l0.length : Int) > 200
    · rw [if_pos c7] at H
      have c7b0 : decide (200 < (l0.length : Int)) = true := decide_eq_true c7
      have c7b1 : decide (200 < l0.length) = true := decide_eq_true (by omega)
      clear c7
      (first | rw [c7b0] | (simp only [i64_w, i32_w]; rw [c7b0]) | skip)
      have H' := Aside0.mk H
      clear H
      go_wp2
      go_meet
      case rel => exact ⟨_, (true), (by first | rfl | (simp; done) | (simp only [i64_w, i32_w]; done) | (simp [*]; done) | (simp only [i64_w, i32_w]; first | rfl | (simp; done) | (simp [*]; done))), H', ⟨by first | omega | exact Nat.le_refl _⟩, ⟨by repeat (first | (with_reducible first | exact HB.out | apply below_alloc | apply pw_below_drewN | apply below_drew1) | exact HB.out)⟩⟩
    · rw [if_neg c7] at H
      have c7b0 : decide (200 < (l0.length : Int)) = false := decide_eq_false c7
      have c7b1 : decide (200 < l0.length) = false := decide_eq_false (by omega)
      clear c7
      (first | rw [c7b0] | (simp only [i64_w, i32_w]; rw [c7b0]) | skip)
      have H' := Aside0.mk H
      clear H
      go_wp2
      go_meet
      case rel => exact ⟨_, (decide ((l2.length : Int) > 60)), (by first | rfl | (simp; done) | (simp only [i64_w, i32_w]; done) | (simp [*]; done) | (simp only [i64_w, i32_w]; first | rfl | (simp; done) | (simp [*]; done))), H', ⟨by first | omega | exact Nat.le_refl _⟩, ⟨by repeat (first | (with_reducible first | exact HB.out | apply below_alloc | apply pw_below_drewN | apply below_drew1) | exact HB.out)⟩⟩
  case rest =>
    clear HC5
    try clear c2
    try clear p2
    try clear c5
    try clear c7
    try clear c7b0
    try clear c7b1
    obtain ⟨kq, x21_4, rfl, HA, HJ4, HB⟩ := hcut
    cases kq with
    | zero => exact absurd HA.out (by simp [serinettelaw01_BitsStay.j0])
    | succ kj4 =>
      have H := HA.out
      clear HA
      simp only [serinettelaw01_BitsStay.j0] at H
      by_cases c8 : x21_4 = true
      · subst c8
        have H1 : (some t257) = some r := by rw [if_pos rfl] at H; exact H
        clear H
        have H := H1
        clear H1
        obtain rfl := Option.some.inj H
        go_wp2
        go_ret
        exact ⟨by first | rfl | (simp [errW_none, errW_some] <;> rfl) | (simp [*, errW_none, errW_some] <;> rfl), by repeat (first | (with_reducible first | exact HB.out | apply below_alloc | apply pw_below_drewN | apply below_drew1) | exact HB.out)⟩
      · replace c8 := Bool.eq_false_iff.mpr c8
        subst c8
        have H1 : ((bits_Open.f l0).bind fun bt258 => ((bits_Reader_Take.f kj4 bt258.1 bt258.2.1 bt258.2.2 a1).bind fun bt262 => (serinettelaw01_BitsStay.l0 kj4 l0 l2 t257 0 bt258.1 bt262.2.1 bt262.2.2))) = some r := by rw [if_neg (show ¬ (false = true) by decide)] at H; exact H
        clear H
        have H := H1
        clear H1
        replace H := Option.bind_eq_some_iff.mp H
        obtain ⟨⟨t258, t259, t260⟩, A90, H⟩ := H
        replace H : ((bits_Reader_Take.f kj4 t258 t259 t260 a1).bind fun bt262 => (serinettelaw01_BitsStay.l0 kj4 l0 l2 t257 0 t258 bt262.2.1 bt262.2.2)) = some r := H
        have A9 := Aside0.mk A90
        clear A90
        replace H := Option.bind_eq_some_iff.mp H
        obtain ⟨⟨t262, t263, t264⟩, A100, H⟩ := H
        replace H : (serinettelaw01_BitsStay.l0 kj4 l0 l2 t257 0 t258 t263 t264) = some r := H
        have A10 := Aside0.mk A100
        clear A100
        have H' := Aside0.mk H
        clear H
        go_wp2_with (first | ((with_reducible refine gate_callee (f := 18) rfl ?_); refine goesL_ (some 24) rfl rfl Try.func18 (by kernel_rfl) rfl #[.slice A0 l0.length c0] rfl (by (try simp only [List.map_toArray, List.map_cons, List.map_nil]); first | done | rfl | (simp only [List.length_drop, List.length_take]; rfl)) ?_; (with_reducible refine (bits_Open.calls _ _ l0 t258 t259 t260 w _ ?side1 ?side2 ?side3 A9.out).mono ?_); (case side1 => repeat (first | (with_reducible first | exact HB.out | apply below_alloc | apply pw_below_drewN | apply below_drew1) | exact HB.out)); (case side2 => repeat (first | exact (Kd.C_below HR0.out HB.out) | (with_reducible refine Kd.C_alloc ?_ _) | (with_reducible refine Kd.C_drewN ?_ _) | (with_reducible refine Kd.C_drew ?_))); (case side3 => exact HC0.out); rintro e w11 ⟨g261, rfl, hi, hb, hb2⟩; refine ⟨_, rfl, ?_⟩; have n0_ := Aside0.mk (hb); have n1_ := Aside0.mk (hi); clear HB; have HB := n0_; have HI261 := n1_; clear n0_ n1_; (try clear hb); (try clear hb2); (try clear hk); (try clear hi)) | ((with_reducible refine gate_callee (f := 19) rfl ?_); refine goesL_ (some 29) rfl rfl Try.func19 (by kernel_rfl) rfl #[.pointer (some ⟨g261, 0, none⟩), .int .i64 a1] rfl (by (try simp only [List.map_toArray, List.map_cons, List.map_nil]); first | done | rfl | (simp only [List.length_drop, List.length_take]; rfl)) ?_; (with_reducible refine (bits_Reader_Take.calls kj4 g261 t258 t259 t260 a1 t262 t263 t264 w _ ?side1 ?side2 A10.out).mono ?_); (case side1 => repeat (first | (with_reducible first | exact HI261.out | apply IsS57.alloc | apply IsS57.drewN | apply IsS57.drew | apply IsS57.set_1 | apply IsS57.set_2) | exact HI261.out)); (case side2 => repeat (first | (with_reducible first | exact HB.out | apply below_alloc | apply pw_below_drewN | apply below_drew1 | refine below_set ?_ (IsS57.ge HI261.out)) | exact HB.out)); rintro e w12 ⟨rfl, hi, hb, hk⟩; refine ⟨_, rfl, ?_⟩; have n0_ := Aside0.mk (hb); have n1_ := Aside0.mk (hi); clear HB; clear HI261; have HB := n0_; have HI261 := n1_; clear n0_ n1_; (try clear hb); (try clear hb2); (try clear hk); (try clear hi)))
        go_loopg [9] kj4 (fun kq v9 w' => ∃ (x9_2 : Int) (x262001_2 : Int) (x262002_2 : Int), v9 = .int .i64 x9_2 ∧ Aside0 (serinettelaw01_BitsStay.l0 kq l0 l2 t257 x9_2 t258 x262001_2 x262002_2 = some r) ∧ Aside0 (kq ≤ kj4) ∧ Aside0 (IsS57 w w' g261 t258 x262001_2 x262002_2) ∧ Aside0 (Below w.heap.size w w'))
        case atStart => exact ⟨(0), (t263), (t264), (by first | rfl | (simp; done) | (simp only [i64_w, i32_w]; done) | (simp [*]; done) | (simp only [i64_w, i32_w]; first | rfl | (simp; done) | (simp [*]; done))), H', ⟨Nat.le_refl _⟩, ⟨by repeat (first | (with_reducible first | exact HI261.out | apply IsS57.alloc | apply IsS57.drewN | apply IsS57.drew | apply IsS57.set_1 | apply IsS57.set_2) | exact HI261.out)⟩, ⟨by repeat (first | (with_reducible first | exact HB.out | apply below_alloc | apply pw_below_drewN | apply below_drew1 | refine below_set ?_ (IsS57.ge HI261.out)) | exact HB.out)⟩⟩
        case round =>
          clear H'
          try clear c1
          try clear c2
          try clear p2
          try clear c5
          try clear c7
          try clear c7b0
          try clear c7b1
          try clear c8
          try clear c9
          try clear p2
          obtain ⟨x9_2, x262001_2, x262002_2, rfl, HA, HK2, HI261, HB⟩ := hrel
          cases gk with
          | zero => exact absurd HA.out (by simp [serinettelaw01_BitsStay.l0])
          | succ k2 =>
            have H := HA.out
            clear HA
            simp only [serinettelaw01_BitsStay.l0] at H
            by_cases c13 : x9_2 < (l2.length : Int)
            · rw [if_pos c13] at H
              have c13b0 : decide (x9_2 < (l2.length : Int)) = true := decide_eq_true c13
              clear c13
              replace H := Option.bind_eq_some_iff.mp H
              obtain ⟨⟨t265, t266, t267⟩, A140, H⟩ := H
              replace H : ((bits_Reader_Fail.f t258 t266 t267).bind fun bt268 => (if 0 ≤ x9_2 then ((bits_Reader_Take.f k2 t258 bt268.2.1 bt268.2.2 (rd l2 x9_2)).bind fun bt272 => (if bt268.1 = 0 then (serinettelaw01_BitsStay.j2 k2 l0 l2 t257 x9_2 t265 false t258 bt272.2.1 bt272.2.2) else (if bt272.1 = 0 then ((bits_Reader_At.f t258 bt272.2.1 bt272.2.2).bind fun bt275 => (if bt275.1 = t265 then ((bits_Reader_Fail.f t258 bt275.2.1 bt275.2.2).bind fun bt278 => (serinettelaw01_BitsStay.j2 k2 l0 l2 t257 x9_2 t265 (bt278.1 != bt268.1) t258 bt278.2.1 bt278.2.2)) else (serinettelaw01_BitsStay.j2 k2 l0 l2 t257 x9_2 t265 true t258 bt275.2.1 bt275.2.2))) else (serinettelaw01_BitsStay.j2 k2 l0 l2 t257 x9_2 t265 true t258 bt272.2.1 bt272.2.2)))) else (none))) = some r := H
              have A14 := Aside0.mk A140
              clear A140
              replace H := Option.bind_eq_some_iff.mp H
              obtain ⟨⟨t268, t269, t270⟩, A150, H⟩ := H
              replace H : (if 0 ≤ x9_2 then ((bits_Reader_Take.f k2 t258 t269 t270 (rd l2 x9_2)).bind fun bt272 => (if t268 = 0 then (serinettelaw01_BitsStay.j2 k2 l0 l2 t257 x9_2 t265 false t258 bt272.2.1 bt272.2.2) else (if bt272.1 = 0 then ((bits_Reader_At.f t258 bt272.2.1 bt272.2.2).bind fun bt275 => (if bt275.1 = t265 then ((bits_Reader_Fail.f t258 bt275.2.1 bt275.2.2).bind fun bt278 => (serinettelaw01_BitsStay.j2 k2 l0 l2 t257 x9_2 t265 (bt278.1 != t268) t258 bt278.2.1 bt278.2.2)) else (serinettelaw01_BitsStay.j2 k2 l0 l2 t257 x9_2 t265 true t258 bt275.2.1 bt275.2.2))) else (serinettelaw01_BitsStay.j2 k2 l0 l2 t257 x9_2 t265 true t258 bt272.2.1 bt272.2.2)))) else (none)) = some r := H
              have A15 := Aside0.mk A150
              clear A150
              by_cases c16 : 0 ≤ x9_2
              · rw [if_pos c16] at H
                have c16b0 : decide (0 ≤ x9_2) = true := decide_eq_true c16
                clear c16
                replace H := Option.bind_eq_some_iff.mp H
                obtain ⟨⟨t272, t273, t274⟩, A170, H⟩ := H
                replace H : (if t268 = 0 then (serinettelaw01_BitsStay.j2 k2 l0 l2 t257 x9_2 t265 false t258 t273 t274) else (if t272 = 0 then ((bits_Reader_At.f t258 t273 t274).bind fun bt275 => (if bt275.1 = t265 then ((bits_Reader_Fail.f t258 bt275.2.1 bt275.2.2).bind fun bt278 => (serinettelaw01_BitsStay.j2 k2 l0 l2 t257 x9_2 t265 (bt278.1 != t268) t258 bt278.2.1 bt278.2.2)) else (serinettelaw01_BitsStay.j2 k2 l0 l2 t257 x9_2 t265 true t258 bt275.2.1 bt275.2.2))) else (serinettelaw01_BitsStay.j2 k2 l0 l2 t257 x9_2 t265 true t258 t273 t274))) = some r := H
                have A17 := Aside0.mk A170
                clear A170
                have HC18 := Aside0.mk H
                clear H
                go_upto_region 14 with (first | ((with_reducible refine gate_callee (f := 20) rfl ?_); refine goesL_ (some 37) rfl rfl Try.func20 (by kernel_rfl) rfl #[.pointer (some ⟨g261, 0, none⟩)] rfl (by (try simp only [List.map_toArray, List.map_cons, List.map_nil]); first | done | rfl | (simp only [List.length_drop, List.length_take]; rfl)) ?_; (with_reducible refine (bits_Reader_At.calls g261 t258 x262001_2 x262002_2 t265 t266 t267 w _ ?side1 ?side2 A14.out).mono ?_); (case side1 => repeat (first | (with_reducible first | exact HI261.out | apply IsS57.alloc | apply IsS57.drewN | apply IsS57.drew | apply IsS57.set_1 | apply IsS57.set_2) | exact HI261.out)); (case side2 => repeat (first | (with_reducible first | exact HB.out | apply below_alloc | apply pw_below_drewN | apply below_drew1 | refine below_set ?_ (IsS57.ge HI261.out)) | exact HB.out)); rintro e w19 ⟨rfl, hi, hb, hk⟩; refine ⟨_, rfl, ?_⟩; have n0_ := Aside0.mk (hb); have n1_ := Aside0.mk (hi); clear HB; clear HI261; have HB := n0_; have HI261 := n1_; clear n0_ n1_; (try clear hb); (try clear hb2); (try clear hk); (try clear hi)) | ((with_reducible refine gate_callee (f := 21) rfl ?_); refine goesL_ (some 39) rfl rfl Try.func21 (by kernel_rfl) rfl #[.pointer (some ⟨g261, 0, none⟩)] rfl (by (try simp only [List.map_toArray, List.map_cons, List.map_nil]); first | done | rfl | (simp only [List.length_drop, List.length_take]; rfl)) ?_; (with_reducible refine (bits_Reader_Fail.calls g261 t258 t266 t267 t268 t269 t270 w _ ?side1 ?side2 A15.out).mono ?_); (case side1 => repeat (first | (with_reducible first | exact HI261.out | apply IsS57.alloc | apply IsS57.drewN | apply IsS57.drew | apply IsS57.set_1 | apply IsS57.set_2) | exact HI261.out)); (case side2 => repeat (first | (with_reducible first | exact HB.out | apply below_alloc | apply pw_below_drewN | apply below_drew1 | refine below_set ?_ (IsS57.ge HI261.out)) | exact HB.out)); rintro e w20 ⟨rfl, hi, hb, hk⟩; refine ⟨_, rfl, ?_⟩; have n0_ := Aside0.mk (hb); have n1_ := Aside0.mk (hi); clear HB; clear HI261; have HB := n0_; have HI261 := n1_; clear n0_ n1_; (try clear hb); (try clear hb2); (try clear hk); (try clear hi); have p271 : 0 ≤ (x9_2 : Int) := of_decide_eq_true (by first | (with_reducible assumption) | assumption); have q271 : x9_2 < (l2.length : Int) := of_decide_eq_true (by first | (with_reducible assumption) | assumption); obtain ⟨ad271, e271, hx271_0⟩ := Kd.at_int HR2.out x9_2 p271 q271; cases e271; replace hx271_0 := (HB.out.cell (World.block_lt_of_cell? w _ hx271_0)).trans hx271_0; replace p271 := eq_true p271; replace q271 := eq_true q271) | ((with_reducible refine gate_callee (f := 19) rfl ?_); refine goesL_ (some 45) rfl rfl Try.func19 (by kernel_rfl) rfl #[.pointer (some ⟨g261, 0, none⟩), .int .i64 (rd l2 x9_2)] rfl (by (try simp only [List.map_toArray, List.map_cons, List.map_nil]); first | done | rfl | (simp only [List.length_drop, List.length_take]; rfl)) ?_; (with_reducible refine (bits_Reader_Take.calls k2 g261 t258 t269 t270 (rd l2 x9_2) t272 t273 t274 w _ ?side1 ?side2 A17.out).mono ?_); (case side1 => repeat (first | (with_reducible first | exact HI261.out | apply IsS57.alloc | apply IsS57.drewN | apply IsS57.drew | apply IsS57.set_1 | apply IsS57.set_2) | exact HI261.out)); (case side2 => repeat (first | (with_reducible first | exact HB.out | apply below_alloc | apply pw_below_drewN | apply below_drew1 | refine below_set ?_ (IsS57.ge HI261.out)) | exact HB.out)); rintro e w21 ⟨rfl, hi, hb, hk⟩; refine ⟨_, rfl, ?_⟩; have n0_ := Aside0.mk (hb); have n1_ := Aside0.mk (hi); clear HB; clear HI261; have HB := n0_; have HI261 := n1_; clear n0_ n1_; (try clear hb); (try clear hb2); (try clear hk); (try clear hi)))
                (try simp only [Act.put, List.setIfInBounds_toArray, List.set_cons_zero, List.set_cons_succ])
                go_cut [63] (fun v63 wc => ∃ (kq : Nat) (x63_17 : Bool) (x262001_17 : Int) (x262002_17 : Int), v63 = .bool x63_17 ∧ Aside0 (serinettelaw01_BitsStay.j2 kq l0 l2 t257 x9_2 t265 x63_17 t258 x262001_17 x262002_17 = some r) ∧ Aside0 (kq ≤ k2) ∧ Aside0 (IsS57 w wc g261 t258 x262001_17 x262002_17) ∧ Aside0 (Below w.heap.size w wc))
                case first =>
                  have H := HC18.out
                  clear HC18
                  by_cases c22 : t268 = 0
                  · rw [if_pos c22] at H
                    have c22b0 : (t268 == 0) = true := beq_iff_eq.mpr c22
                    have c22b1 : (t268 != 0) = false := bne_eq_false_iff_eq.mpr c22
                    clear c22
                    (first | rw [c22b0] | (simp only [i64_w, i32_w]; rw [c22b0]) | skip)
                    have H' := Aside0.mk H
                    clear H
                    go_wp2
                    go_meet
                    case rel => exact ⟨_, (false), (t273), (t274), (by first | rfl | (simp; done) | (simp only [i64_w, i32_w]; done) | (simp [*]; done) | (simp only [i64_w, i32_w]; first | rfl | (simp; done) | (simp [*]; done))), H', ⟨by have := HJ4.out; have := HK2.out; first | omega | exact Nat.le_refl _⟩, ⟨by repeat (first | (with_reducible first | exact HI261.out | apply IsS57.alloc | apply IsS57.drewN | apply IsS57.drew | apply IsS57.set_1 | apply IsS57.set_2) | exact HI261.out)⟩, ⟨by repeat (first | (with_reducible first | exact HB.out | apply below_alloc | apply pw_below_drewN | apply below_drew1 | refine below_set ?_ (IsS57.ge HI261.out)) | exact HB.out)⟩⟩
                  · rw [if_neg c22] at H
                    have c22b0 : (t268 == 0) = false := beq_eq_false_iff_ne.mpr c22
                    have c22b1 : (t268 != 0) = true := bne_iff_ne.mpr c22
                    (first | rw [c22b0] | (simp only [i64_w, i32_w]; rw [c22b0]) | skip)
                    by_cases c23 : t272 = 0
                    · rw [if_pos c23] at H
                      have c23b0 : (t272 == 0) = true := beq_iff_eq.mpr c23
                      have c23b1 : (t272 != 0) = false := bne_eq_false_iff_eq.mpr c23
                      clear c23
                      replace H := Option.bind_eq_some_iff.mp H
                      obtain ⟨⟨t275, t276, t277⟩, A240, H⟩ := H
                      replace H : (if t275 = t265 then ((bits_Reader_Fail.f t258 t276 t277).bind fun bt278 => (serinettelaw01_BitsStay.j2 k2 l0 l2 t257 x9_2 t265 (bt278.1 != t268) t258 bt278.2.1 bt278.2.2)) else (serinettelaw01_BitsStay.j2 k2 l0 l2 t257 x9_2 t265 true t258 t276 t277)) = some r := H
                      have A24 := Aside0.mk A240
                      clear A240
                      by_cases c25 : t275 = t265
                      · rw [if_pos c25] at H
                        have c25b0 : (t275 == t265) = true := beq_iff_eq.mpr c25
                        have c25b1 : (t275 != t265) = false := bne_eq_false_iff_eq.mpr c25
                        clear c25
                        replace H := Option.bind_eq_some_iff.mp H
                        obtain ⟨⟨t278, t279, t280⟩, A260, H⟩ := H
                        replace H : (serinettelaw01_BitsStay.j2 k2 l0 l2 t257 x9_2 t265 (t278 != t268) t258 t279 t280) = some r := H
                        have A26 := Aside0.mk A260
                        clear A260
                        have H' := Aside0.mk H
                        clear H
                        go_wp2_with (first | (go_at_call 20; (with_reducible refine (bits_Reader_At.calls g261 t258 t273 t274 t275 t276 t277 w _ ?side1 ?side2 A24.out).mono ?_); (case side1 => repeat (first | (with_reducible first | exact HI261.out | apply IsS57.alloc | apply IsS57.drewN | apply IsS57.drew | apply IsS57.set_1 | apply IsS57.set_2) | exact HI261.out)); (case side2 => repeat (first | (with_reducible first | exact HB.out | apply below_alloc | apply pw_below_drewN | apply below_drew1 | refine below_set ?_ (IsS57.ge HI261.out)) | exact HB.out)); rintro e w27 ⟨rfl, hi, hb, hk⟩; have n0_ := Aside0.mk (hb); have n1_ := Aside0.mk (hi); clear HB; clear HI261; have HB := n0_; have HI261 := n1_; clear n0_ n1_; (try clear hb); (try clear hb2); (try clear hk); (try clear hi)) | (go_at_call 21; (with_reducible refine (bits_Reader_Fail.calls g261 t258 t276 t277 t278 t279 t280 w _ ?side1 ?side2 A26.out).mono ?_); (case side1 => repeat (first | (with_reducible first | exact HI261.out | apply IsS57.alloc | apply IsS57.drewN | apply IsS57.drew | apply IsS57.set_1 | apply IsS57.set_2) | exact HI261.out)); (case side2 => repeat (first | (with_reducible first | exact HB.out | apply below_alloc | apply pw_below_drewN | apply below_drew1 | refine below_set ?_ (IsS57.ge HI261.out)) | exact HB.out)); rintro e w28 ⟨rfl, hi, hb, hk⟩; have n0_ := Aside0.mk (hb); have n1_ := Aside0.mk (hi); clear HB; clear HI261; have HB := n0_; have HI261 := n1_; clear n0_ n1_; (try clear hb); (try clear hb2); (try clear hk); (try clear hi)))
                        go_meet
                        case rel => exact ⟨_, ((t278 != t268)), (t279), (t280), (by first | rfl | (simp; done) | (simp only [i64_w, i32_w]; done) | (simp [*]; done) | (simp only [i64_w, i32_w]; first | rfl | (simp; done) | (simp [*]; done))), H', ⟨by have := HJ4.out; have := HK2.out; first | omega | exact Nat.le_refl _⟩, ⟨by repeat (first | (with_reducible first | exact HI261.out | apply IsS57.alloc | apply IsS57.drewN | apply IsS57.drew | apply IsS57.set_1 | apply IsS57.set_2) | exact HI261.out)⟩, ⟨by repeat (first | (with_reducible first | exact HB.out | apply below_alloc | apply pw_below_drewN | apply below_drew1 | refine below_set ?_ (IsS57.ge HI261.out)) | exact HB.out)⟩⟩
                      · rw [if_neg c25] at H
                        have c25b0 : (t275 == t265) = false := beq_eq_false_iff_ne.mpr c25
                        have c25b1 : (t275 != t265) = true := bne_iff_ne.mpr c25
                        have H' := Aside0.mk H
                        clear H
                        go_wp2_with (first | (go_at_call 20; (with_reducible refine (bits_Reader_At.calls g261 t258 t273 t274 t275 t276 t277 w _ ?side1 ?side2 A24.out).mono ?_); (case side1 => repeat (first | (with_reducible first | exact HI261.out | apply IsS57.alloc | apply IsS57.drewN | apply IsS57.drew | apply IsS57.set_1 | apply IsS57.set_2) | exact HI261.out)); (case side2 => repeat (first | (with_reducible first | exact HB.out | apply below_alloc | apply pw_below_drewN | apply below_drew1 | refine below_set ?_ (IsS57.ge HI261.out)) | exact HB.out)); rintro e w29 ⟨rfl, hi, hb, hk⟩; have n0_ := Aside0.mk (hb); have n1_ := Aside0.mk (hi); clear HB; clear HI261; have HB := n0_; have HI261 := n1_; clear n0_ n1_; (try clear hb); (try clear hb2); (try clear hk); (try clear hi)))
                        go_meet
                        case rel => exact ⟨_, (true), (t276), (t277), (by first | rfl | (simp; done) | (simp only [i64_w, i32_w]; done) | (simp [*]; done) | (simp only [i64_w, i32_w]; first | rfl | (simp; done) | (simp [*]; done))), H', ⟨by have := HJ4.out; have := HK2.out; first | omega | exact Nat.le_refl _⟩, ⟨by repeat (first | (with_reducible first | exact HI261.out | apply IsS57.alloc | apply IsS57.drewN | apply IsS57.drew | apply IsS57.set_1 | apply IsS57.set_2) | exact HI261.out)⟩, ⟨by repeat (first | (with_reducible first | exact HB.out | apply below_alloc | apply pw_below_drewN | apply below_drew1 | refine below_set ?_ (IsS57.ge HI261.out)) | exact HB.out)⟩⟩
                    · rw [if_neg c23] at H
                      have c23b0 : (t272 == 0) = false := beq_eq_false_iff_ne.mpr c23
                      have c23b1 : (t272 != 0) = true := bne_iff_ne.mpr c23
                      have H' := Aside0.mk H
                      clear H
                      go_wp2
                      go_meet
                      case rel => exact ⟨_, (true), (t273), (t274), (by first | rfl | (simp; done) | (simp only [i64_w, i32_w]; done) | (simp [*]; done) | (simp only [i64_w, i32_w]; first | rfl | (simp; done) | (simp [*]; done))), H', ⟨by have := HJ4.out; have := HK2.out; first | omega | exact Nat.le_refl _⟩, ⟨by repeat (first | (with_reducible first | exact HI261.out | apply IsS57.alloc | apply IsS57.drewN | apply IsS57.drew | apply IsS57.set_1 | apply IsS57.set_2) | exact HI261.out)⟩, ⟨by repeat (first | (with_reducible first | exact HB.out | apply below_alloc | apply pw_below_drewN | apply below_drew1 | refine below_set ?_ (IsS57.ge HI261.out)) | exact HB.out)⟩⟩
                case rest =>
                  clear HC18
                  try clear c1
                  try clear c2
                  try clear p2
                  try clear q2
                  try clear hx2
                  try clear c5
                  try clear c7
                  try clear c7b0
                  try clear c7b1
                  try clear c8
                  try clear c9
                  try clear c13
                  try clear c13b0
                  try clear c16
                  try clear c16b0
                  try clear c18
                  try clear c19
                  try clear c20
                  try clear c21
                  try clear c22
                  try clear c22b0
                  try clear c22b1
                  try clear c23
                  try clear c23b0
                  try clear c23b1
                  try clear c25
                  try clear c25b0
                  try clear c25b1
                  try clear p27
                  try clear q27
                  try clear hx27
                  try clear hx271_0
                  try clear p2
                  try clear p271
                  try clear q271
                  obtain ⟨kq, x63_17, x262001_17, x262002_17, rfl, HA, HJ17, HI261, HB⟩ := hcut
                  cases kq with
                  | zero => exact absurd HA.out (by simp [serinettelaw01_BitsStay.j2])
                  | succ kj17 =>
                    have H := HA.out
                    clear HA
                    simp only [serinettelaw01_BitsStay.j2] at H
                    by_cases c30 : x63_17 = true
                    · subst c30
                      have H1 : (some false) = some r := by rw [if_pos rfl] at H; exact H
                      clear H
                      have H := H1
                      clear H1
                      obtain rfl := Option.some.inj H
                      go_wp2
                      go_ret
                      exact ⟨by first | rfl | (simp [errW_none, errW_some] <;> rfl) | (simp [*, errW_none, errW_some] <;> rfl), by repeat (first | (with_reducible first | exact HB.out | apply below_alloc | apply pw_below_drewN | apply below_drew1 | refine below_set ?_ (IsS57.ge HI261.out)) | exact HB.out)⟩
                    · replace c30 := Bool.eq_false_iff.mpr c30
                      subst c30
                      have H1 : ((bits_Reader_At.f t258 x262001_17 x262002_17).bind fun bt281 => ((bits_Reader_Left.f t258 bt281.2.1 bt281.2.2).bind fun bt284 => (if (wrap64 (bt281.1 + bt284.1)) = (wrap64 (8 * (l0.length : Int))) then ((bits_Reader_At.f t258 bt284.2.1 bt284.2.2).bind fun bt287 => (if bt287.1 < t265 then (some false) else ((bits_Reader_Fail.f t258 bt287.2.1 bt287.2.2).bind fun bt290 => (if bt290.1 = 0 then (serinettelaw01_BitsStay.l0 kj17 l0 l2 t257 (wrap64 (x9_2 + 1)) t258 bt290.2.1 bt290.2.2) else ((bits_Reader_At.f t258 bt290.2.1 bt290.2.2).bind fun bt293 => (if bt293.1 = t265 then (serinettelaw01_BitsStay.l0 kj17 l0 l2 t257 (wrap64 (x9_2 + 1)) t258 bt293.2.1 bt293.2.2) else (some false))))))) else (some false)))) = some r := by rw [if_neg (show ¬ (false = true) by decide)] at H; exact H
                      clear H
                      have H := H1
                      clear H1
                      replace H := Option.bind_eq_some_iff.mp H
                      obtain ⟨⟨t281, t282, t283⟩, A310, H⟩ := H
                      replace H : ((bits_Reader_Left.f t258 t282 t283).bind fun bt284 => (if (wrap64 (t281 + bt284.1)) = (wrap64 (8 * (l0.length : Int))) then ((bits_Reader_At.f t258 bt284.2.1 bt284.2.2).bind fun bt287 => (if bt287.1 < t265 then (some false) else ((bits_Reader_Fail.f t258 bt287.2.1 bt287.2.2).bind fun bt290 => (if bt290.1 = 0 then (serinettelaw01_BitsStay.l0 kj17 l0 l2 t257 (wrap64 (x9_2 + 1)) t258 bt290.2.1 bt290.2.2) else ((bits_Reader_At.f t258 bt290.2.1 bt290.2.2).bind fun bt293 => (if bt293.1 = t265 then (serinettelaw01_BitsStay.l0 kj17 l0 l2 t257 (wrap64 (x9_2 + 1)) t258 bt293.2.1 bt293.2.2) else (some false))))))) else (some false))) = some r := H
                      have A31 := Aside0.mk A310
                      clear A310
                      replace H := Option.bind_eq_some_iff.mp H
                      obtain ⟨⟨t284, t285, t286⟩, A320, H⟩ := H
                      replace H : (if (wrap64 (t281 + t284)) = (wrap64 (8 * (l0.length : Int))) then ((bits_Reader_At.f t258 t285 t286).bind fun bt287 => (if bt287.1 < t265 then (some false) else ((bits_Reader_Fail.f t258 bt287.2.1 bt287.2.2).bind fun bt290 => (if bt290.1 = 0 then (serinettelaw01_BitsStay.l0 kj17 l0 l2 t257 (wrap64 (x9_2 + 1)) t258 bt290.2.1 bt290.2.2) else ((bits_Reader_At.f t258 bt290.2.1 bt290.2.2).bind fun bt293 => (if bt293.1 = t265 then (serinettelaw01_BitsStay.l0 kj17 l0 l2 t257 (wrap64 (x9_2 + 1)) t258 bt293.2.1 bt293.2.2) else (some false))))))) else (some false)) = some r := H
                      have A32 := Aside0.mk A320
                      clear A320
                      by_cases c33 : (wrap64 (t281 + t284)) = (wrap64 (8 * (l0.length : Int)))
                      · rw [if_pos c33] at H
                        have c33b0 : ((wrap64 (t281 + t284)) == (wrap64 (8 * (l0.length : Int)))) = true := beq_iff_eq.mpr c33
                        have c33b1 : ((wrap64 (t281 + t284)) != (wrap64 (8 * (l0.length : Int)))) = false := bne_eq_false_iff_eq.mpr c33
                        clear c33
                        replace H := Option.bind_eq_some_iff.mp H
                        obtain ⟨⟨t287, t288, t289⟩, A340, H⟩ := H
                        replace H : (if t287 < t265 then (some false) else ((bits_Reader_Fail.f t258 t288 t289).bind fun bt290 => (if bt290.1 = 0 then (serinettelaw01_BitsStay.l0 kj17 l0 l2 t257 (wrap64 (x9_2 + 1)) t258 bt290.2.1 bt290.2.2) else ((bits_Reader_At.f t258 bt290.2.1 bt290.2.2).bind fun bt293 => (if bt293.1 = t265 then (serinettelaw01_BitsStay.l0 kj17 l0 l2 t257 (wrap64 (x9_2 + 1)) t258 bt293.2.1 bt293.2.2) else (some false)))))) = some r := H
                        have A34 := Aside0.mk A340
                        clear A340
                        by_cases c35 : t287 < t265
                        · rw [if_pos c35] at H
                          have c35b0 : decide (t287 < t265) = true := decide_eq_true c35
                          clear c35
                          obtain rfl := Option.some.inj H
                          go_wp2_with (first | ((with_reducible refine gate_callee (f := 20) rfl ?_); refine goesL_ (some 65) rfl rfl Try.func20 (by kernel_rfl) rfl #[.pointer (some ⟨g261, 0, none⟩)] rfl (by (try simp only [List.map_toArray, List.map_cons, List.map_nil]); first | done | rfl | (simp only [List.length_drop, List.length_take]; rfl)) ?_; (with_reducible refine (bits_Reader_At.calls g261 t258 x262001_17 x262002_17 t281 t282 t283 w _ ?side1 ?side2 A31.out).mono ?_); (case side1 => repeat (first | (with_reducible first | exact HI261.out | apply IsS57.alloc | apply IsS57.drewN | apply IsS57.drew | apply IsS57.set_1 | apply IsS57.set_2) | exact HI261.out)); (case side2 => repeat (first | (with_reducible first | exact HB.out | apply below_alloc | apply pw_below_drewN | apply below_drew1 | refine below_set ?_ (IsS57.ge HI261.out)) | exact HB.out)); rintro e w36 ⟨rfl, hi, hb, hk⟩; refine ⟨_, rfl, ?_⟩; have n0_ := Aside0.mk (hb); have n1_ := Aside0.mk (hi); clear HB; clear HI261; have HB := n0_; have HI261 := n1_; clear n0_ n1_; (try clear hb); (try clear hb2); (try clear hk); (try clear hi)) | ((with_reducible refine gate_callee (f := 22) rfl ?_); refine goesL_ (some 67) rfl rfl Try.func22 (by kernel_rfl) rfl #[.pointer (some ⟨g261, 0, none⟩)] rfl (by (try simp only [List.map_toArray, List.map_cons, List.map_nil]); first | done | rfl | (simp only [List.length_drop, List.length_take]; rfl)) ?_; (with_reducible refine (bits_Reader_Left.calls g261 t258 t282 t283 t284 t285 t286 w _ ?side1 ?side2 A32.out).mono ?_); (case side1 => repeat (first | (with_reducible first | exact HI261.out | apply IsS57.alloc | apply IsS57.drewN | apply IsS57.drew | apply IsS57.set_1 | apply IsS57.set_2) | exact HI261.out)); (case side2 => repeat (first | (with_reducible first | exact HB.out | apply below_alloc | apply pw_below_drewN | apply below_drew1 | refine below_set ?_ (IsS57.ge HI261.out)) | exact HB.out)); rintro e w37 ⟨rfl, hi, hb, hk⟩; refine ⟨_, rfl, ?_⟩; have n0_ := Aside0.mk (hb); have n1_ := Aside0.mk (hi); clear HB; clear HI261; have HB := n0_; have HI261 := n1_; clear n0_ n1_; (try clear hb); (try clear hb2); (try clear hk); (try clear hi)) | (go_at_call 20; (with_reducible refine (bits_Reader_At.calls g261 t258 t285 t286 t287 t288 t289 w _ ?side1 ?side2 A34.out).mono ?_); (case side1 => repeat (first | (with_reducible first | exact HI261.out | apply IsS57.alloc | apply IsS57.drewN | apply IsS57.drew | apply IsS57.set_1 | apply IsS57.set_2) | exact HI261.out)); (case side2 => repeat (first | (with_reducible first | exact HB.out | apply below_alloc | apply pw_below_drewN | apply below_drew1 | refine below_set ?_ (IsS57.ge HI261.out)) | exact HB.out)); rintro e w38 ⟨rfl, hi, hb, hk⟩; have n0_ := Aside0.mk (hb); have n1_ := Aside0.mk (hi); clear HB; clear HI261; have HB := n0_; have HI261 := n1_; clear n0_ n1_; (try clear hb); (try clear hb2); (try clear hk); (try clear hi)))
                          go_ret
                          exact ⟨by first | rfl | (simp [errW_none, errW_some] <;> rfl) | (simp [*, errW_none, errW_some] <;> rfl), by repeat (first | (with_reducible first | exact HB.out | apply below_alloc | apply pw_below_drewN | apply below_drew1 | refine below_set ?_ (IsS57.ge HI261.out)) | exact HB.out)⟩
                        · rw [if_neg c35] at H
                          have c35b0 : decide (t287 < t265) = false := decide_eq_false c35
                          clear c35
                          replace H := Option.bind_eq_some_iff.mp H
                          obtain ⟨⟨t290, t291, t292⟩, A390, H⟩ := H
                          replace H : (if t290 = 0 then (serinettelaw01_BitsStay.l0 kj17 l0 l2 t257 (wrap64 (x9_2 + 1)) t258 t291 t292) else ((bits_Reader_At.f t258 t291 t292).bind fun bt293 => (if bt293.1 = t265 then (serinettelaw01_BitsStay.l0 kj17 l0 l2 t257 (wrap64 (x9_2 + 1)) t258 bt293.2.1 bt293.2.2) else (some false)))) = some r := H
                          have A39 := Aside0.mk A390
                          clear A390
                          by_cases c40 : t290 = 0
                          · rw [if_pos c40] at H
                            have c40b0 : (t290 == 0) = true := beq_iff_eq.mpr c40
                            have c40b1 : (t290 != 0) = false := bne_eq_false_iff_eq.mpr c40
                            clear c40
                            have H' := Aside0.mk H
                            clear H
                            go_wp2_with (first | ((with_reducible refine gate_callee (f := 20) rfl ?_); refine goesL_ (some 65) rfl rfl Try.func20 (by kernel_rfl) rfl #[.pointer (some ⟨g261, 0, none⟩)] rfl (by (try simp only [List.map_toArray, List.map_cons, List.map_nil]); first | done | rfl | (simp only [List.length_drop, List.length_take]; rfl)) ?_; (with_reducible refine (bits_Reader_At.calls g261 t258 x262001_17 x262002_17 t281 t282 t283 w _ ?side1 ?side2 A31.out).mono ?_); (case side1 => repeat (first | (with_reducible first | exact HI261.out | apply IsS57.alloc | apply IsS57.drewN | apply IsS57.drew | apply IsS57.set_1 | apply IsS57.set_2) | exact HI261.out)); (case side2 => repeat (first | (with_reducible first | exact HB.out | apply below_alloc | apply pw_below_drewN | apply below_drew1 | refine below_set ?_ (IsS57.ge HI261.out)) | exact HB.out)); rintro e w41 ⟨rfl, hi, hb, hk⟩; refine ⟨_, rfl, ?_⟩; have n0_ := Aside0.mk (hb); have n1_ := Aside0.mk (hi); clear HB; clear HI261; have HB := n0_; have HI261 := n1_; clear n0_ n1_; (try clear hb); (try clear hb2); (try clear hk); (try clear hi)) | ((with_reducible refine gate_callee (f := 22) rfl ?_); refine goesL_ (some 67) rfl rfl Try.func22 (by kernel_rfl) rfl #[.pointer (some ⟨g261, 0, none⟩)] rfl (by (try simp only [List.map_toArray, List.map_cons, List.map_nil]); first | done | rfl | (simp only [List.length_drop, List.length_take]; rfl)) ?_; (with_reducible refine (bits_Reader_Left.calls g261 t258 t282 t283 t284 t285 t286 w _ ?side1 ?side2 A32.out).mono ?_); (case side1 => repeat (first | (with_reducible first | exact HI261.out | apply IsS57.alloc | apply IsS57.drewN | apply IsS57.drew | apply IsS57.set_1 | apply IsS57.set_2) | exact HI261.out)); (case side2 => repeat (first | (with_reducible first | exact HB.out | apply below_alloc | apply pw_below_drewN | apply below_drew1 | refine below_set ?_ (IsS57.ge HI261.out)) | exact HB.out)); rintro e w42 ⟨rfl, hi, hb, hk⟩; refine ⟨_, rfl, ?_⟩; have n0_ := Aside0.mk (hb); have n1_ := Aside0.mk (hi); clear HB; clear HI261; have HB := n0_; have HI261 := n1_; clear n0_ n1_; (try clear hb); (try clear hb2); (try clear hk); (try clear hi)) | (go_at_call 20; (with_reducible refine (bits_Reader_At.calls g261 t258 t285 t286 t287 t288 t289 w _ ?side1 ?side2 A34.out).mono ?_); (case side1 => repeat (first | (with_reducible first | exact HI261.out | apply IsS57.alloc | apply IsS57.drewN | apply IsS57.drew | apply IsS57.set_1 | apply IsS57.set_2) | exact HI261.out)); (case side2 => repeat (first | (with_reducible first | exact HB.out | apply below_alloc | apply pw_below_drewN | apply below_drew1 | refine below_set ?_ (IsS57.ge HI261.out)) | exact HB.out)); rintro e w43 ⟨rfl, hi, hb, hk⟩; have n0_ := Aside0.mk (hb); have n1_ := Aside0.mk (hi); clear HB; clear HI261; have HB := n0_; have HI261 := n1_; clear n0_ n1_; (try clear hb); (try clear hb2); (try clear hk); (try clear hi)) | (go_at_call 21; (with_reducible refine (bits_Reader_Fail.calls g261 t258 t288 t289 t290 t291 t292 w _ ?side1 ?side2 A39.out).mono ?_); (case side1 => repeat (first | (with_reducible first | exact HI261.out | apply IsS57.alloc | apply IsS57.drewN | apply IsS57.drew | apply IsS57.set_1 | apply IsS57.set_2) | exact HI261.out)); (case side2 => repeat (first | (with_reducible first | exact HB.out | apply below_alloc | apply pw_below_drewN | apply below_drew1 | refine below_set ?_ (IsS57.ge HI261.out)) | exact HB.out)); rintro e w44 ⟨rfl, hi, hb, hk⟩; have n0_ := Aside0.mk (hb); have n1_ := Aside0.mk (hi); clear HB; clear HI261; have HB := n0_; have HI261 := n1_; clear n0_ n1_; (try clear hb); (try clear hb2); (try clear hk); (try clear hi)))
                            go_roundg kj17
                            case measure => have := HJ4.out; have := HK2.out; have := HJ17.out; omega
                            case rel => exact ⟨(wrap64 (x9_2 + 1)), (t291), (t292), (by first | rfl | (simp; done) | (simp only [i64_w, i32_w]; done) | (simp [*]; done) | (simp only [i64_w, i32_w]; first | rfl | (simp; done) | (simp [*]; done))), H', ⟨by have := HJ4.out; have := HK2.out; have := HJ17.out; omega⟩, ⟨by repeat (first | (with_reducible first | exact HI261.out | apply IsS57.alloc | apply IsS57.drewN | apply IsS57.drew | apply IsS57.set_1 | apply IsS57.set_2) | exact HI261.out)⟩, ⟨by repeat (first | (with_reducible first | exact HB.out | apply below_alloc | apply pw_below_drewN | apply below_drew1 | refine below_set ?_ (IsS57.ge HI261.out)) | exact HB.out)⟩⟩
                          · rw [if_neg c40] at H
                            have c40b0 : (t290 == 0) = false := beq_eq_false_iff_ne.mpr c40
                            have c40b1 : (t290 != 0) = true := bne_iff_ne.mpr c40
                            replace H := Option.bind_eq_some_iff.mp H
                            obtain ⟨⟨t293, t294, t295⟩, A450, H⟩ := H
                            replace H : (if t293 = t265 then (serinettelaw01_BitsStay.l0 kj17 l0 l2 t257 (wrap64 (x9_2 + 1)) t258 t294 t295) else (some false)) = some r := H
                            have A45 := Aside0.mk A450
                            clear A450
                            by_cases c46 : t293 = t265
                            · rw [if_pos c46] at H
                              have c46b0 : (t293 == t265) = true := beq_iff_eq.mpr c46
                              have c46b1 : (t293 != t265) = false := bne_eq_false_iff_eq.mpr c46
                              clear c46
                              have H' := Aside0.mk H
                              clear H
                              go_wp2_with (first | ((with_reducible refine gate_callee (f := 20) rfl ?_); refine goesL_ (some 65) rfl rfl Try.func20 (by kernel_rfl) rfl #[.pointer (some ⟨g261, 0, none⟩)] rfl (by (try simp only [List.map_toArray, List.map_cons, List.map_nil]); first | done | rfl | (simp only [List.length_drop, List.length_take]; rfl)) ?_; (with_reducible refine (bits_Reader_At.calls g261 t258 x262001_17 x262002_17 t281 t282 t283 w _ ?side1 ?side2 A31.out).mono ?_); (case side1 => repeat (first | (with_reducible first | exact HI261.out | apply IsS57.alloc | apply IsS57.drewN | apply IsS57.drew | apply IsS57.set_1 | apply IsS57.set_2) | exact HI261.out)); (case side2 => repeat (first | (with_reducible first | exact HB.out | apply below_alloc | apply pw_below_drewN | apply below_drew1 | refine below_set ?_ (IsS57.ge HI261.out)) | exact HB.out)); rintro e w47 ⟨rfl, hi, hb, hk⟩; refine ⟨_, rfl, ?_⟩; have n0_ := Aside0.mk (hb); have n1_ := Aside0.mk (hi); clear HB; clear HI261; have HB := n0_; have HI261 := n1_; clear n0_ n1_; (try clear hb); (try clear hb2); (try clear hk); (try clear hi)) | ((with_reducible refine gate_callee (f := 22) rfl ?_); refine goesL_ (some 67) rfl rfl Try.func22 (by kernel_rfl) rfl #[.pointer (some ⟨g261, 0, none⟩)] rfl (by (try simp only [List.map_toArray, List.map_cons, List.map_nil]); first | done | rfl | (simp only [List.length_drop, List.length_take]; rfl)) ?_; (with_reducible refine (bits_Reader_Left.calls g261 t258 t282 t283 t284 t285 t286 w _ ?side1 ?side2 A32.out).mono ?_); (case side1 => repeat (first | (with_reducible first | exact HI261.out | apply IsS57.alloc | apply IsS57.drewN | apply IsS57.drew | apply IsS57.set_1 | apply IsS57.set_2) | exact HI261.out)); (case side2 => repeat (first | (with_reducible first | exact HB.out | apply below_alloc | apply pw_below_drewN | apply below_drew1 | refine below_set ?_ (IsS57.ge HI261.out)) | exact HB.out)); rintro e w48 ⟨rfl, hi, hb, hk⟩; refine ⟨_, rfl, ?_⟩; have n0_ := Aside0.mk (hb); have n1_ := Aside0.mk (hi); clear HB; clear HI261; have HB := n0_; have HI261 := n1_; clear n0_ n1_; (try clear hb); (try clear hb2); (try clear hk); (try clear hi)) | (go_at_call 20; (with_reducible refine (bits_Reader_At.calls g261 t258 t285 t286 t287 t288 t289 w _ ?side1 ?side2 A34.out).mono ?_); (case side1 => repeat (first | (with_reducible first | exact HI261.out | apply IsS57.alloc | apply IsS57.drewN | apply IsS57.drew | apply IsS57.set_1 | apply IsS57.set_2) | exact HI261.out)); (case side2 => repeat (first | (with_reducible first | exact HB.out | apply below_alloc | apply pw_below_drewN | apply below_drew1 | refine below_set ?_ (IsS57.ge HI261.out)) | exact HB.out)); rintro e w49 ⟨rfl, hi, hb, hk⟩; have n0_ := Aside0.mk (hb); have n1_ := Aside0.mk (hi); clear HB; clear HI261; have HB := n0_; have HI261 := n1_; clear n0_ n1_; (try clear hb); (try clear hb2); (try clear hk); (try clear hi)) | (go_at_call 21; (with_reducible refine (bits_Reader_Fail.calls g261 t258 t288 t289 t290 t291 t292 w _ ?side1 ?side2 A39.out).mono ?_); (case side1 => repeat (first | (with_reducible first | exact HI261.out | apply IsS57.alloc | apply IsS57.drewN | apply IsS57.drew | apply IsS57.set_1 | apply IsS57.set_2) | exact HI261.out)); (case side2 => repeat (first | (with_reducible first | exact HB.out | apply below_alloc | apply pw_below_drewN | apply below_drew1 | refine below_set ?_ (IsS57.ge HI261.out)) | exact HB.out)); rintro e w50 ⟨rfl, hi, hb, hk⟩; have n0_ := Aside0.mk (hb); have n1_ := Aside0.mk (hi); clear HB; clear HI261; have HB := n0_; have HI261 := n1_; clear n0_ n1_; (try clear hb); (try clear hb2); (try clear hk); (try clear hi)) | (go_at_call 20; (with_reducible refine (bits_Reader_At.calls g261 t258 t291 t292 t293 t294 t295 w _ ?side1 ?side2 A45.out).mono ?_); (case side1 => repeat (first | (with_reducible first | exact HI261.out | apply IsS57.alloc | apply IsS57.drewN | apply IsS57.drew | apply IsS57.set_1 | apply IsS57.set_2) | exact HI261.out)); (case side2 => repeat (first | (with_reducible first | exact HB.out | apply below_alloc | apply pw_below_drewN | apply below_drew1 | refine below_set ?_ (IsS57.ge HI261.out)) | exact HB.out)); rintro e w51 ⟨rfl, hi, hb, hk⟩; have n0_ := Aside0.mk (hb); have n1_ := Aside0.mk (hi); clear HB; clear HI261; have HB := n0_; have HI261 := n1_; clear n0_ n1_; (try clear hb); (try clear hb2); (try clear hk); (try clear hi)))
                              go_roundg kj17
                              case measure => have := HJ4.out; have := HK2.out; have := HJ17.out; omega
                              case rel => exact ⟨(wrap64 (x9_2 + 1)), (t294), (t295), (by first | rfl | (simp; done) | (simp only [i64_w, i32_w]; done) | (simp [*]; done) | (simp only [i64_w, i32_w]; first | rfl | (simp; done) | (simp [*]; done))), H', ⟨by have := HJ4.out; have := HK2.out; have := HJ17.out; omega⟩, ⟨by repeat (first | (with_reducible first | exact HI261.out | apply IsS57.alloc | apply IsS57.drewN | apply IsS57.drew | apply IsS57.set_1 | apply IsS57.set_2) | exact HI261.out)⟩, ⟨by repeat (first | (with_reducible first | exact HB.out | apply below_alloc | apply pw_below_drewN | apply below_drew1 | refine below_set ?_ (IsS57.ge HI261.out)) | exact HB.out)⟩⟩
                            · rw [if_neg c46] at H
                              have c46b0 : (t293 == t265) = false := beq_eq_false_iff_ne.mpr c46
                              have c46b1 : (t293 != t265) = true := bne_iff_ne.mpr c46
                              obtain rfl := Option.some.inj H
                              go_wp2_with (first | ((with_reducible refine gate_callee (f := 20) rfl ?_); refine goesL_ (some 65) rfl rfl Try.func20 (by kernel_rfl) rfl #[.pointer (some ⟨g261, 0, none⟩)] rfl (by (try simp only [List.map_toArray, List.map_cons, List.map_nil]); first | done | rfl | (simp only [List.length_drop, List.length_take]; rfl)) ?_; (with_reducible refine (bits_Reader_At.calls g261 t258 x262001_17 x262002_17 t281 t282 t283 w _ ?side1 ?side2 A31.out).mono ?_); (case side1 => repeat (first | (with_reducible first | exact HI261.out | apply IsS57.alloc | apply IsS57.drewN | apply IsS57.drew | apply IsS57.set_1 | apply IsS57.set_2) | exact HI261.out)); (case side2 => repeat (first | (with_reducible first | exact HB.out | apply below_alloc | apply pw_below_drewN | apply below_drew1 | refine below_set ?_ (IsS57.ge HI261.out)) | exact HB.out)); rintro e w52 ⟨rfl, hi, hb, hk⟩; refine ⟨_, rfl, ?_⟩; have n0_ := Aside0.mk (hb); have n1_ := Aside0.mk (hi); clear HB; clear HI261; have HB := n0_; have HI261 := n1_; clear n0_ n1_; (try clear hb); (try clear hb2); (try clear hk); (try clear hi)) | ((with_reducible refine gate_callee (f := 22) rfl ?_); refine goesL_ (some 67) rfl rfl Try.func22 (by kernel_rfl) rfl #[.pointer (some ⟨g261, 0, none⟩)] rfl (by (try simp only [List.map_toArray, List.map_cons, List.map_nil]); first | done | rfl | (simp only [List.length_drop, List.length_take]; rfl)) ?_; (with_reducible refine (bits_Reader_Left.calls g261 t258 t282 t283 t284 t285 t286 w _ ?side1 ?side2 A32.out).mono ?_); (case side1 => repeat (first | (with_reducible first | exact HI261.out | apply IsS57.alloc | apply IsS57.drewN | apply IsS57.drew | apply IsS57.set_1 | apply IsS57.set_2) | exact HI261.out)); (case side2 => repeat (first | (with_reducible first | exact HB.out | apply below_alloc | apply pw_below_drewN | apply below_drew1 | refine below_set ?_ (IsS57.ge HI261.out)) | exact HB.out)); rintro e w53 ⟨rfl, hi, hb, hk⟩; refine ⟨_, rfl, ?_⟩; have n0_ := Aside0.mk (hb); have n1_ := Aside0.mk (hi); clear HB; clear HI261; have HB := n0_; have HI261 := n1_; clear n0_ n1_; (try clear hb); (try clear hb2); (try clear hk); (try clear hi)) | (go_at_call 20; (with_reducible refine (bits_Reader_At.calls g261 t258 t285 t286 t287 t288 t289 w _ ?side1 ?side2 A34.out).mono ?_); (case side1 => repeat (first | (with_reducible first | exact HI261.out | apply IsS57.alloc | apply IsS57.drewN | apply IsS57.drew | apply IsS57.set_1 | apply IsS57.set_2) | exact HI261.out)); (case side2 => repeat (first | (with_reducible first | exact HB.out | apply below_alloc | apply pw_below_drewN | apply below_drew1 | refine below_set ?_ (IsS57.ge HI261.out)) | exact HB.out)); rintro e w54 ⟨rfl, hi, hb, hk⟩; have n0_ := Aside0.mk (hb); have n1_ := Aside0.mk (hi); clear HB; clear HI261; have HB := n0_; have HI261 := n1_; clear n0_ n1_; (try clear hb); (try clear hb2); (try clear hk); (try clear hi)) | (go_at_call 21; (with_reducible refine (bits_Reader_Fail.calls g261 t258 t288 t289 t290 t291 t292 w _ ?side1 ?side2 A39.out).mono ?_); (case side1 => repeat (first | (with_reducible first | exact HI261.out | apply IsS57.alloc | apply IsS57.drewN | apply IsS57.drew | apply IsS57.set_1 | apply IsS57.set_2) | exact HI261.out)); (case side2 => repeat (first | (with_reducible first | exact HB.out | apply below_alloc | apply pw_below_drewN | apply below_drew1 | refine below_set ?_ (IsS57.ge HI261.out)) | exact HB.out)); rintro e w55 ⟨rfl, hi, hb, hk⟩; have n0_ := Aside0.mk (hb); have n1_ := Aside0.mk (hi); clear HB; clear HI261; have HB := n0_; have HI261 := n1_; clear n0_ n1_; (try clear hb); (try clear hb2); (try clear hk); (try clear hi)) | (go_at_call 20; (with_reducible refine (bits_Reader_At.calls g261 t258 t291 t292 t293 t294 t295 w _ ?side1 ?side2 A45.out).mono ?_); (case side1 => repeat (first | (with_reducible first | exact HI261.out | apply IsS57.alloc | apply IsS57.drewN | apply IsS57.drew | apply IsS57.set_1 | apply IsS57.set_2) | exact HI261.out)); (case side2 => repeat (first | (with_reducible first | exact HB.out | apply below_alloc | apply pw_below_drewN | apply below_drew1 | refine below_set ?_ (IsS57.ge HI261.out)) | exact HB.out)); rintro e w56 ⟨rfl, hi, hb, hk⟩; have n0_ := Aside0.mk (hb); have n1_ := Aside0.mk (hi); clear HB; clear HI261; have HB := n0_; have HI261 := n1_; clear n0_ n1_; (try clear hb); (try clear hb2); (try clear hk); (try clear hi)))
                              go_ret
                              exact ⟨by first | rfl | (simp [errW_none, errW_some] <;> rfl) | (simp [*, errW_none, errW_some] <;> rfl), by repeat (first | (with_reducible first | exact HB.out | apply below_alloc | apply pw_below_drewN | apply below_drew1 | refine below_set ?_ (IsS57.ge HI261.out)) | exact HB.out)⟩
                      · rw [if_neg c33] at H
                        have c33b0 : ((wrap64 (t281 + t284)) == (wrap64 (8 * (l0.length : Int)))) = false := beq_eq_false_iff_ne.mpr c33
                        have c33b1 : ((wrap64 (t281 + t284)) != (wrap64 (8 * (l0.length : Int)))) = true := bne_iff_ne.mpr c33
                        obtain rfl := Option.some.inj H
                        go_wp2_with (first | ((with_reducible refine gate_callee (f := 20) rfl ?_); refine goesL_ (some 65) rfl rfl Try.func20 (by kernel_rfl) rfl #[.pointer (some ⟨g261, 0, none⟩)] rfl (by (try simp only [List.map_toArray, List.map_cons, List.map_nil]); first | done | rfl | (simp only [List.length_drop, List.length_take]; rfl)) ?_; (with_reducible refine (bits_Reader_At.calls g261 t258 x262001_17 x262002_17 t281 t282 t283 w _ ?side1 ?side2 A31.out).mono ?_); (case side1 => repeat (first | (with_reducible first | exact HI261.out | apply IsS57.alloc | apply IsS57.drewN | apply IsS57.drew | apply IsS57.set_1 | apply IsS57.set_2) | exact HI261.out)); (case side2 => repeat (first | (with_reducible first | exact HB.out | apply below_alloc | apply pw_below_drewN | apply below_drew1 | refine below_set ?_ (IsS57.ge HI261.out)) | exact HB.out)); rintro e w57 ⟨rfl, hi, hb, hk⟩; refine ⟨_, rfl, ?_⟩; have n0_ := Aside0.mk (hb); have n1_ := Aside0.mk (hi); clear HB; clear HI261; have HB := n0_; have HI261 := n1_; clear n0_ n1_; (try clear hb); (try clear hb2); (try clear hk); (try clear hi)) | ((with_reducible refine gate_callee (f := 22) rfl ?_); refine goesL_ (some 67) rfl rfl Try.func22 (by kernel_rfl) rfl #[.pointer (some ⟨g261, 0, none⟩)] rfl (by (try simp only [List.map_toArray, List.map_cons, List.map_nil]); first | done | rfl | (simp only [List.length_drop, List.length_take]; rfl)) ?_; (with_reducible refine (bits_Reader_Left.calls g261 t258 t282 t283 t284 t285 t286 w _ ?side1 ?side2 A32.out).mono ?_); (case side1 => repeat (first | (with_reducible first | exact HI261.out | apply IsS57.alloc | apply IsS57.drewN | apply IsS57.drew | apply IsS57.set_1 | apply IsS57.set_2) | exact HI261.out)); (case side2 => repeat (first | (with_reducible first | exact HB.out | apply below_alloc | apply pw_below_drewN | apply below_drew1 | refine below_set ?_ (IsS57.ge HI261.out)) | exact HB.out)); rintro e w58 ⟨rfl, hi, hb, hk⟩; refine ⟨_, rfl, ?_⟩; have n0_ := Aside0.mk (hb); have n1_ := Aside0.mk (hi); clear HB; clear HI261; have HB := n0_; have HI261 := n1_; clear n0_ n1_; (try clear hb); (try clear hb2); (try clear hk); (try clear hi)))
                        go_ret
                        exact ⟨by first | rfl | (simp [errW_none, errW_some] <;> rfl) | (simp [*, errW_none, errW_some] <;> rfl), by repeat (first | (with_reducible first | exact HB.out | apply below_alloc | apply pw_below_drewN | apply below_drew1 | refine below_set ?_ (IsS57.ge HI261.out)) | exact HB.out)⟩
              · rw [if_neg c16] at H
                exact absurd H (by simp)
            · rw [if_neg c13] at H
              have c13b0 : decide (x9_2 < (l2.length : Int)) = false := decide_eq_false c13
              clear c13
              obtain rfl := Option.some.inj H
              go_wp2
              go_ret
              exact ⟨by first | rfl | (simp [errW_none, errW_some] <;> rfl) | (simp [*, errW_none, errW_some] <;> rfl), by repeat (first | (with_reducible first | exact HB.out | apply below_alloc | apply pw_below_drewN | apply below_drew1 | refine below_set ?_ (IsS57.ge HI261.out)) | exact HB.out)⟩

/-- THE ONE PURE STATEMENT of serinettelaw01_BitsStay: yours. -/
def serinettelaw01_BitsStay.Pure : Prop := ∀ (l0 : List Int) (a1 : Int) (l2 : List Int), l0.length ≤ maxLen → l0.length * 1 ≤ 140737488351232 → (∀ x ∈ l0, (Lit.int .u8 x).wf = true) → (Lit.int .i64 a1).wf = true → l2.length ≤ maxLen → l2.length * 8 ≤ 140737488351232 → (∀ x ∈ l2, (Lit.int .i64 x).wf = true) → ∃ k, serinettelaw01_BitsStay.f k l0 a1 l2 = some true
theorem serinettelaw01_BitsStay.walk (P : serinettelaw01_BitsStay.Pure) (a0 : Option Addr) (len0 cap0 : Nat) (z0 : List Int) (a1 : Int) (a2 : Option Addr) (len2 cap2 : Nat) (z2 : List Int) (w : World) (w0 : (a0 = none ∧ len0 = 0 ∧ cap0 = 0 ∧ z0 = []) ∨ ∃ x, a0 = some x ∧ len0 ≤ cap0 ∧ cap0 ≤ maxLen ∧ z0.length = cap0 ∧ (∀ i, i < z0.length → w.cell? (x.add i) = some (.int .u8 (z0.getD i 0))) ∧ ∀ n ∈ z0, (Lit.int .u8 n).wf = true) (y0 : len0 * 1 ≤ 140737488351232) (w1 : (Lit.int .i64 a1).wf = true) (w2 : (a2 = none ∧ len2 = 0 ∧ cap2 = 0 ∧ z2 = []) ∨ ∃ x, a2 = some x ∧ len2 ≤ cap2 ∧ cap2 ≤ maxLen ∧ z2.length = cap2 ∧ (∀ i, i < z2.length → w.cell? (x.add i) = some (.int .i64 (z2.getD i 0))) ∧ ∀ n ∈ z2, (Lit.int .i64 n).wf = true) (y2 : len2 * 8 ≤ 140737488351232) :
    Calls Try.prog 5 #[.slice a0 len0 cap0, .int .i64 a1, .slice a2 len2 cap2] w fun e w' => e = .returned (.bool true) ∧ Below w.heap.size w w' := by
  obtain ⟨l0, rfl, hr0, hm0, hw0, hc0⟩ := ReadsInt.ofRowC w0
  obtain ⟨l2, rfl, hr2, hm2, hw2, hc2⟩ := ReadsInt.ofRowC w2
  obtain ⟨k, h⟩ := P l0 a1 l2 hm0 y0 hw0 w1 hm2 y2 hw2
  refine (serinettelaw01_BitsStay.calls k _ _ l0 a1 _ _ l2 true w (Kd.C_of_reads (d := (0 : Int)) (h1 := fun _ => rfl) hr0) hc0 (Kd.C_of_reads (d := (0 : Int)) (h1 := fun _ => rfl) hr2) hc2 h).mono ?_
  rintro e w' ⟨rfl, hd⟩
  exact ⟨rfl, hd⟩

end Go.Proofs.Ytcdnabonljmegaa.PA
