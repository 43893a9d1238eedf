/- Each Go function named below comes to what the plain Lean function of its name answers, wherever that answers (rounds enough, no panic, no row too long); texts by a program of this session by way of the kit's print.py, what that does not take by hand. Condition: what is read lies in memory as each theorem says. -/
import Derived.Test.YtfjefocjplljcaaPAx0
import Derived.Test.YtfjefocjplljcaaPAx1
import Derived.Test.YtfjefocjplljcaaPAx2
import Derived.Test.YtfjefocjplljcaaPAx3
import Derived.Test.YtfjefocjplljcaaPAx9
import Derived.Test.YtfjefocjplljcaaPAx11
namespace Go.Proofs.Ytfjefocjplljcaa.PA
open Go.RowKit Go.Proofs.YtfjefocjplljcaaW.PrintWords Go.Proofs.YtfjefocjplljcaaW.PrintLast Go.Proofs.YtfjefocjplljcaaW.PrintMore
attribute [local go_sem] max2_int min2_int max_two min_two max_three min_three max_four min_four   -- for this text's walks alone
set_option linter.unusedVariables false
set_option linter.unusedSimpArgs false

/-! ### serinettelaw06_PcmBack: function 6 -/
mutual
def serinettelaw06_PcmBack.j0 : Nat → List Int → Int → Int → Int → Bool → Bool → Int → Int → List (List Int) → Option (Bool)
  | 0, _, _, _, _, _, _, _, _, _ => none
  | k + 1, x1, x2, x3, x4, x11, x27, x247000, x247001, x247002 => if x27 = true then (some x11) else ((pcm_Check.f x247000 x247001 x247002).bind fun t249 => (if t249 = 0 then ((pcm_Bytes.f x247000 x247001 x247002).bind fun t250 => ((pcm_Unbytes.f k t250 x247000 x247001 (x247002.length : Int)).bind fun bt253 => (if bt253.2.2.2 = 0 then ((serinetteref06_Same.f k x247000 x247001 x247002 bt253.1 bt253.2.1 bt253.2.2.1).bind fun t260 => (if t260 = true then ((pcm_Each.f x247001).bind fun t261 => ((pcm_Many.f x247000 x247001 x247002).bind fun t262 => (if (t250.length : Int) = (wrap64 ((wrap64 (t261 * t262)) * (x247002.length : Int))) then (serinettelaw06_PcmBack.j1 k x1 x2 x3 x4 x11) else (some false)))) else (some false))) else (some false)))) else (serinettelaw06_PcmBack.j1 k x1 x2 x3 x4 x11)))
def serinettelaw06_PcmBack.j1 : Nat → List Int → Int → Int → Int → Bool → Option (Bool)
  | 0, _, _, _, _, _ => none
  | k + 1, x1, x2, x3, x4, x11 => (pcm_Unbytes.f k x1 x2 x3 x4).bind fun bt263 => (if bt263.2.2.2 = 0 then (if x11 = true then ((pcm_Check.f bt263.1 bt263.2.1 bt263.2.2.1).bind fun t270 => (if t270 = 0 then ((pcm_Bytes.f bt263.1 bt263.2.1 bt263.2.2.1).bind fun t271 => ((serinetteref01_Same.f k t271 x1).bind fun t274 => (some t274))) else (some false))) else (some false)) else (if x11 = true then (some ((bt263.2.2.1.length : Int) == 0)) else (some false)))
end
def serinettelaw06_PcmBack.f (k : Nat) (a0_0 : Int) (a0_1 : Int) (l0_2 : List (List Int)) (l1 : List Int) (a2 : Int) (a3 : Int) (a4 : Int) : Option (Bool) := (serinettelaw06_awake.f k).bind fun t247 => ((serinetteref06_Few.f k a0_0 a0_1 l0_2 50).bind fun t248 => (if t248 = true then (serinettelaw06_PcmBack.j0 k l1 a2 a3 a4 t247 (decide ((l1.length : Int) > 300)) a0_0 a0_1 l0_2) else (serinettelaw06_PcmBack.j0 k l1 a2 a3 a4 t247 true a0_0 a0_1 l0_2)))
theorem serinettelaw06_PcmBack.mono_l : ∀ k, (∀ y0 y1 y2 y3 y4 y5 y6 y7 y8, LeO (serinettelaw06_PcmBack.j0 k y0 y1 y2 y3 y4 y5 y6 y7 y8) (serinettelaw06_PcmBack.j0 (k + 1) y0 y1 y2 y3 y4 y5 y6 y7 y8)) ∧ (∀ y0 y1 y2 y3 y4, LeO (serinettelaw06_PcmBack.j1 k y0 y1 y2 y3 y4) (serinettelaw06_PcmBack.j1 (k + 1) y0 y1 y2 y3 y4))
  | 0 => ⟨fun _ _ _ _ _ _ _ _ _ r h => by simp [serinettelaw06_PcmBack.j0] at h, fun _ _ _ _ _ r h => by simp [serinettelaw06_PcmBack.j1] at h⟩
  | k + 1 => by
    obtain ⟨ih0, ih1⟩ := serinettelaw06_PcmBack.mono_l k
    refine ⟨?_, ?_⟩
    · intro y0 y1 y2 y3 y4 y5 y6 y7 y8
      unfold serinettelaw06_PcmBack.j0
      repeat' first
      | (with_reducible exact ih0 _ _ _ _ _ _ _ _ _)
      | (with_reducible exact ih1 _ _ _ _ _)
      | (with_reducible exact pcm_Unbytes.mono _ _ _ _ _)
      | (with_reducible exact serinettelaw06_awake.mono _)
      | (with_reducible exact serinetteref01_Same.mono _ _ _)
      | (with_reducible exact serinetteref06_Few.mono _ _ _ _ _)
      | (with_reducible exact serinetteref06_Same.mono _ _ _ _ _ _ _)
      | (with_reducible exact LeO.refl _)
      | (with_reducible exact LeO.none _)
      | (with_reducible refine LeO.ite ?_ ?_)
      | (with_reducible refine LeO.bind ?_ (fun _ => ?_))
      | exact ih0 _ _ _ _ _ _ _ _ _
      | exact ih1 _ _ _ _ _
      | exact pcm_Unbytes.mono _ _ _ _ _
      | exact serinettelaw06_awake.mono _
      | exact serinetteref01_Same.mono _ _ _
      | exact serinetteref06_Few.mono _ _ _ _ _
      | exact serinetteref06_Same.mono _ _ _ _ _ _ _
      | exact LeO.none _
      | refine LeO.ite ?_ ?_
      | refine LeO.bind ?_ (fun _ => ?_)
    · intro y0 y1 y2 y3 y4
      unfold serinettelaw06_PcmBack.j1
      repeat' first
      | (with_reducible exact ih0 _ _ _ _ _ _ _ _ _)
      | (with_reducible exact ih1 _ _ _ _ _)
      | (with_reducible exact pcm_Unbytes.mono _ _ _ _ _)
      | (with_reducible exact serinettelaw06_awake.mono _)
      | (with_reducible exact serinetteref01_Same.mono _ _ _)
      | (with_reducible exact serinetteref06_Few.mono _ _ _ _ _)
      | (with_reducible exact serinetteref06_Same.mono _ _ _ _ _ _ _)
      | (with_reducible exact LeO.refl _)
      | (with_reducible exact LeO.none _)
      | (with_reducible refine LeO.ite ?_ ?_)
      | (with_reducible refine LeO.bind ?_ (fun _ => ?_))
      | exact ih0 _ _ _ _ _ _ _ _ _
      | exact ih1 _ _ _ _ _
      | exact pcm_Unbytes.mono _ _ _ _ _
      | exact serinettelaw06_awake.mono _
      | exact serinetteref01_Same.mono _ _ _
      | exact serinetteref06_Few.mono _ _ _ _ _
      | exact serinetteref06_Same.mono _ _ _ _ _ _ _
      | exact LeO.none _
      | refine LeO.ite ?_ ?_
      | refine LeO.bind ?_ (fun _ => ?_)
theorem serinettelaw06_PcmBack.mono : ∀ a0 a1 a2 a3 a4 a5 a6 k, LeO (serinettelaw06_PcmBack.f k a0 a1 a2 a3 a4 a5 a6) (serinettelaw06_PcmBack.f (k + 1) a0 a1 a2 a3 a4 a5 a6) := by
  intro a0 a1 a2 a3 a4 a5 a6 k
  obtain ⟨ih0, ih1⟩ := serinettelaw06_PcmBack.mono_l k
  unfold serinettelaw06_PcmBack.f
  repeat' first
      | (with_reducible exact ih0 _ _ _ _ _ _ _ _ _)
      | (with_reducible exact ih1 _ _ _ _ _)
      | (with_reducible exact pcm_Unbytes.mono _ _ _ _ _)
      | (with_reducible exact serinettelaw06_awake.mono _)
      | (with_reducible exact serinetteref01_Same.mono _ _ _)
      | (with_reducible exact serinetteref06_Few.mono _ _ _ _ _)
      | (with_reducible exact serinetteref06_Same.mono _ _ _ _ _ _ _)
      | (with_reducible exact LeO.refl _)
      | (with_reducible exact LeO.none _)
      | (with_reducible refine LeO.ite ?_ ?_)
      | (with_reducible refine LeO.bind ?_ (fun _ => ?_))
      | exact ih0 _ _ _ _ _ _ _ _ _
      | exact ih1 _ _ _ _ _
      | exact pcm_Unbytes.mono _ _ _ _ _
      | exact serinettelaw06_awake.mono _
      | exact serinetteref01_Same.mono _ _ _
      | exact serinetteref06_Few.mono _ _ _ _ _
      | exact serinetteref06_Same.mono _ _ _ _ _ _ _
      | exact LeO.none _
      | refine LeO.ite ?_ ?_
      | refine LeO.bind ?_ (fun _ => ?_)
def serinettelaw06_PcmBack.T8 : Bool × List (List Nat × List Nat) := (true, [([], []), ([0], [0]), ([1], [1]), ([2], [2]), ([2], [2]), ([3, 4, 2, 2], [2, 3, 4]), ([5, 2], [2, 5]), ([2, 6], [2, 6]), ([7, 5], [7]), ([8], [8]), ([9, 8], [8, 9]), ([8], [8]), ([11, 8], [8, 11]), ([12, 8, 8], [8, 12]), ([8], [8]), ([14, 13, 8], [8, 14]), ([13, 15, 8], [8, 13, 15]), ([8], [8]), ([17, 8], [8, 17]), ([18, 8], [8, 18]), ([16, 19, 8], [8, 16, 19]), ([10, 20, 8], [8, 10, 20]), ([8, 21], [8, 21])])
def serinettelaw06_PcmBack.B8 : List Nat := [0, 1, 3, 7, 7, 31, 63, 127, 255, 511, 1023, 511, 2559, 6655, 511, 31231, 63999, 511, 131583, 393727, 1047039, 2097151, 4194303]
theorem serinettelaw06_PcmBack.tab8 : rtab .any (opsOf Try.f6 8) = serinettelaw06_PcmBack.T8 := by kernel_rfl
theorem serinettelaw06_PcmBack.bits8 : waitsOk serinettelaw06_PcmBack.T8.2 serinettelaw06_PcmBack.B8 = true := by kernel_rfl
set_option maxHeartbeats 8000000 in
set_option maxRecDepth 100000 in
theorem serinettelaw06_PcmBack.calls (k : Nat) (a0_0 : Int) (a0_1 : Int) (A0_2 : Option Addr) (c0_2 : Nat) (l0_2 : List (List Int)) (A1 : Option Addr) (c1 : Nat) (l1 : List Int) (a2 : Int) (a3 : Int) (a4 : Int) (r : Bool) (w : World) (hr0_2 : Kd.C (Kd.slice 3 (Kd.int .i64)) w A0_2 l0_2.length l0_2) (hc0_2 : l0_2.length ≤ c0_2) (hr1 : Kd.C (Kd.int .u8) w A1 l1.length l1) (hc1 : l1.length ≤ c1) (h : serinettelaw06_PcmBack.f k a0_0 a0_1 l0_2 l1 a2 a3 a4 = some r) :
    Calls Try.prog 6 #[.agg #[.int .i64 a0_0, .int .i64 a0_1, .slice A0_2 l0_2.length c0_2], .slice A1 l1.length c1, .int .i64 a2, .int .i64 a3, .int .i64 a4] w fun e w' => e = .returned (.bool r) ∧ Below w.heap.size w w' := by
  have hu24 := Try.underlying24
  have HR0_2 := Aside0.mk hr0_2
  have HC0_2 := Aside0.mk hc0_2
  clear hr0_2 hc0_2
  have HR1 := Aside0.mk hr1
  have HC1 := Aside0.mk hc1
  clear hr1 hc1
  have HB := Aside0.mk (Below.refl w.heap.size w)
  have H : ((serinettelaw06_awake.f k).bind fun t247 => ((serinetteref06_Few.f k a0_0 a0_1 l0_2 50).bind fun t248 => (if t248 = true then (serinettelaw06_PcmBack.j0 k l1 a2 a3 a4 t247 (decide ((l1.length : Int) > 300)) a0_0 a0_1 l0_2) else (serinettelaw06_PcmBack.j0 k l1 a2 a3 a4 t247 true a0_0 a0_1 l0_2)))) = some r := h
  clear h
  replace H := Option.bind_eq_some_iff.mp H
  obtain ⟨t247, A60, H⟩ := H
  replace H : ((serinetteref06_Few.f k a0_0 a0_1 l0_2 50).bind fun t248 => (if t248 = true then (serinettelaw06_PcmBack.j0 k l1 a2 a3 a4 t247 (decide ((l1.length : Int) > 300)) a0_0 a0_1 l0_2) else (serinettelaw06_PcmBack.j0 k l1 a2 a3 a4 t247 true a0_0 a0_1 l0_2))) = some r := H
  have A6 := Aside0.mk A60
  clear A60
  replace H := Option.bind_eq_some_iff.mp H
  obtain ⟨t248, A70, H⟩ := H
  replace H : (if t248 = true then (serinettelaw06_PcmBack.j0 k l1 a2 a3 a4 t247 (decide ((l1.length : Int) > 300)) a0_0 a0_1 l0_2) else (serinettelaw06_PcmBack.j0 k l1 a2 a3 a4 t247 true a0_0 a0_1 l0_2)) = some r := H
  have A7 := Aside0.mk A70
  clear A70
  have HC8 := Aside0.mk H
  clear H
  go_enter Try.func6, Try.ntmps6
  go_upto_region 3 with (first | ((with_reducible refine gate_dst (N := 5) rfl ?_); (try (refine gate_guard (by rfl) ?_; dsimp only)); refine box_event ?hg (N := 5) ?hd (cs := #[.int .i64 a0_0, .int .i64 a0_1, .slice A0_2 l0_2.length c0_2]) (t := 24) ?hr ?_; (case hd => rfl); (case hg => rfl); (case hr => first | (go_simp; done) | (go_simp; rfl)); intro gb246 hg w9 hbox hb; have n0_ := Aside0.mk (below_step (by repeat (first | (with_reducible first | exact HB.out | apply below_alloc | apply pw_below_drewN | apply below_drew1) | exact HB.out)) hb); have n1_ := Aside0.mk (hbox); have n2_ := Aside0.mk ((by rw [hg]; exact (below_size (by repeat (first | (with_reducible first | exact HB.out | apply below_alloc | apply pw_below_drewN | apply below_drew1) | exact HB.out))) : w.heap.size ≤ gb246)); have n3_ := Aside0.mk ((by rw [hg]; exact (below_size (by repeat (first | (with_reducible first | exact HB.out | apply below_alloc | apply pw_below_drewN | apply below_drew1) | exact HB.out))) : w.heap.size ≤ gb246)); clear HB; have HB := n0_; have BK246 := n1_; have GW246 := n2_; have GE246 := n3_; clear n0_ n1_ n2_ n3_; clear hb hbox hg) | ((with_reducible refine gate_callee (f := 9) rfl ?_); refine goesL_ (some 18) rfl rfl Try.func9 (by kernel_rfl) rfl #[] rfl (by (try simp only [List.map_toArray, List.map_cons, List.map_nil]); first | done | rfl | (simp only [List.length_drop, List.length_take]; rfl)) ?_; (with_reducible refine (serinettelaw06_awake.calls k  t247 _ A6.out).mono ?_); rintro e w10 ⟨rfl, hb⟩; refine ⟨_, rfl, ?_⟩; have n0_ := Aside0.mk (blk_below (g := gb246) (o := .cells #[.int .i64 a0_0, .int .i64 a0_1, .slice A0_2 l0_2.length c0_2] 24 (0, 0)) (by (with_reducible repeat (first | refine blk_drewN ?_ _ | refine blk_drew ?_ | refine blk_alloc ?_ _)); exact BK246.out) hb); have n1_ := Aside0.mk (below_step (by repeat (first | (with_reducible first | exact HB.out | apply below_alloc | apply pw_below_drewN | apply below_drew1 | refine below_set ?_ GE246.out) | exact HB.out)) hb); clear BK246; clear HB; have BK246 := n0_; have HB := n1_; clear n0_ n1_; (try clear hb); (try clear hb2); (try clear hk); (try clear hi); have hcz11_0 : w10.cell? ⟨gb246, 0, none⟩ = some (.int .i64 a0_0) := (blk_cell BK246.out 0).trans rfl; have hcz11_1 : w10.cell? ⟨gb246, 1, none⟩ = some (.int .i64 a0_1) := (blk_cell BK246.out 1).trans rfl; have hcz11_2 : w10.cell? ⟨gb246, 2, none⟩ = some (.slice A0_2 l0_2.length c0_2) := (blk_cell BK246.out 2).trans rfl; have hfz11_0 := blk_frozen BK246.out 0; have hfz11_1 := blk_frozen BK246.out 1; have hfz11_2 := blk_frozen BK246.out 2) | ((with_reducible refine gate_callee (f := 10) rfl ?_); refine goesL_ (some 20) rfl rfl Try.func10 (by kernel_rfl) rfl #[.agg #[.int .i64 a0_0, .int .i64 a0_1, .slice A0_2 l0_2.length c0_2], .int .i64 50] rfl (by (try simp only [List.map_toArray, List.map_cons, List.map_nil]); first | done | rfl | (simp only [List.length_drop, List.length_take]; rfl)) ?_; (with_reducible refine (serinetteref06_Few.calls k a0_0 a0_1 _ _ l0_2 50 t248 _ ?side1 ?side2 A7.out).mono ?_); (case side1 => repeat (first | exact (Kd.C_below HR0_2.out HB.out) | (with_reducible refine Kd.C_alloc ?_ _) | (with_reducible refine Kd.C_drewN ?_ _) | (with_reducible refine Kd.C_drew ?_))); (case side2 => exact HC0_2.out); rintro e w12 ⟨rfl, hb⟩; refine ⟨_, rfl, ?_⟩; have n0_ := Aside0.mk (blk_below (g := gb246) (o := .cells #[.int .i64 a0_0, .int .i64 a0_1, .slice A0_2 l0_2.length c0_2] 24 (0, 0)) (by (with_reducible repeat (first | refine blk_drewN ?_ _ | refine blk_drew ?_ | refine blk_alloc ?_ _)); exact BK246.out) hb); have n1_ := Aside0.mk (below_step (by repeat (first | (with_reducible first | exact HB.out | apply below_alloc | apply pw_below_drewN | apply below_drew1 | refine below_set ?_ GE246.out) | exact HB.out)) hb); clear BK246; clear HB; have BK246 := n0_; have HB := n1_; clear n0_ n1_; (try clear hb); (try clear hb2); (try clear hk); (try clear hi)))
  (try simp only [Act.put, List.setIfInBounds_toArray, List.set_cons_zero, List.set_cons_succ])
  go_cut [27] (fun v27 wc => ∃ (kq : Nat) (x27_7 : Bool), v27 = .bool x27_7 ∧ Aside0 (serinettelaw06_PcmBack.j0 kq l1 a2 a3 a4 t247 x27_7 a0_0 a0_1 l0_2 = some r) ∧ Aside0 (kq ≤ k) ∧ Aside0 (wc.heap[gb246]? = some (.cells #[.int .i64 a0_0, .int .i64 a0_1, (.slice A0_2 l0_2.length c0_2)] 24 (0, 0))) ∧ Aside0 (Below w.heap.size w wc))
  case first =>
    have H := HC8.out
    clear HC8
    by_cases c13 : t248 = true
    · subst c13
      have H1 : (serinettelaw06_PcmBack.j0 k l1 a2 a3 a4 t247 (decide ((l1.length : Int) > 300)) a0_0 a0_1 l0_2) = some r := by rw [if_pos rfl] at H; exact H
      clear H
      have H := H1
      clear H1
      have H' := Aside0.mk H
      clear H
      go_wp2
      go_meet
      case rel => exact ⟨_, (decide ((l1.length : Int) > 300)), (by first | rfl | (simp; done) | (simp only [i64_w, i32_w]; done) | (simp [*]; done) | (simp only [i64_w, i32_w]; first | rfl | (simp; done) | (simp [*]; done))), H', ⟨by first | omega | exact Nat.le_refl _⟩, ⟨by (with_reducible repeat (first | refine blk_drewN ?_ _ | refine blk_drew ?_ | refine blk_alloc ?_ _)); exact BK246.out⟩, ⟨by repeat (first | (with_reducible first | exact HB.out | apply below_alloc | apply pw_below_drewN | apply below_drew1 | refine below_set ?_ GE246.out) | exact HB.out)⟩⟩
    · replace c13 := Bool.eq_false_iff.mpr c13
      subst c13
      have H1 : (serinettelaw06_PcmBack.j0 k l1 a2 a3 a4 t247 true a0_0 a0_1 l0_2) = some r := by rw [if_neg (show ¬ (false = true) by decide)] at H; exact H
      clear H
      have H := H1
      clear H1
      have H' := Aside0.mk H
      clear H
      go_wp2
      go_meet
      case rel => exact ⟨_, (true), (by first | rfl | (simp; done) | (simp only [i64_w, i32_w]; done) | (simp [*]; done) | (simp only [i64_w, i32_w]; first | rfl | (simp; done) | (simp [*]; done))), H', ⟨by first | omega | exact Nat.le_refl _⟩, ⟨by (with_reducible repeat (first | refine blk_drewN ?_ _ | refine blk_drew ?_ | refine blk_alloc ?_ _)); exact BK246.out⟩, ⟨by repeat (first | (with_reducible first | exact HB.out | apply below_alloc | apply pw_below_drewN | apply below_drew1 | refine below_set ?_ GE246.out) | exact HB.out)⟩⟩
  case rest =>
    clear HC8
    try clear c1
    try clear p2
    try clear c6
    try clear c9
    try clear c10
    try clear c13
    try clear hcz11_0
    try clear hcz11_1
    try clear hcz11_2
    try clear hfz11_0
    try clear hfz11_1
    try clear hfz11_2
    obtain ⟨kq, x27_7, rfl, HA, HJ7, BK246, HB⟩ := hcut
    cases kq with
    | zero => exact absurd HA.out (by simp [serinettelaw06_PcmBack.j0])
    | succ kj7 =>
      have H := HA.out
      clear HA
      simp only [serinettelaw06_PcmBack.j0] at H
      by_cases c14 : x27_7 = true
      · subst c14
        have H1 : (some t247) = some r := by rw [if_pos rfl] at H; exact H
        clear H
        have H := H1
        clear H1
        obtain rfl := Option.some.inj H
        go_wp2
        go_ret
        exact ⟨by first | rfl | (simp [errW_none, errW_some] <;> rfl) | (simp [*, errW_none, errW_some] <;> rfl), by repeat (first | (with_reducible first | exact HB.out | apply below_alloc | apply pw_below_drewN | apply below_drew1 | refine below_set ?_ GE246.out) | exact HB.out)⟩
      · replace c14 := Bool.eq_false_iff.mpr c14
        subst c14
        have H1 : ((pcm_Check.f a0_0 a0_1 l0_2).bind fun t249 => (if t249 = 0 then ((pcm_Bytes.f a0_0 a0_1 l0_2).bind fun t250 => ((pcm_Unbytes.f kj7 t250 a0_0 a0_1 (l0_2.length : Int)).bind fun bt253 => (if bt253.2.2.2 = 0 then ((serinetteref06_Same.f kj7 a0_0 a0_1 l0_2 bt253.1 bt253.2.1 bt253.2.2.1).bind fun t260 => (if t260 = true then ((pcm_Each.f a0_1).bind fun t261 => ((pcm_Many.f a0_0 a0_1 l0_2).bind fun t262 => (if (t250.length : Int) = (wrap64 ((wrap64 (t261 * t262)) * (l0_2.length : Int))) then (serinettelaw06_PcmBack.j1 kj7 l1 a2 a3 a4 t247) else (some false)))) else (some false))) else (some false)))) else (serinettelaw06_PcmBack.j1 kj7 l1 a2 a3 a4 t247))) = some r := by rw [if_neg (show ¬ (false = true) by decide)] at H; exact H
        clear H
        have H := H1
        clear H1
        replace H := Option.bind_eq_some_iff.mp H
        obtain ⟨t249, A150, H⟩ := H
        replace H : (if t249 = 0 then ((pcm_Bytes.f a0_0 a0_1 l0_2).bind fun t250 => ((pcm_Unbytes.f kj7 t250 a0_0 a0_1 (l0_2.length : Int)).bind fun bt253 => (if bt253.2.2.2 = 0 then ((serinetteref06_Same.f kj7 a0_0 a0_1 l0_2 bt253.1 bt253.2.1 bt253.2.2.1).bind fun t260 => (if t260 = true then ((pcm_Each.f a0_1).bind fun t261 => ((pcm_Many.f a0_0 a0_1 l0_2).bind fun t262 => (if (t250.length : Int) = (wrap64 ((wrap64 (t261 * t262)) * (l0_2.length : Int))) then (serinettelaw06_PcmBack.j1 kj7 l1 a2 a3 a4 t247) else (some false)))) else (some false))) else (some false)))) else (serinettelaw06_PcmBack.j1 kj7 l1 a2 a3 a4 t247)) = some r := H
        have A15 := Aside0.mk A150
        clear A150
        have HC16 := Aside0.mk H
        clear H
        have hcz17_0 : wc.cell? ⟨gb246, 0, none⟩ = some (.int .i64 a0_0) := (blk_cell BK246.out 0).trans rfl
        have hcz17_1 : wc.cell? ⟨gb246, 1, none⟩ = some (.int .i64 a0_1) := (blk_cell BK246.out 1).trans rfl
        have hcz17_2 : wc.cell? ⟨gb246, 2, none⟩ = some (.slice A0_2 l0_2.length c0_2) := (blk_cell BK246.out 2).trans rfl
        have hfz17_0 := blk_frozen BK246.out 0
        have hfz17_1 := blk_frozen BK246.out 1
        have hfz17_2 := blk_frozen BK246.out 2
        go_upto_if 31 with (first | ((with_reducible refine gate_callee (f := 11) rfl ?_); refine goesL_ (some 30) rfl rfl Try.func11 (by kernel_rfl) rfl #[.agg #[.int .i64 a0_0, .int .i64 a0_1, .slice A0_2 l0_2.length c0_2]] rfl (by (try simp only [List.map_toArray, List.map_cons, List.map_nil]); first | done | rfl | (simp only [List.length_drop, List.length_take]; rfl)) ?_; (with_reducible refine (pcm_Check.calls a0_0 a0_1 _ _ l0_2 t249 _ ?side1 ?side2 A15.out).mono ?_); (case side1 => repeat (first | exact (Kd.C_below HR0_2.out HB.out) | (with_reducible refine Kd.C_alloc ?_ _) | (with_reducible refine Kd.C_drewN ?_ _) | (with_reducible refine Kd.C_drew ?_))); (case side2 => exact HC0_2.out); rintro e w18 ⟨rfl, hb⟩; refine ⟨_, rfl, ?_⟩; have n0_ := Aside0.mk (blk_below (g := gb246) (o := .cells #[.int .i64 a0_0, .int .i64 a0_1, .slice A0_2 l0_2.length c0_2] 24 (0, 0)) (by (with_reducible repeat (first | refine blk_drewN ?_ _ | refine blk_drew ?_ | refine blk_alloc ?_ _)); exact BK246.out) hb); have n1_ := Aside0.mk (below_step (by repeat (first | (with_reducible first | exact HB.out | apply below_alloc | apply pw_below_drewN | apply below_drew1 | refine below_set ?_ GE246.out) | exact HB.out)) hb); clear BK246; clear HB; have BK246 := n0_; have HB := n1_; clear n0_ n1_; (try clear hb); (try clear hb2); (try clear hk); (try clear hi)))
        (try simp only [Act.put, List.setIfInBounds_toArray, List.set_cons_zero, List.set_cons_succ])
        go_cut [] (fun wc => ∃ (kq : Nat), Aside0 (serinettelaw06_PcmBack.j1 kq l1 a2 a3 a4 t247 = some r) ∧ Aside0 (kq ≤ kj7) ∧ Aside0 (wc.heap[gb246]? = some (.cells #[.int .i64 a0_0, .int .i64 a0_1, (.slice A0_2 l0_2.length c0_2)] 24 (0, 0))) ∧ Aside0 (Below w.heap.size w wc))
        case first =>
          have H := HC16.out
          clear HC16
          by_cases c19 : t249 = 0
          · rw [if_pos c19] at H
            have c19b0 : (t249 == 0) = true := beq_iff_eq.mpr c19
            have c19b1 : (t249 != 0) = false := bne_eq_false_iff_eq.mpr c19
            clear c19
            (first | rw [c19b0] | (simp only [i64_w, i32_w]; rw [c19b0]) | skip)
            replace H := Option.bind_eq_some_iff.mp H
            obtain ⟨t250, A200, H⟩ := H
            replace H : ((pcm_Unbytes.f kj7 t250 a0_0 a0_1 (l0_2.length : Int)).bind fun bt253 => (if bt253.2.2.2 = 0 then ((serinetteref06_Same.f kj7 a0_0 a0_1 l0_2 bt253.1 bt253.2.1 bt253.2.2.1).bind fun t260 => (if t260 = true then ((pcm_Each.f a0_1).bind fun t261 => ((pcm_Many.f a0_0 a0_1 l0_2).bind fun t262 => (if (t250.length : Int) = (wrap64 ((wrap64 (t261 * t262)) * (l0_2.length : Int))) then (serinettelaw06_PcmBack.j1 kj7 l1 a2 a3 a4 t247) else (some false)))) else (some false))) else (some false))) = some r := H
            have A20 := Aside0.mk A200
            clear A200
            replace H := Option.bind_eq_some_iff.mp H
            obtain ⟨⟨t253, t254, t255, t258⟩, A210, H⟩ := H
            replace H : (if t258 = 0 then ((serinetteref06_Same.f kj7 a0_0 a0_1 l0_2 t253 t254 t255).bind fun t260 => (if t260 = true then ((pcm_Each.f a0_1).bind fun t261 => ((pcm_Many.f a0_0 a0_1 l0_2).bind fun t262 => (if (t250.length : Int) = (wrap64 ((wrap64 (t261 * t262)) * (l0_2.length : Int))) then (serinettelaw06_PcmBack.j1 kj7 l1 a2 a3 a4 t247) else (some false)))) else (some false))) else (some false)) = some r := H
            have A21 := Aside0.mk A210
            clear A210
            by_cases c22 : t258 = 0
            · rw [if_pos c22] at H
              have c22b0 : (t258 == 0) = true := beq_iff_eq.mpr c22
              have c22b1 : (t258 != 0) = false := bne_eq_false_iff_eq.mpr c22
              clear c22
              replace H := Option.bind_eq_some_iff.mp H
              obtain ⟨t260, A230, H⟩ := H
              replace H : (if t260 = true then ((pcm_Each.f a0_1).bind fun t261 => ((pcm_Many.f a0_0 a0_1 l0_2).bind fun t262 => (if (t250.length : Int) = (wrap64 ((wrap64 (t261 * t262)) * (l0_2.length : Int))) then (serinettelaw06_PcmBack.j1 kj7 l1 a2 a3 a4 t247) else (some false)))) else (some false)) = some r := H
              have A23 := Aside0.mk A230
              clear A230
              by_cases c24 : t260 = true
              · subst c24
                have H1 : ((pcm_Each.f a0_1).bind fun t261 => ((pcm_Many.f a0_0 a0_1 l0_2).bind fun t262 => (if (t250.length : Int) = (wrap64 ((wrap64 (t261 * t262)) * (l0_2.length : Int))) then (serinettelaw06_PcmBack.j1 kj7 l1 a2 a3 a4 t247) else (some false)))) = some r := by rw [if_pos rfl] at H; exact H
                clear H
                have H := H1
                clear H1
                replace H := Option.bind_eq_some_iff.mp H
                obtain ⟨t261, A250, H⟩ := H
                replace H : ((pcm_Many.f a0_0 a0_1 l0_2).bind fun t262 => (if (t250.length : Int) = (wrap64 ((wrap64 (t261 * t262)) * (l0_2.length : Int))) then (serinettelaw06_PcmBack.j1 kj7 l1 a2 a3 a4 t247) else (some false))) = some r := H
                have A25 := Aside0.mk A250
                clear A250
                replace H := Option.bind_eq_some_iff.mp H
                obtain ⟨t262, A260, H⟩ := H
                replace H : (if (t250.length : Int) = (wrap64 ((wrap64 (t261 * t262)) * (l0_2.length : Int))) then (serinettelaw06_PcmBack.j1 kj7 l1 a2 a3 a4 t247) else (some false)) = some r := H
                have A26 := Aside0.mk A260
                clear A260
                by_cases c27 : (t250.length : Int) = (wrap64 ((wrap64 (t261 * t262)) * (l0_2.length : Int)))
                · rw [if_pos c27] at H
                  have c27b0 : ((t250.length : Int) == (wrap64 ((wrap64 (t261 * t262)) * (l0_2.length : Int)))) = true := beq_iff_eq.mpr c27
                  have c27b1 : ((t250.length : Int) != (wrap64 ((wrap64 (t261 * t262)) * (l0_2.length : Int)))) = false := bne_eq_false_iff_eq.mpr c27
                  clear c27
                  have H' := Aside0.mk H
                  clear H
                  have hcz28_0 : w18.cell? ⟨gb246, 0, none⟩ = some (.int .i64 a0_0) := (blk_cell BK246.out 0).trans rfl
                  have hcz28_1 : w18.cell? ⟨gb246, 1, none⟩ = some (.int .i64 a0_1) := (blk_cell BK246.out 1).trans rfl
                  have hcz28_2 : w18.cell? ⟨gb246, 2, none⟩ = some (.slice A0_2 l0_2.length c0_2) := (blk_cell BK246.out 2).trans rfl
                  have hfz28_0 := blk_frozen BK246.out 0
                  have hfz28_1 := blk_frozen BK246.out 1
                  have hfz28_2 := blk_frozen BK246.out 2
                  try go_wp2_with (first | ((with_reducible refine gate_callee (f := 23) rfl ?_); refine goesL_ (some 33) rfl rfl Try.func23 (by kernel_rfl) rfl #[.agg #[.int .i64 a0_0, .int .i64 a0_1, .slice A0_2 l0_2.length c0_2]] rfl (by (try simp only [List.map_toArray, List.map_cons, List.map_nil]); first | done | rfl | (simp only [List.length_drop, List.length_take]; rfl)) ?_; (with_reducible refine (pcm_Bytes.calls a0_0 a0_1 _ _ l0_2 t250 _ ?side1 ?side2 A20.out).mono ?_); (case side1 => repeat (first | exact (Kd.C_below HR0_2.out HB.out) | (with_reducible refine Kd.C_alloc ?_ _) | (with_reducible refine Kd.C_drewN ?_ _) | (with_reducible refine Kd.C_drew ?_))); (case side2 => exact HC0_2.out); rintro e w29 ⟨v251, rfl, ho0, hb⟩; refine ⟨_, rfl, ?_⟩; have n0_ := Aside0.mk (Kd.R_lower ho0 (below_size (by repeat (first | (with_reducible first | exact HB.out | apply below_alloc | apply pw_below_drewN | apply below_drew1 | refine below_set ?_ GE246.out) | exact HB.out)))); have n1_ := Aside0.mk (blk_below (g := gb246) (o := .cells #[.int .i64 a0_0, .int .i64 a0_1, .slice A0_2 l0_2.length c0_2] 24 (0, 0)) (by (with_reducible repeat (first | refine blk_drewN ?_ _ | refine blk_drew ?_ | refine blk_alloc ?_ _)); exact BK246.out) hb); have n2_ := Aside0.mk (below_step (by repeat (first | (with_reducible first | exact HB.out | apply below_alloc | apply pw_below_drewN | apply below_drew1 | refine below_set ?_ GE246.out) | exact HB.out)) hb); clear BK246; clear HB; have HO252 := n0_; have BK246 := n1_; have HB := n2_; clear n0_ n1_ n2_; (try clear hb); (try clear hb2); (try clear hk); (try clear hi); (try clear ho0); have hcz30_0 : w29.cell? ⟨gb246, 0, none⟩ = some (.int .i64 a0_0) := (blk_cell BK246.out 0).trans rfl; have hcz30_1 : w29.cell? ⟨gb246, 1, none⟩ = some (.int .i64 a0_1) := (blk_cell BK246.out 1).trans rfl; have hcz30_2 : w29.cell? ⟨gb246, 2, none⟩ = some (.slice A0_2 l0_2.length c0_2) := (blk_cell BK246.out 2).trans rfl; have hfz30_0 := blk_frozen BK246.out 0; have hfz30_1 := blk_frozen BK246.out 1; have hfz30_2 := blk_frozen BK246.out 2; obtain ⟨Ao31, co31, eo31⟩ := Kd.R_slice HO252.out; subst eo31) | ((with_reducible refine gate_callee (f := 19) rfl ?_); refine goesL_ (some 43) rfl rfl Try.func19 (by kernel_rfl) rfl #[.slice Ao31 t250.length co31, .int .i64 a0_0, .int .i64 a0_1, .int .i64 (l0_2.length : Int)] rfl (by (try simp only [List.map_toArray, List.map_cons, List.map_nil]); first | done | rfl | (simp only [List.length_drop, List.length_take]; rfl)) ?_; (with_reducible refine (pcm_Unbytes.calls kj7 _ _ t250 a0_0 a0_1 (l0_2.length : Int) t253 t254 t255 t258 _ ?side1 ?side2 A21.out).mono ?_); (case side1 => repeat (first | exact (Kd.R_reads' HO252.out).2.2 | (with_reducible refine Kd.C_alloc ?_ _) | (with_reducible refine Kd.C_drewN ?_ _) | (with_reducible refine Kd.C_drew ?_))); (case side2 => exact (Kd.R_reads' HO252.out).2.1); rintro e w32 ⟨v256, rfl, ho0, hb⟩; refine ⟨_, rfl, ?_⟩; have n0_ := Aside0.mk (Kd.R_below (by (with_reducible repeat (first | apply Kd.R_alloc | apply Kd.R_drewN | apply Kd.R_drew)); exact HO252.out) hb); have n1_ := Aside0.mk (Kd.S_lower ho0 (below_size (by repeat (first | (with_reducible first | exact HB.out | apply below_alloc | apply pw_below_drewN | apply below_drew1 | refine below_set ?_ GE246.out) | exact HB.out)))); have n2_ := Aside0.mk (blk_below (g := gb246) (o := .cells #[.int .i64 a0_0, .int .i64 a0_1, .slice A0_2 l0_2.length c0_2] 24 (0, 0)) (by (with_reducible repeat (first | refine blk_drewN ?_ _ | refine blk_drew ?_ | refine blk_alloc ?_ _)); exact BK246.out) hb); have n3_ := Aside0.mk (below_step (by repeat (first | (with_reducible first | exact HB.out | apply below_alloc | apply pw_below_drewN | apply below_drew1 | refine below_set ?_ GE246.out) | exact HB.out)) hb); clear HO252; clear BK246; clear HB; have HO252 := n0_; have HO257 := n1_; have BK246 := n2_; have HB := n3_; clear n0_ n1_ n2_ n3_; (try clear hb); (try clear hb2); (try clear hk); (try clear hi); (try clear ho0)) | ((with_reducible refine gate_dst (N := 14) rfl ?_); (try (refine gate_guard (by rfl) ?_; dsimp only)); refine box_event ?hg (N := 14) ?hd (cs := #[.int .i64 0, .int .i64 0, .slice none 0 0]) (t := 24) ?hr ?_; (case hd => rfl); (case hg => rfl); (case hr => first | (go_simp; done) | (go_simp; rfl)); intro gb259 hg w33 hbox hb; have n0_ := Aside0.mk (Kd.R_below (by (with_reducible repeat (first | apply Kd.R_alloc | apply Kd.R_drewN | apply Kd.R_drew)); exact HO252.out) hb); have n1_ := Aside0.mk (Kd.S_below (by (with_reducible repeat (first | apply Kd.S_alloc | apply Kd.S_drewN | apply Kd.S_drew)); exact HO257.out) hb); have n2_ := Aside0.mk (blk_below (g := gb246) (o := .cells #[.int .i64 a0_0, .int .i64 a0_1, .slice A0_2 l0_2.length c0_2] 24 (0, 0)) (by (with_reducible repeat (first | refine blk_drewN ?_ _ | refine blk_drew ?_ | refine blk_alloc ?_ _)); exact BK246.out) hb); have n3_ := Aside0.mk (below_step (by repeat (first | (with_reducible first | exact HB.out | apply below_alloc | apply pw_below_drewN | apply below_drew1 | refine below_set ?_ GE246.out) | exact HB.out)) hb); have n4_ := Aside0.mk (hbox); have n5_ := Aside0.mk ((by rw [hg]; exact (below_size (by repeat (first | (with_reducible first | exact HB.out | apply below_alloc | apply pw_below_drewN | apply below_drew1 | refine below_set ?_ GE246.out) | exact HB.out))) : w.heap.size ≤ gb259)); have n6_ := Aside0.mk ((by rw [hg]; exact (below_size (by repeat (first | (with_reducible first | exact HB.out | apply below_alloc | apply pw_below_drewN | apply below_drew1 | refine below_set ?_ GE246.out) | exact HB.out))) : w.heap.size ≤ gb259)); have n7_ := Aside0.mk ((by rw [hg]; exact Nat.ne_of_lt (blk_lt (g := gb246) (o := .cells #[.int .i64 a0_0, .int .i64 a0_1, .slice A0_2 l0_2.length c0_2] 24 (0, 0)) (by (with_reducible repeat (first | refine blk_drewN ?_ _ | refine blk_drew ?_ | refine blk_alloc ?_ _)); exact BK246.out)) : gb246 ≠ gb259)); have n8_ := Aside0.mk ((by rw [hg]; exact Nat.ne_of_gt (blk_lt (g := gb246) (o := .cells #[.int .i64 a0_0, .int .i64 a0_1, .slice A0_2 l0_2.length c0_2] 24 (0, 0)) (by (with_reducible repeat (first | refine blk_drewN ?_ _ | refine blk_drew ?_ | refine blk_alloc ?_ _)); exact BK246.out)) : gb259 ≠ gb246)); clear HO252; clear HO257; clear BK246; clear HB; have HO252 := n0_; have HO257 := n1_; have BK246 := n2_; have HB := n3_; have BK259 := n4_; have GW259 := n5_; have GE259 := n6_; have NB246_259 := n7_; have NB259_246 := n8_; clear n0_ n1_ n2_ n3_ n4_ n5_ n6_ n7_ n8_; clear hb hbox hg; have hnb34 := NB259_246.out; have hnc34 := NB246_259.out; have hcz35_0 : w33.cell? ⟨gb259, 0, none⟩ = some (.int .i64 0) := (blk_cell BK259.out 0).trans rfl; have hcz35_1 : w33.cell? ⟨gb259, 1, none⟩ = some (.int .i64 0) := (blk_cell BK259.out 1).trans rfl; have hcz35_2 : w33.cell? ⟨gb259, 2, none⟩ = some (.slice none 0 0) := (blk_cell BK259.out 2).trans rfl; have hfz35_0 := blk_frozen BK259.out 0; have hfz35_1 := blk_frozen BK259.out 1; have hfz35_2 := blk_frozen BK259.out 2; obtain ⟨Ao36, co36, eo36⟩ := Kd.S_slice HO257.out; subst eo36))
                  have n0_ : Aside0 (Kd.R (Kd.int .u8) 5 (((w33.setCell ⟨gb259, 0, none⟩ (.int .i64 t253)).setCell ⟨gb259, 1, none⟩ (.int .i64 t254)).setCell ⟨gb259, 2, none⟩ (.slice Ao36 t255.length co36)) w.heap.size (fun _ => True) (.slice Ao31 t250.length co31) t250) := ⟨by (with_reducible repeat (first | apply Kd.R_alloc | apply Kd.R_drewN | apply Kd.R_drew)); exact Kd.R_mono (Kd.R_far (p := ⟨gb259, 2, none⟩) (Kd.R_far (p := ⟨gb259, 1, none⟩) (Kd.R_far (p := ⟨gb259, 0, none⟩) (Kd.R_types HO252.out BK259.out (by decide)) (fun _ hk => hk.2) (.int .i64 t253)) (fun _ hk => hk.2) (.int .i64 t254)) (fun _ hk => hk.2) (.slice Ao36 t255.length co36)) (fun _ hk => trivial)⟩
                  have n1_ : Aside0 (Kd.S (Kd.slice 3 (Kd.int .i64)) 45 (((w33.setCell ⟨gb259, 0, none⟩ (.int .i64 t253)).setCell ⟨gb259, 1, none⟩ (.int .i64 t254)).setCell ⟨gb259, 2, none⟩ (.slice Ao36 t255.length co36)) w.heap.size (fun _ => True) (.slice Ao36 t255.length co36) t255) := ⟨by (with_reducible repeat (first | apply Kd.S_alloc | apply Kd.S_drewN | apply Kd.S_drew)); exact Kd.S_mono (Kd.S_far (p := ⟨gb259, 2, none⟩) (Kd.S_far (p := ⟨gb259, 1, none⟩) (Kd.S_far (p := ⟨gb259, 0, none⟩) (Kd.S_types HO257.out BK259.out (by decide)) (fun _ hk => hk.2) (.int .i64 t253)) (fun _ hk => hk.2) (.int .i64 t254)) (fun _ hk => hk.2) (.slice Ao36 t255.length co36)) (fun _ hk => trivial)⟩
                  have n2_ : Aside0 ((((w33.setCell ⟨gb259, 0, none⟩ (.int .i64 t253)).setCell ⟨gb259, 1, none⟩ (.int .i64 t254)).setCell ⟨gb259, 2, none⟩ (.slice Ao36 t255.length co36)).heap[gb246]? = some (.cells #[.int .i64 a0_0, .int .i64 a0_1, .slice A0_2 l0_2.length c0_2] 24 (0, 0))) := ⟨by (with_reducible repeat (first | refine blk_drewN ?_ _ | refine blk_drew ?_ | refine blk_alloc ?_ _)); refine blk_far ?_ NB246_259.out _; (with_reducible repeat (first | refine blk_drewN ?_ _ | refine blk_drew ?_ | refine blk_alloc ?_ _)); refine blk_far ?_ NB246_259.out _; (with_reducible repeat (first | refine blk_drewN ?_ _ | refine blk_drew ?_ | refine blk_alloc ?_ _)); refine blk_far ?_ NB246_259.out _; (with_reducible repeat (first | refine blk_drewN ?_ _ | refine blk_drew ?_ | refine blk_alloc ?_ _)); exact BK246.out⟩
                  have n3_ : Aside0 ((((w33.setCell ⟨gb259, 0, none⟩ (.int .i64 t253)).setCell ⟨gb259, 1, none⟩ (.int .i64 t254)).setCell ⟨gb259, 2, none⟩ (.slice Ao36 t255.length co36)).heap[gb259]? = some (.cells #[.int .i64 t253, .int .i64 t254, .slice Ao36 t255.length co36] 24 (0, 0))) := ⟨by (with_reducible repeat (first | refine blk_drewN ?_ _ | refine blk_drew ?_ | refine blk_alloc ?_ _)); refine blk_put (cs := #[.int .i64 t253, .int .i64 t254, .slice none 0 0]) ?_ 2 _ rfl; (with_reducible repeat (first | refine blk_drewN ?_ _ | refine blk_drew ?_ | refine blk_alloc ?_ _)); refine blk_put (cs := #[.int .i64 t253, .int .i64 0, .slice none 0 0]) ?_ 1 _ rfl; (with_reducible repeat (first | refine blk_drewN ?_ _ | refine blk_drew ?_ | refine blk_alloc ?_ _)); refine blk_put (cs := #[.int .i64 0, .int .i64 0, .slice none 0 0]) ?_ 0 _ rfl; (with_reducible repeat (first | refine blk_drewN ?_ _ | refine blk_drew ?_ | refine blk_alloc ?_ _)); exact BK259.out⟩
                  have n4_ : Aside0 (Below w.heap.size w (((w33.setCell ⟨gb259, 0, none⟩ (.int .i64 t253)).setCell ⟨gb259, 1, none⟩ (.int .i64 t254)).setCell ⟨gb259, 2, none⟩ (.slice Ao36 t255.length co36))) := ⟨by repeat (first | (with_reducible first | exact HB.out | apply below_alloc | apply pw_below_drewN | apply below_drew1 | refine below_set ?_ GE246.out | refine below_set ?_ GE259.out) | exact HB.out)⟩
                  (try clear HO252)
                  (try clear HO257)
                  (try clear BK246)
                  (try clear BK259)
                  (try clear HB)
                  generalize (((w33.setCell ⟨gb259, 0, none⟩ (.int .i64 t253)).setCell ⟨gb259, 1, none⟩ (.int .i64 t254)).setCell ⟨gb259, 2, none⟩ (.slice Ao36 t255.length co36)) = w37 at n0_ n1_ n2_ n3_ n4_ ⊢
                  have HO252 := n0_
                  have HO257 := n1_
                  have BK246 := n2_
                  have BK259 := n3_
                  have HB := n4_
                  clear n0_ n1_ n2_ n3_ n4_
                  have n0_ := Aside0.mk (Kd.R_drew HO252.out)
                  have n1_ := Aside0.mk (Kd.S_drew HO257.out)
                  have n2_ := Aside0.mk (blk_drew BK246.out)
                  have n3_ := Aside0.mk (blk_drew BK259.out)
                  have n4_ := Aside0.mk (below_drew1 HB.out)
                  clear HO252
                  clear HO257
                  clear BK246
                  clear BK259
                  clear HB
                  have HO252 := n0_
                  have HO257 := n1_
                  have BK246 := n2_
                  have BK259 := n3_
                  have HB := n4_
                  clear n0_ n1_ n2_ n3_ n4_
                  refine start_ (n := 23) (S := fun w' => w'.cell? ⟨gb246, 0, none⟩ = some (.int .i64 a0_0) ∧ w'.cell? ⟨gb246, 1, none⟩ = some (.int .i64 a0_1) ∧ w'.cell? ⟨gb246, 2, none⟩ = some (.slice A0_2 l0_2.length c0_2) ∧ w'.cell? ⟨gb259, 0, none⟩ = some (.int .i64 t253) ∧ w'.cell? ⟨gb259, 1, none⟩ = some (.int .i64 t254) ∧ w'.cell? ⟨gb259, 2, none⟩ = some (.slice Ao36 t255.length co36)) (ds := []) #[false, false, false, false, false, false, false, false, false, false, false, false, false, false, false, false, false, false, false, false, false, false, false] (by kernel_rfl) rfl rfl ⟨(blk_cell BK246.out 0).trans rfl, (blk_cell BK246.out 1).trans rfl, (blk_cell BK246.out 2).trans rfl, (blk_cell BK259.out 0).trans rfl, (blk_cell BK259.out 1).trans rfl, (blk_cell BK259.out 2).trans rfl⟩ (fun hHeld => ?_); refine with_tabW serinettelaw06_PcmBack.tab8 serinettelaw06_PcmBack.bits8 (fun HT_ HW_ => ?_)
                  generalize w37.drew = w38 at HO252 HO257 BK246 BK259 HB hHeld ⊢
                  refine pure_ (i := 0) (N := some 46) (v := ?_) (a' := ?_) #[true, false, false, false, false, false, false, false, false, false, false, false, false, false, false, false, false, false, false, false, false, false, false] rfl rfl (any_of HT_.out (by kernel_rfl)) (fun _ _ _ h => h) (Or.inl ⟨by rfl, ?_⟩) ?_ ?_
                  rotate_left
                  · intro w'
                    go_simp
                    with_reducible rfl
                  rotate_left
                  · simp only [Act.put, List.setIfInBounds_toArray, List.set_cons_zero, List.set_cons_succ, i64_w, i32_w]
                    rfl
                  refine pure_ (i := 1) (N := some 47) (v := ?_) (a' := ?_) #[true, true, false, false, false, false, false, false, false, false, false, false, false, false, false, false, false, false, false, false, false, false, false] rfl rfl (any_of HT_.out (by kernel_rfl)) (fun _ _ _ h => h) (Or.inl ⟨by rfl, ?_⟩) ?_ ?_
                  rotate_left
                  · intro w'
                    go_simp
                    with_reducible rfl
                  rotate_left
                  · simp only [Act.put, List.setIfInBounds_toArray, List.set_cons_zero, List.set_cons_succ, i64_w, i32_w]
                    rfl
                  refine pure_ (i := 2) (N := some 48) (v := ?_) (a' := ?_) #[true, true, true, false, false, false, false, false, false, false, false, false, false, false, false, false, false, false, false, false, false, false, false] rfl rfl (any_of HT_.out (by kernel_rfl)) (fun _ _ _ h => h) (Or.inl ⟨by rfl, ?_⟩) ?_ ?_
                  rotate_left
                  · intro w'
                    go_simp
                    with_reducible rfl
                  rotate_left
                  · simp only [Act.put, List.setIfInBounds_toArray, List.set_cons_zero, List.set_cons_succ, i64_w, i32_w]
                    rfl
                  refine take_ (i := 3) (N := some 49) (v := ?_) (a' := ?_) #[true, true, true, true, false, false, false, false, false, false, false, false, false, false, false, false, false, false, false, false, false, false, false] rfl rfl (take_ofW HT_.out HW_.out (by kernel_rfl)) (fun _ _ _ h => h) (Or.inl ⟨by rfl, ?_⟩) hHeld ?_ ?_
                  rotate_left
                  · rintro w' ⟨s0, s1, s2, s3, s4, s5⟩
                    go_simp
                    with_reducible rfl
                  rotate_left
                  · simp only [Act.put, List.setIfInBounds_toArray, List.set_cons_zero, List.set_cons_succ, i64_w, i32_w]
                    rfl
                  refine take_ (i := 4) (N := some 50) (v := ?_) (a' := ?_) #[true, true, true, true, true, false, false, false, false, false, false, false, false, false, false, false, false, false, false, false, false, false, false] rfl rfl (take_ofW HT_.out HW_.out (by kernel_rfl)) (fun _ _ _ h => h) (Or.inl ⟨by rfl, ?_⟩) hHeld ?_ ?_
                  rotate_left
                  · rintro w' ⟨s0, s1, s2, s3, s4, s5⟩
                    go_simp
                    with_reducible rfl
                  rotate_left
                  · simp only [Act.put, List.setIfInBounds_toArray, List.set_cons_zero, List.set_cons_succ, i64_w, i32_w]
                    rfl
                  refine one_ (i := 5) (N := some 51) #[true, true, true, true, true, true, false, false, false, false, false, false, false, false, false, false, false, false, false, false, false, false, false] rfl rfl (one_of HT_.out (by kernel_rfl)) (by decide) (fun K hK => ?_)
                  refine goes_ Try.func21 (by kernel_rfl) rfl #[.agg #[.int .i64 a0_0, .int .i64 a0_1, .slice A0_2 l0_2.length c0_2], .agg #[.int .i64 t253, .int .i64 t254, .slice Ao36 t255.length co36]] (by rfl) rfl rfl (by (try simp only [List.map_toArray, List.map_cons, List.map_nil]); first | done | rfl | (simp only [List.length_drop, List.length_take]; rfl)) ?_
                  with_reducible refine (serinetteref06_Same.calls kj7 a0_0 a0_1 _ _ l0_2 t253 t254 _ _ t255 true _ ?side1 ?side2 ?side3 ?side4 A23.out).mono ?_
                  (case side1 => repeat (first | exact (Kd.C_below HR0_2.out HB.out) | (with_reducible refine Kd.C_alloc ?_ _) | (with_reducible refine Kd.C_drewN ?_ _) | (with_reducible refine Kd.C_drew ?_)))
                  (case side2 => exact HC0_2.out)
                  (case side3 => repeat (first | exact (Kd.S_reads' HO257.out).2.2 | (with_reducible refine Kd.C_alloc ?_ _) | (with_reducible refine Kd.C_drewN ?_ _) | (with_reducible refine Kd.C_drew ?_)))
                  (case side4 => exact (Kd.S_reads' HO257.out).2.1)
                  rintro e w39 ⟨rfl, hb⟩
                  refine ⟨_, rfl, ?_⟩
                  have n0_ := Aside0.mk (Kd.R_below (by (with_reducible repeat (first | apply Kd.R_alloc | apply Kd.R_drewN | apply Kd.R_drew)); exact HO252.out) hb)
                  have n1_ := Aside0.mk (Kd.S_below (by (with_reducible repeat (first | apply Kd.S_alloc | apply Kd.S_drewN | apply Kd.S_drew)); exact HO257.out) hb)
                  have n2_ := Aside0.mk (blk_below (g := gb246) (o := .cells #[.int .i64 a0_0, .int .i64 a0_1, .slice A0_2 l0_2.length c0_2] 24 (0, 0)) (by (with_reducible repeat (first | refine blk_drewN ?_ _ | refine blk_drew ?_ | refine blk_alloc ?_ _)); exact BK246.out) hb)
                  have n3_ := Aside0.mk (blk_below (g := gb259) (o := .cells #[.int .i64 t253, .int .i64 t254, .slice Ao36 t255.length co36] 24 (0, 0)) (by (with_reducible repeat (first | refine blk_drewN ?_ _ | refine blk_drew ?_ | refine blk_alloc ?_ _)); exact BK259.out) hb)
                  have n4_ := Aside0.mk (below_step (by repeat (first | (with_reducible first | exact HB.out | apply below_alloc | apply pw_below_drewN | apply below_drew1 | refine below_set ?_ GE246.out | refine below_set ?_ GE259.out) | exact HB.out)) hb)
                  clear HO252
                  clear HO257
                  clear BK246
                  clear BK259
                  clear HB
                  have HO252 := n0_
                  have HO257 := n1_
                  have BK246 := n2_
                  have BK259 := n3_
                  have HB := n4_
                  clear n0_ n1_ n2_ n3_ n4_
                  (try clear hb)
                  (try clear hb2)
                  (try clear hk)
                  (try clear hi)
                  refine hK.out _ _ ⟨(blk_cell BK246.out 0).trans rfl, (blk_cell BK246.out 1).trans rfl, (blk_cell BK246.out 2).trans rfl, (blk_cell BK259.out 0).trans rfl, (blk_cell BK259.out 1).trans rfl, (blk_cell BK259.out 2).trans rfl⟩ (fun hHeld => ?_)
                  clear hK K
                  refine norm_ (a' := ?_) ?_ ?_
                  rotate_left
                  · show Act.put _ (some 51) _ = _
                    simp only [Act.put, List.setIfInBounds_toArray, List.set_cons_zero, List.set_cons_succ, i64_w, i32_w]
                    rfl
                  refine pure_ (i := 6) (N := some 52) (v := ?_) (a' := ?_) #[true, true, true, true, true, true, true, false, false, false, false, false, false, false, false, false, false, false, false, false, false, false, false] rfl rfl (any_of HT_.out (by kernel_rfl)) (fun _ _ _ h => h) (Or.inl ⟨by rfl, ?_⟩) ?_ ?_
                  rotate_left
                  · intro w'
                    go_simp
                    with_reducible rfl
                  rotate_left
                  · simp only [Act.put, List.setIfInBounds_toArray, List.set_cons_zero, List.set_cons_succ, i64_w, i32_w]
                    rfl
                  refine pure_ (i := 7) (N := some 53) (v := ?_) (a' := ?_) #[true, true, true, true, true, true, true, true, false, false, false, false, false, false, false, false, false, false, false, false, false, false, false] rfl rfl (any_of HT_.out (by kernel_rfl)) (fun _ _ _ h => h) (Or.inl ⟨by rfl, ?_⟩) ?_ ?_
                  rotate_left
                  · intro w'
                    go_simp
                    with_reducible rfl
                  rotate_left
                  · simp only [Act.put, List.setIfInBounds_toArray, List.set_cons_zero, List.set_cons_succ, i64_w, i32_w]
                    rfl
                  refine pure_ (i := 8) (N := some 54) (v := ?_) (a' := ?_) #[true, true, true, true, true, true, true, true, true, false, false, false, false, false, false, false, false, false, false, false, false, false, false] rfl rfl (any_of HT_.out (by kernel_rfl)) (fun _ _ _ h => h) (Or.inl ⟨by rfl, ?_⟩) ?_ ?_
                  rotate_left
                  · intro w'
                    go_simp
                    with_reducible rfl
                  rotate_left
                  · simp only [Act.put, List.setIfInBounds_toArray, List.set_cons_zero, List.set_cons_succ, i64_w, i32_w]
                    rfl
                  refine pure_ (i := 9) (N := some 55) (v := ?_) (a' := ?_) #[true, true, true, true, true, true, true, true, true, true, false, false, false, false, false, false, false, false, false, false, false, false, false] rfl rfl (any_of HT_.out (by kernel_rfl)) (fun _ _ _ h => h) (Or.inl ⟨by rfl, ?_⟩) ?_ ?_
                  rotate_left
                  · intro w'
                    go_simp
                    with_reducible rfl
                  rotate_left
                  · simp only [Act.put, List.setIfInBounds_toArray, List.set_cons_zero, List.set_cons_succ, i64_w, i32_w]
                    rfl
                  refine pure_ (i := 10) (N := some 56) (v := ?_) (a' := ?_) #[true, true, true, true, true, true, true, true, true, true, true, false, false, false, false, false, false, false, false, false, false, false, false] rfl rfl (any_of HT_.out (by kernel_rfl)) (fun _ _ _ h => h) (Or.inl ⟨by rfl, ?_⟩) ?_ ?_
                  rotate_left
                  · intro w'
                    go_simp
                    with_reducible rfl
                  rotate_left
                  · simp only [Act.put, List.setIfInBounds_toArray, List.set_cons_zero, List.set_cons_succ, i64_w, i32_w]
                    rfl
                  refine pure_ (i := 11) (N := some 57) (v := ?_) (a' := ?_) #[true, true, true, true, true, true, true, true, true, true, true, true, false, false, false, false, false, false, false, false, false, false, false] rfl rfl (any_of HT_.out (by kernel_rfl)) (fun _ _ _ h => h) (Or.inl ⟨by rfl, ?_⟩) ?_ ?_
                  rotate_left
                  · intro w'
                    go_simp
                    with_reducible rfl
                  rotate_left
                  · simp only [Act.put, List.setIfInBounds_toArray, List.set_cons_zero, List.set_cons_succ, i64_w, i32_w]
                    rfl
                  refine pure_ (i := 17) (N := some 63) (v := ?_) (a' := ?_) #[true, true, true, true, true, true, true, true, true, true, true, true, false, false, false, false, false, true, false, false, false, false, false] rfl rfl (any_of HT_.out (by kernel_rfl)) (fun _ _ _ h => h) (Or.inl ⟨by rfl, ?_⟩) ?_ ?_
                  rotate_left
                  · intro w'
                    go_simp
                    with_reducible rfl
                  rotate_left
                  · simp only [Act.put, List.setIfInBounds_toArray, List.set_cons_zero, List.set_cons_succ, i64_w, i32_w]
                    rfl
                  refine take_ (i := 12) (N := some 58) (v := ?_) (a' := ?_) #[true, true, true, true, true, true, true, true, true, true, true, true, true, false, false, false, false, true, false, false, false, false, false] rfl rfl (take_ofW HT_.out HW_.out (by kernel_rfl)) (fun _ _ _ h => h) (Or.inl ⟨by rfl, ?_⟩) hHeld ?_ ?_
                  rotate_left
                  · rintro w' ⟨s0, s1, s2, s3, s4, s5⟩
                    go_simp
                    with_reducible rfl
                  rotate_left
                  · simp only [Act.put, List.setIfInBounds_toArray, List.set_cons_zero, List.set_cons_succ, i64_w, i32_w]
                    rfl
                  refine take_ (i := 14) (N := some 60) (v := ?_) (a' := ?_) #[true, true, true, true, true, true, true, true, true, true, true, true, true, false, true, false, false, true, false, false, false, false, false] rfl rfl (take_ofW HT_.out HW_.out (by kernel_rfl)) (fun _ _ _ h => h) (Or.inl ⟨by rfl, ?_⟩) hHeld ?_ ?_
                  rotate_left
                  · rintro w' ⟨s0, s1, s2, s3, s4, s5⟩
                    go_simp
                    with_reducible rfl
                  rotate_left
                  · simp only [Act.put, List.setIfInBounds_toArray, List.set_cons_zero, List.set_cons_succ, i64_w, i32_w]
                    rfl
                  refine take_ (i := 18) (N := some 64) (v := ?_) (a' := ?_) #[true, true, true, true, true, true, true, true, true, true, true, true, true, false, true, false, false, true, true, false, false, false, false] rfl rfl (take_ofW HT_.out HW_.out (by kernel_rfl)) (fun _ _ _ h => h) (Or.inl ⟨by rfl, ?_⟩) hHeld ?_ ?_
                  rotate_left
                  · rintro w' ⟨s0, s1, s2, s3, s4, s5⟩
                    go_simp
                    with_reducible rfl
                  rotate_left
                  · simp only [Act.put, List.setIfInBounds_toArray, List.set_cons_zero, List.set_cons_succ, i64_w, i32_w]
                    rfl
                  refine pure_ (i := 19) (N := some 65) (v := ?_) (a' := ?_) #[true, true, true, true, true, true, true, true, true, true, true, true, true, false, true, false, false, true, true, true, false, false, false] rfl rfl (any_of HT_.out (by kernel_rfl)) (fun _ _ _ h => h) (Or.inl ⟨by rfl, ?_⟩) ?_ ?_
                  rotate_left
                  · intro w'
                    go_simp
                    with_reducible rfl
                  rotate_left
                  · simp only [Act.put, List.setIfInBounds_toArray, List.set_cons_zero, List.set_cons_succ, i64_w, i32_w]
                    rfl
                  refine one_ (i := 13) (N := some 59) #[true, true, true, true, true, true, true, true, true, true, true, true, true, true, true, false, false, true, true, true, false, false, false] rfl rfl (one_of HT_.out (by kernel_rfl)) (by decide) (fun K hK => ?_)
                  refine goes_ Try.func17 (by kernel_rfl) rfl #[.int .i64 a0_1] (by rfl) rfl rfl (by (try simp only [List.map_toArray, List.map_cons, List.map_nil]); first | done | rfl | (simp only [List.length_drop, List.length_take]; rfl)) ?_
                  with_reducible refine (pcm_Each.calls a0_1 t261 _ A25.out).mono ?_
                  rintro e w40 ⟨rfl, hb⟩
                  refine ⟨_, rfl, ?_⟩
                  have n0_ := Aside0.mk (Kd.R_below (by (with_reducible repeat (first | apply Kd.R_alloc | apply Kd.R_drewN | apply Kd.R_drew)); exact HO252.out) hb)
                  have n1_ := Aside0.mk (Kd.S_below (by (with_reducible repeat (first | apply Kd.S_alloc | apply Kd.S_drewN | apply Kd.S_drew)); exact HO257.out) hb)
                  have n2_ := Aside0.mk (blk_below (g := gb246) (o := .cells #[.int .i64 a0_0, .int .i64 a0_1, .slice A0_2 l0_2.length c0_2] 24 (0, 0)) (by (with_reducible repeat (first | refine blk_drewN ?_ _ | refine blk_drew ?_ | refine blk_alloc ?_ _)); exact BK246.out) hb)
                  have n3_ := Aside0.mk (blk_below (g := gb259) (o := .cells #[.int .i64 t253, .int .i64 t254, .slice Ao36 t255.length co36] 24 (0, 0)) (by (with_reducible repeat (first | refine blk_drewN ?_ _ | refine blk_drew ?_ | refine blk_alloc ?_ _)); exact BK259.out) hb)
                  have n4_ := Aside0.mk (below_step (by repeat (first | (with_reducible first | exact HB.out | apply below_alloc | apply pw_below_drewN | apply below_drew1 | refine below_set ?_ GE246.out | refine below_set ?_ GE259.out) | exact HB.out)) hb)
                  clear HO252
                  clear HO257
                  clear BK246
                  clear BK259
                  clear HB
                  have HO252 := n0_
                  have HO257 := n1_
                  have BK246 := n2_
                  have BK259 := n3_
                  have HB := n4_
                  clear n0_ n1_ n2_ n3_ n4_
                  (try clear hb)
                  (try clear hb2)
                  (try clear hk)
                  (try clear hi)
                  refine hK.out _ _ ⟨(blk_cell BK246.out 0).trans rfl, (blk_cell BK246.out 1).trans rfl, (blk_cell BK246.out 2).trans rfl, (blk_cell BK259.out 0).trans rfl, (blk_cell BK259.out 1).trans rfl, (blk_cell BK259.out 2).trans rfl⟩ (fun hHeld => ?_)
                  clear hK K
                  refine norm_ (a' := ?_) ?_ ?_
                  rotate_left
                  · show Act.put _ (some 59) _ = _
                    simp only [Act.put, List.setIfInBounds_toArray, List.set_cons_zero, List.set_cons_succ, i64_w, i32_w]
                    rfl
                  refine one_ (i := 15) (N := some 61) #[true, true, true, true, true, true, true, true, true, true, true, true, true, true, true, true, false, true, true, true, false, false, false] rfl rfl (one_of HT_.out (by kernel_rfl)) (by decide) (fun K hK => ?_)
                  refine goes_ Try.func13 (by kernel_rfl) rfl #[.agg #[.int .i64 a0_0, .int .i64 a0_1, .slice A0_2 l0_2.length c0_2]] (by rfl) rfl rfl (by (try simp only [List.map_toArray, List.map_cons, List.map_nil]); first | done | rfl | (simp only [List.length_drop, List.length_take]; rfl)) ?_
                  with_reducible refine (pcm_Many.calls a0_0 a0_1 _ _ l0_2 t262 _ ?side1 ?side2 A26.out).mono ?_
                  (case side1 => repeat (first | exact (Kd.C_below HR0_2.out HB.out) | (with_reducible refine Kd.C_alloc ?_ _) | (with_reducible refine Kd.C_drewN ?_ _) | (with_reducible refine Kd.C_drew ?_)))
                  (case side2 => exact HC0_2.out)
                  rintro e w41 ⟨rfl, hb⟩
                  refine ⟨_, rfl, ?_⟩
                  have n0_ := Aside0.mk (Kd.R_below (by (with_reducible repeat (first | apply Kd.R_alloc | apply Kd.R_drewN | apply Kd.R_drew)); exact HO252.out) hb)
                  have n1_ := Aside0.mk (Kd.S_below (by (with_reducible repeat (first | apply Kd.S_alloc | apply Kd.S_drewN | apply Kd.S_drew)); exact HO257.out) hb)
                  have n2_ := Aside0.mk (blk_below (g := gb246) (o := .cells #[.int .i64 a0_0, .int .i64 a0_1, .slice A0_2 l0_2.length c0_2] 24 (0, 0)) (by (with_reducible repeat (first | refine blk_drewN ?_ _ | refine blk_drew ?_ | refine blk_alloc ?_ _)); exact BK246.out) hb)
                  have n3_ := Aside0.mk (blk_below (g := gb259) (o := .cells #[.int .i64 t253, .int .i64 t254, .slice Ao36 t255.length co36] 24 (0, 0)) (by (with_reducible repeat (first | refine blk_drewN ?_ _ | refine blk_drew ?_ | refine blk_alloc ?_ _)); exact BK259.out) hb)
                  have n4_ := Aside0.mk (below_step (by repeat (first | (with_reducible first | exact HB.out | apply below_alloc | apply pw_below_drewN | apply below_drew1 | refine below_set ?_ GE246.out | refine below_set ?_ GE259.out) | exact HB.out)) hb)
                  clear HO252
                  clear HO257
                  clear BK246
                  clear BK259
                  clear HB
                  have HO252 := n0_
                  have HO257 := n1_
                  have BK246 := n2_
                  have BK259 := n3_
                  have HB := n4_
                  clear n0_ n1_ n2_ n3_ n4_
                  (try clear hb)
                  (try clear hb2)
                  (try clear hk)
                  (try clear hi)
                  refine hK.out _ _ ⟨(blk_cell BK246.out 0).trans rfl, (blk_cell BK246.out 1).trans rfl, (blk_cell BK246.out 2).trans rfl, (blk_cell BK259.out 0).trans rfl, (blk_cell BK259.out 1).trans rfl, (blk_cell BK259.out 2).trans rfl⟩ (fun hHeld => ?_)
                  clear hK K
                  refine norm_ (a' := ?_) ?_ ?_
                  rotate_left
                  · show Act.put _ (some 61) _ = _
                    simp only [Act.put, List.setIfInBounds_toArray, List.set_cons_zero, List.set_cons_succ, i64_w, i32_w]
                    rfl
                  refine pure_ (i := 16) (N := some 62) (v := ?_) (a' := ?_) #[true, true, true, true, true, true, true, true, true, true, true, true, true, true, true, true, true, true, true, true, false, false, false] rfl rfl (any_of HT_.out (by kernel_rfl)) (fun _ _ _ h => h) (Or.inl ⟨by rfl, ?_⟩) ?_ ?_
                  rotate_left
                  · intro w'
                    go_simp
                    with_reducible rfl
                  rotate_left
                  · simp only [Act.put, List.setIfInBounds_toArray, List.set_cons_zero, List.set_cons_succ, i64_w, i32_w]
                    rfl
                  refine pure_ (i := 20) (N := some 66) (v := ?_) (a' := ?_) #[true, true, true, true, true, true, true, true, true, true, true, true, true, true, true, true, true, true, true, true, true, false, false] rfl rfl (any_of HT_.out (by kernel_rfl)) (fun _ _ _ h => h) (Or.inl ⟨by rfl, ?_⟩) ?_ ?_
                  rotate_left
                  · intro w'
                    go_simp
                    with_reducible rfl
                  rotate_left
                  · simp only [Act.put, List.setIfInBounds_toArray, List.set_cons_zero, List.set_cons_succ, i64_w, i32_w]
                    rfl
                  refine pure_ (i := 21) (N := some 67) (v := ?_) (a' := ?_) #[true, true, true, true, true, true, true, true, true, true, true, true, true, true, true, true, true, true, true, true, true, true, false] rfl rfl (any_of HT_.out (by kernel_rfl)) (fun _ _ _ h => h) (Or.inl ⟨by rfl, ?_⟩) ?_ ?_
                  rotate_left
                  · intro w'
                    go_simp
                    with_reducible rfl
                  rotate_left
                  · simp only [Act.put, List.setIfInBounds_toArray, List.set_cons_zero, List.set_cons_succ, i64_w, i32_w]
                    rfl
                  refine pure_ (i := 22) (N := some 68) (v := ?_) (a' := ?_) #[true, true, true, true, true, true, true, true, true, true, true, true, true, true, true, true, true, true, true, true, true, true, true] rfl rfl (any_of HT_.out (by kernel_rfl)) (fun _ _ _ h => h) (Or.inl ⟨by rfl, ?_⟩) ?_ ?_
                  rotate_left
                  · intro w'
                    go_simp
                    with_reducible rfl
                  rotate_left
                  · simp only [Act.put, List.setIfInBounds_toArray, List.set_cons_zero, List.set_cons_succ, i64_w, i32_w]
                    rfl
                  refine done_ (done_of HT_.out (by kernel_rfl)) ?_
                  try go_wp2
                  go_meet
                  case rel => exact ⟨_, H', ⟨by have := HJ7.out; first | omega | exact Nat.le_refl _⟩, ⟨by (with_reducible repeat (first | refine blk_drewN ?_ _ | refine blk_drew ?_ | refine blk_alloc ?_ _)); exact BK246.out⟩, ⟨by repeat (first | (with_reducible first | exact HB.out | apply below_alloc | apply pw_below_drewN | apply below_drew1 | refine below_set ?_ GE246.out | refine below_set ?_ GE259.out) | exact HB.out)⟩⟩
                · rw [if_neg c27] at H
                  have c27b0 : ((t250.length : Int) == (wrap64 ((wrap64 (t261 * t262)) * (l0_2.length : Int)))) = false := beq_eq_false_iff_ne.mpr c27
                  have c27b1 : ((t250.length : Int) != (wrap64 ((wrap64 (t261 * t262)) * (l0_2.length : Int)))) = true := bne_iff_ne.mpr c27
                  obtain rfl := Option.some.inj H
                  have hcz42_0 : w18.cell? ⟨gb246, 0, none⟩ = some (.int .i64 a0_0) := (blk_cell BK246.out 0).trans rfl
                  have hcz42_1 : w18.cell? ⟨gb246, 1, none⟩ = some (.int .i64 a0_1) := (blk_cell BK246.out 1).trans rfl
                  have hcz42_2 : w18.cell? ⟨gb246, 2, none⟩ = some (.slice A0_2 l0_2.length c0_2) := (blk_cell BK246.out 2).trans rfl
                  have hfz42_0 := blk_frozen BK246.out 0
                  have hfz42_1 := blk_frozen BK246.out 1
                  have hfz42_2 := blk_frozen BK246.out 2
                  try go_wp2_with (first | ((with_reducible refine gate_callee (f := 23) rfl ?_); refine goesL_ (some 33) rfl rfl Try.func23 (by kernel_rfl) rfl #[.agg #[.int .i64 a0_0, .int .i64 a0_1, .slice A0_2 l0_2.length c0_2]] rfl (by (try simp only [List.map_toArray, List.map_cons, List.map_nil]); first | done | rfl | (simp only [List.length_drop, List.length_take]; rfl)) ?_; (with_reducible refine (pcm_Bytes.calls a0_0 a0_1 _ _ l0_2 t250 _ ?side1 ?side2 A20.out).mono ?_); (case side1 => repeat (first | exact (Kd.C_below HR0_2.out HB.out) | (with_reducible refine Kd.C_alloc ?_ _) | (with_reducible refine Kd.C_drewN ?_ _) | (with_reducible refine Kd.C_drew ?_))); (case side2 => exact HC0_2.out); rintro e w43 ⟨v251, rfl, ho0, hb⟩; refine ⟨_, rfl, ?_⟩; have n0_ := Aside0.mk (Kd.R_lower ho0 (below_size (by repeat (first | (with_reducible first | exact HB.out | apply below_alloc | apply pw_below_drewN | apply below_drew1 | refine below_set ?_ GE246.out) | exact HB.out)))); have n1_ := Aside0.mk (blk_below (g := gb246) (o := .cells #[.int .i64 a0_0, .int .i64 a0_1, .slice A0_2 l0_2.length c0_2] 24 (0, 0)) (by (with_reducible repeat (first | refine blk_drewN ?_ _ | refine blk_drew ?_ | refine blk_alloc ?_ _)); exact BK246.out) hb); have n2_ := Aside0.mk (below_step (by repeat (first | (with_reducible first | exact HB.out | apply below_alloc | apply pw_below_drewN | apply below_drew1 | refine below_set ?_ GE246.out) | exact HB.out)) hb); clear BK246; clear HB; have HO252 := n0_; have BK246 := n1_; have HB := n2_; clear n0_ n1_ n2_; (try clear hb); (try clear hb2); (try clear hk); (try clear hi); (try clear ho0); have hcz44_0 : w43.cell? ⟨gb246, 0, none⟩ = some (.int .i64 a0_0) := (blk_cell BK246.out 0).trans rfl; have hcz44_1 : w43.cell? ⟨gb246, 1, none⟩ = some (.int .i64 a0_1) := (blk_cell BK246.out 1).trans rfl; have hcz44_2 : w43.cell? ⟨gb246, 2, none⟩ = some (.slice A0_2 l0_2.length c0_2) := (blk_cell BK246.out 2).trans rfl; have hfz44_0 := blk_frozen BK246.out 0; have hfz44_1 := blk_frozen BK246.out 1; have hfz44_2 := blk_frozen BK246.out 2; obtain ⟨Ao45, co45, eo45⟩ := Kd.R_slice HO252.out; subst eo45) | ((with_reducible refine gate_callee (f := 19) rfl ?_); refine goesL_ (some 43) rfl rfl Try.func19 (by kernel_rfl) rfl #[.slice Ao45 t250.length co45, .int .i64 a0_0, .int .i64 a0_1, .int .i64 (l0_2.length : Int)] rfl (by (try simp only [List.map_toArray, List.map_cons, List.map_nil]); first | done | rfl | (simp only [List.length_drop, List.length_take]; rfl)) ?_; (with_reducible refine (pcm_Unbytes.calls kj7 _ _ t250 a0_0 a0_1 (l0_2.length : Int) t253 t254 t255 t258 _ ?side1 ?side2 A21.out).mono ?_); (case side1 => repeat (first | exact (Kd.R_reads' HO252.out).2.2 | (with_reducible refine Kd.C_alloc ?_ _) | (with_reducible refine Kd.C_drewN ?_ _) | (with_reducible refine Kd.C_drew ?_))); (case side2 => exact (Kd.R_reads' HO252.out).2.1); rintro e w46 ⟨v256, rfl, ho0, hb⟩; refine ⟨_, rfl, ?_⟩; have n0_ := Aside0.mk (Kd.R_below (by (with_reducible repeat (first | apply Kd.R_alloc | apply Kd.R_drewN | apply Kd.R_drew)); exact HO252.out) hb); have n1_ := Aside0.mk (Kd.S_lower ho0 (below_size (by repeat (first | (with_reducible first | exact HB.out | apply below_alloc | apply pw_below_drewN | apply below_drew1 | refine below_set ?_ GE246.out) | exact HB.out)))); have n2_ := Aside0.mk (blk_below (g := gb246) (o := .cells #[.int .i64 a0_0, .int .i64 a0_1, .slice A0_2 l0_2.length c0_2] 24 (0, 0)) (by (with_reducible repeat (first | refine blk_drewN ?_ _ | refine blk_drew ?_ | refine blk_alloc ?_ _)); exact BK246.out) hb); have n3_ := Aside0.mk (below_step (by repeat (first | (with_reducible first | exact HB.out | apply below_alloc | apply pw_below_drewN | apply below_drew1 | refine below_set ?_ GE246.out) | exact HB.out)) hb); clear HO252; clear BK246; clear HB; have HO252 := n0_; have HO257 := n1_; have BK246 := n2_; have HB := n3_; clear n0_ n1_ n2_ n3_; (try clear hb); (try clear hb2); (try clear hk); (try clear hi); (try clear ho0)) | ((with_reducible refine gate_dst (N := 14) rfl ?_); (try (refine gate_guard (by rfl) ?_; dsimp only)); refine box_event ?hg (N := 14) ?hd (cs := #[.int .i64 0, .int .i64 0, .slice none 0 0]) (t := 24) ?hr ?_; (case hd => rfl); (case hg => rfl); (case hr => first | (go_simp; done) | (go_simp; rfl)); intro gb259 hg w47 hbox hb; have n0_ := Aside0.mk (Kd.R_below (by (with_reducible repeat (first | apply Kd.R_alloc | apply Kd.R_drewN | apply Kd.R_drew)); exact HO252.out) hb); have n1_ := Aside0.mk (Kd.S_below (by (with_reducible repeat (first | apply Kd.S_alloc | apply Kd.S_drewN | apply Kd.S_drew)); exact HO257.out) hb); have n2_ := Aside0.mk (blk_below (g := gb246) (o := .cells #[.int .i64 a0_0, .int .i64 a0_1, .slice A0_2 l0_2.length c0_2] 24 (0, 0)) (by (with_reducible repeat (first | refine blk_drewN ?_ _ | refine blk_drew ?_ | refine blk_alloc ?_ _)); exact BK246.out) hb); have n3_ := Aside0.mk (below_step (by repeat (first | (with_reducible first | exact HB.out | apply below_alloc | apply pw_below_drewN | apply below_drew1 | refine below_set ?_ GE246.out) | exact HB.out)) hb); have n4_ := Aside0.mk (hbox); have n5_ := Aside0.mk ((by rw [hg]; exact (below_size (by repeat (first | (with_reducible first | exact HB.out | apply below_alloc | apply pw_below_drewN | apply below_drew1 | refine below_set ?_ GE246.out) | exact HB.out))) : w.heap.size ≤ gb259)); have n6_ := Aside0.mk ((by rw [hg]; exact (below_size (by repeat (first | (with_reducible first | exact HB.out | apply below_alloc | apply pw_below_drewN | apply below_drew1 | refine below_set ?_ GE246.out) | exact HB.out))) : w.heap.size ≤ gb259)); have n7_ := Aside0.mk ((by rw [hg]; exact Nat.ne_of_lt (blk_lt (g := gb246) (o := .cells #[.int .i64 a0_0, .int .i64 a0_1, .slice A0_2 l0_2.length c0_2] 24 (0, 0)) (by (with_reducible repeat (first | refine blk_drewN ?_ _ | refine blk_drew ?_ | refine blk_alloc ?_ _)); exact BK246.out)) : gb246 ≠ gb259)); have n8_ := Aside0.mk ((by rw [hg]; exact Nat.ne_of_gt (blk_lt (g := gb246) (o := .cells #[.int .i64 a0_0, .int .i64 a0_1, .slice A0_2 l0_2.length c0_2] 24 (0, 0)) (by (with_reducible repeat (first | refine blk_drewN ?_ _ | refine blk_drew ?_ | refine blk_alloc ?_ _)); exact BK246.out)) : gb259 ≠ gb246)); clear HO252; clear HO257; clear BK246; clear HB; have HO252 := n0_; have HO257 := n1_; have BK246 := n2_; have HB := n3_; have BK259 := n4_; have GW259 := n5_; have GE259 := n6_; have NB246_259 := n7_; have NB259_246 := n8_; clear n0_ n1_ n2_ n3_ n4_ n5_ n6_ n7_ n8_; clear hb hbox hg; have hnb48 := NB259_246.out; have hnc48 := NB246_259.out; have hcz49_0 : w47.cell? ⟨gb259, 0, none⟩ = some (.int .i64 0) := (blk_cell BK259.out 0).trans rfl; have hcz49_1 : w47.cell? ⟨gb259, 1, none⟩ = some (.int .i64 0) := (blk_cell BK259.out 1).trans rfl; have hcz49_2 : w47.cell? ⟨gb259, 2, none⟩ = some (.slice none 0 0) := (blk_cell BK259.out 2).trans rfl; have hfz49_0 := blk_frozen BK259.out 0; have hfz49_1 := blk_frozen BK259.out 1; have hfz49_2 := blk_frozen BK259.out 2; obtain ⟨Ao50, co50, eo50⟩ := Kd.S_slice HO257.out; subst eo50))
                  have n0_ : Aside0 (Kd.R (Kd.int .u8) 5 (((w47.setCell ⟨gb259, 0, none⟩ (.int .i64 t253)).setCell ⟨gb259, 1, none⟩ (.int .i64 t254)).setCell ⟨gb259, 2, none⟩ (.slice Ao50 t255.length co50)) w.heap.size (fun _ => True) (.slice Ao45 t250.length co45) t250) := ⟨by (with_reducible repeat (first | apply Kd.R_alloc | apply Kd.R_drewN | apply Kd.R_drew)); exact Kd.R_mono (Kd.R_far (p := ⟨gb259, 2, none⟩) (Kd.R_far (p := ⟨gb259, 1, none⟩) (Kd.R_far (p := ⟨gb259, 0, none⟩) (Kd.R_types HO252.out BK259.out (by decide)) (fun _ hk => hk.2) (.int .i64 t253)) (fun _ hk => hk.2) (.int .i64 t254)) (fun _ hk => hk.2) (.slice Ao50 t255.length co50)) (fun _ hk => trivial)⟩
                  have n1_ : Aside0 (Kd.S (Kd.slice 3 (Kd.int .i64)) 45 (((w47.setCell ⟨gb259, 0, none⟩ (.int .i64 t253)).setCell ⟨gb259, 1, none⟩ (.int .i64 t254)).setCell ⟨gb259, 2, none⟩ (.slice Ao50 t255.length co50)) w.heap.size (fun _ => True) (.slice Ao50 t255.length co50) t255) := ⟨by (with_reducible repeat (first | apply Kd.S_alloc | apply Kd.S_drewN | apply Kd.S_drew)); exact Kd.S_mono (Kd.S_far (p := ⟨gb259, 2, none⟩) (Kd.S_far (p := ⟨gb259, 1, none⟩) (Kd.S_far (p := ⟨gb259, 0, none⟩) (Kd.S_types HO257.out BK259.out (by decide)) (fun _ hk => hk.2) (.int .i64 t253)) (fun _ hk => hk.2) (.int .i64 t254)) (fun _ hk => hk.2) (.slice Ao50 t255.length co50)) (fun _ hk => trivial)⟩
                  have n2_ : Aside0 ((((w47.setCell ⟨gb259, 0, none⟩ (.int .i64 t253)).setCell ⟨gb259, 1, none⟩ (.int .i64 t254)).setCell ⟨gb259, 2, none⟩ (.slice Ao50 t255.length co50)).heap[gb246]? = some (.cells #[.int .i64 a0_0, .int .i64 a0_1, .slice A0_2 l0_2.length c0_2] 24 (0, 0))) := ⟨by (with_reducible repeat (first | refine blk_drewN ?_ _ | refine blk_drew ?_ | refine blk_alloc ?_ _)); refine blk_far ?_ NB246_259.out _; (with_reducible repeat (first | refine blk_drewN ?_ _ | refine blk_drew ?_ | refine blk_alloc ?_ _)); refine blk_far ?_ NB246_259.out _; (with_reducible repeat (first | refine blk_drewN ?_ _ | refine blk_drew ?_ | refine blk_alloc ?_ _)); refine blk_far ?_ NB246_259.out _; (with_reducible repeat (first | refine blk_drewN ?_ _ | refine blk_drew ?_ | refine blk_alloc ?_ _)); exact BK246.out⟩
                  have n3_ : Aside0 ((((w47.setCell ⟨gb259, 0, none⟩ (.int .i64 t253)).setCell ⟨gb259, 1, none⟩ (.int .i64 t254)).setCell ⟨gb259, 2, none⟩ (.slice Ao50 t255.length co50)).heap[gb259]? = some (.cells #[.int .i64 t253, .int .i64 t254, .slice Ao50 t255.length co50] 24 (0, 0))) := ⟨by (with_reducible repeat (first | refine blk_drewN ?_ _ | refine blk_drew ?_ | refine blk_alloc ?_ _)); refine blk_put (cs := #[.int .i64 t253, .int .i64 t254, .slice none 0 0]) ?_ 2 _ rfl; (with_reducible repeat (first | refine blk_drewN ?_ _ | refine blk_drew ?_ | refine blk_alloc ?_ _)); refine blk_put (cs := #[.int .i64 t253, .int .i64 0, .slice none 0 0]) ?_ 1 _ rfl; (with_reducible repeat (first | refine blk_drewN ?_ _ | refine blk_drew ?_ | refine blk_alloc ?_ _)); refine blk_put (cs := #[.int .i64 0, .int .i64 0, .slice none 0 0]) ?_ 0 _ rfl; (with_reducible repeat (first | refine blk_drewN ?_ _ | refine blk_drew ?_ | refine blk_alloc ?_ _)); exact BK259.out⟩
                  have n4_ : Aside0 (Below w.heap.size w (((w47.setCell ⟨gb259, 0, none⟩ (.int .i64 t253)).setCell ⟨gb259, 1, none⟩ (.int .i64 t254)).setCell ⟨gb259, 2, none⟩ (.slice Ao50 t255.length co50))) := ⟨by repeat (first | (with_reducible first | exact HB.out | apply below_alloc | apply pw_below_drewN | apply below_drew1 | refine below_set ?_ GE246.out | refine below_set ?_ GE259.out) | exact HB.out)⟩
                  (try clear HO252)
                  (try clear HO257)
                  (try clear BK246)
                  (try clear BK259)
                  (try clear HB)
                  generalize (((w47.setCell ⟨gb259, 0, none⟩ (.int .i64 t253)).setCell ⟨gb259, 1, none⟩ (.int .i64 t254)).setCell ⟨gb259, 2, none⟩ (.slice Ao50 t255.length co50)) = w51 at n0_ n1_ n2_ n3_ n4_ ⊢
                  have HO252 := n0_
                  have HO257 := n1_
                  have BK246 := n2_
                  have BK259 := n3_
                  have HB := n4_
                  clear n0_ n1_ n2_ n3_ n4_
                  have n0_ := Aside0.mk (Kd.R_drew HO252.out)
                  have n1_ := Aside0.mk (Kd.S_drew HO257.out)
                  have n2_ := Aside0.mk (blk_drew BK246.out)
                  have n3_ := Aside0.mk (blk_drew BK259.out)
                  have n4_ := Aside0.mk (below_drew1 HB.out)
                  clear HO252
                  clear HO257
                  clear BK246
                  clear BK259
                  clear HB
                  have HO252 := n0_
                  have HO257 := n1_
                  have BK246 := n2_
                  have BK259 := n3_
                  have HB := n4_
                  clear n0_ n1_ n2_ n3_ n4_
                  refine start_ (n := 23) (S := fun w' => w'.cell? ⟨gb246, 0, none⟩ = some (.int .i64 a0_0) ∧ w'.cell? ⟨gb246, 1, none⟩ = some (.int .i64 a0_1) ∧ w'.cell? ⟨gb246, 2, none⟩ = some (.slice A0_2 l0_2.length c0_2) ∧ w'.cell? ⟨gb259, 0, none⟩ = some (.int .i64 t253) ∧ w'.cell? ⟨gb259, 1, none⟩ = some (.int .i64 t254) ∧ w'.cell? ⟨gb259, 2, none⟩ = some (.slice Ao50 t255.length co50)) (ds := []) #[false, false, false, false, false, false, false, false, false, false, false, false, false, false, false, false, false, false, false, false, false, false, false] (by kernel_rfl) rfl rfl ⟨(blk_cell BK246.out 0).trans rfl, (blk_cell BK246.out 1).trans rfl, (blk_cell BK246.out 2).trans rfl, (blk_cell BK259.out 0).trans rfl, (blk_cell BK259.out 1).trans rfl, (blk_cell BK259.out 2).trans rfl⟩ (fun hHeld => ?_); refine with_tabW serinettelaw06_PcmBack.tab8 serinettelaw06_PcmBack.bits8 (fun HT_ HW_ => ?_)
                  generalize w51.drew = w52 at HO252 HO257 BK246 BK259 HB hHeld ⊢
                  refine pure_ (i := 0) (N := some 46) (v := ?_) (a' := ?_) #[true, false, false, false, false, false, false, false, false, false, false, false, false, false, false, false, false, false, false, false, false, false, false] rfl rfl (any_of HT_.out (by kernel_rfl)) (fun _ _ _ h => h) (Or.inl ⟨by rfl, ?_⟩) ?_ ?_
                  rotate_left
                  · intro w'
                    go_simp
                    with_reducible rfl
                  rotate_left
                  · simp only [Act.put, List.setIfInBounds_toArray, List.set_cons_zero, List.set_cons_succ, i64_w, i32_w]
                    rfl
                  refine pure_ (i := 1) (N := some 47) (v := ?_) (a' := ?_) #[true, true, false, false, false, false, false, false, false, false, false, false, false, false, false, false, false, false, false, false, false, false, false] rfl rfl (any_of HT_.out (by kernel_rfl)) (fun _ _ _ h => h) (Or.inl ⟨by rfl, ?_⟩) ?_ ?_
                  rotate_left
                  · intro w'
                    go_simp
                    with_reducible rfl
                  rotate_left
                  · simp only [Act.put, List.setIfInBounds_toArray, List.set_cons_zero, List.set_cons_succ, i64_w, i32_w]
                    rfl
                  refine pure_ (i := 2) (N := some 48) (v := ?_) (a' := ?_) #[true, true, true, false, false, false, false, false, false, false, false, false, false, false, false, false, false, false, false, false, false, false, false] rfl rfl (any_of HT_.out (by kernel_rfl)) (fun _ _ _ h => h) (Or.inl ⟨by rfl, ?_⟩) ?_ ?_
                  rotate_left
                  · intro w'
                    go_simp
                    with_reducible rfl
                  rotate_left
                  · simp only [Act.put, List.setIfInBounds_toArray, List.set_cons_zero, List.set_cons_succ, i64_w, i32_w]
                    rfl
                  refine take_ (i := 3) (N := some 49) (v := ?_) (a' := ?_) #[true, true, true, true, false, false, false, false, false, false, false, false, false, false, false, false, false, false, false, false, false, false, false] rfl rfl (take_ofW HT_.out HW_.out (by kernel_rfl)) (fun _ _ _ h => h) (Or.inl ⟨by rfl, ?_⟩) hHeld ?_ ?_
                  rotate_left
                  · rintro w' ⟨s0, s1, s2, s3, s4, s5⟩
                    go_simp
                    with_reducible rfl
                  rotate_left
                  · simp only [Act.put, List.setIfInBounds_toArray, List.set_cons_zero, List.set_cons_succ, i64_w, i32_w]
                    rfl
                  refine take_ (i := 4) (N := some 50) (v := ?_) (a' := ?_) #[true, true, true, true, true, false, false, false, false, false, false, false, false, false, false, false, false, false, false, false, false, false, false] rfl rfl (take_ofW HT_.out HW_.out (by kernel_rfl)) (fun _ _ _ h => h) (Or.inl ⟨by rfl, ?_⟩) hHeld ?_ ?_
                  rotate_left
                  · rintro w' ⟨s0, s1, s2, s3, s4, s5⟩
                    go_simp
                    with_reducible rfl
                  rotate_left
                  · simp only [Act.put, List.setIfInBounds_toArray, List.set_cons_zero, List.set_cons_succ, i64_w, i32_w]
                    rfl
                  refine one_ (i := 5) (N := some 51) #[true, true, true, true, true, true, false, false, false, false, false, false, false, false, false, false, false, false, false, false, false, false, false] rfl rfl (one_of HT_.out (by kernel_rfl)) (by decide) (fun K hK => ?_)
                  refine goes_ Try.func21 (by kernel_rfl) rfl #[.agg #[.int .i64 a0_0, .int .i64 a0_1, .slice A0_2 l0_2.length c0_2], .agg #[.int .i64 t253, .int .i64 t254, .slice Ao50 t255.length co50]] (by rfl) rfl rfl (by (try simp only [List.map_toArray, List.map_cons, List.map_nil]); first | done | rfl | (simp only [List.length_drop, List.length_take]; rfl)) ?_
                  with_reducible refine (serinetteref06_Same.calls kj7 a0_0 a0_1 _ _ l0_2 t253 t254 _ _ t255 true _ ?side1 ?side2 ?side3 ?side4 A23.out).mono ?_
                  (case side1 => repeat (first | exact (Kd.C_below HR0_2.out HB.out) | (with_reducible refine Kd.C_alloc ?_ _) | (with_reducible refine Kd.C_drewN ?_ _) | (with_reducible refine Kd.C_drew ?_)))
                  (case side2 => exact HC0_2.out)
                  (case side3 => repeat (first | exact (Kd.S_reads' HO257.out).2.2 | (with_reducible refine Kd.C_alloc ?_ _) | (with_reducible refine Kd.C_drewN ?_ _) | (with_reducible refine Kd.C_drew ?_)))
                  (case side4 => exact (Kd.S_reads' HO257.out).2.1)
                  rintro e w53 ⟨rfl, hb⟩
                  refine ⟨_, rfl, ?_⟩
                  have n0_ := Aside0.mk (Kd.R_below (by (with_reducible repeat (first | apply Kd.R_alloc | apply Kd.R_drewN | apply Kd.R_drew)); exact HO252.out) hb)
                  have n1_ := Aside0.mk (Kd.S_below (by (with_reducible repeat (first | apply Kd.S_alloc | apply Kd.S_drewN | apply Kd.S_drew)); exact HO257.out) hb)
                  have n2_ := Aside0.mk (blk_below (g := gb246) (o := .cells #[.int .i64 a0_0, .int .i64 a0_1, .slice A0_2 l0_2.length c0_2] 24 (0, 0)) (by (with_reducible repeat (first | refine blk_drewN ?_ _ | refine blk_drew ?_ | refine blk_alloc ?_ _)); exact BK246.out) hb)
                  have n3_ := Aside0.mk (blk_below (g := gb259) (o := .cells #[.int .i64 t253, .int .i64 t254, .slice Ao50 t255.length co50] 24 (0, 0)) (by (with_reducible repeat (first | refine blk_drewN ?_ _ | refine blk_drew ?_ | refine blk_alloc ?_ _)); exact BK259.out) hb)
                  have n4_ := Aside0.mk (below_step (by repeat (first | (with_reducible first | exact HB.out | apply below_alloc | apply pw_below_drewN | apply below_drew1 | refine below_set ?_ GE246.out | refine below_set ?_ GE259.out) | exact HB.out)) hb)
                  clear HO252
                  clear HO257
                  clear BK246
                  clear BK259
                  clear HB
                  have HO252 := n0_
                  have HO257 := n1_
                  have BK246 := n2_
                  have BK259 := n3_
                  have HB := n4_
                  clear n0_ n1_ n2_ n3_ n4_
                  (try clear hb)
                  (try clear hb2)
                  (try clear hk)
                  (try clear hi)
                  refine hK.out _ _ ⟨(blk_cell BK246.out 0).trans rfl, (blk_cell BK246.out 1).trans rfl, (blk_cell BK246.out 2).trans rfl, (blk_cell BK259.out 0).trans rfl, (blk_cell BK259.out 1).trans rfl, (blk_cell BK259.out 2).trans rfl⟩ (fun hHeld => ?_)
                  clear hK K
                  refine norm_ (a' := ?_) ?_ ?_
                  rotate_left
                  · show Act.put _ (some 51) _ = _
                    simp only [Act.put, List.setIfInBounds_toArray, List.set_cons_zero, List.set_cons_succ, i64_w, i32_w]
                    rfl
                  refine pure_ (i := 6) (N := some 52) (v := ?_) (a' := ?_) #[true, true, true, true, true, true, true, false, false, false, false, false, false, false, false, false, false, false, false, false, false, false, false] rfl rfl (any_of HT_.out (by kernel_rfl)) (fun _ _ _ h => h) (Or.inl ⟨by rfl, ?_⟩) ?_ ?_
                  rotate_left
                  · intro w'
                    go_simp
                    with_reducible rfl
                  rotate_left
                  · simp only [Act.put, List.setIfInBounds_toArray, List.set_cons_zero, List.set_cons_succ, i64_w, i32_w]
                    rfl
                  refine pure_ (i := 7) (N := some 53) (v := ?_) (a' := ?_) #[true, true, true, true, true, true, true, true, false, false, false, false, false, false, false, false, false, false, false, false, false, false, false] rfl rfl (any_of HT_.out (by kernel_rfl)) (fun _ _ _ h => h) (Or.inl ⟨by rfl, ?_⟩) ?_ ?_
                  rotate_left
                  · intro w'
                    go_simp
                    with_reducible rfl
                  rotate_left
                  · simp only [Act.put, List.setIfInBounds_toArray, List.set_cons_zero, List.set_cons_succ, i64_w, i32_w]
                    rfl
                  refine pure_ (i := 8) (N := some 54) (v := ?_) (a' := ?_) #[true, true, true, true, true, true, true, true, true, false, false, false, false, false, false, false, false, false, false, false, false, false, false] rfl rfl (any_of HT_.out (by kernel_rfl)) (fun _ _ _ h => h) (Or.inl ⟨by rfl, ?_⟩) ?_ ?_
                  rotate_left
                  · intro w'
                    go_simp
                    with_reducible rfl
                  rotate_left
                  · simp only [Act.put, List.setIfInBounds_toArray, List.set_cons_zero, List.set_cons_succ, i64_w, i32_w]
                    rfl
                  refine pure_ (i := 9) (N := some 55) (v := ?_) (a' := ?_) #[true, true, true, true, true, true, true, true, true, true, false, false, false, false, false, false, false, false, false, false, false, false, false] rfl rfl (any_of HT_.out (by kernel_rfl)) (fun _ _ _ h => h) (Or.inl ⟨by rfl, ?_⟩) ?_ ?_
                  rotate_left
                  · intro w'
                    go_simp
                    with_reducible rfl
                  rotate_left
                  · simp only [Act.put, List.setIfInBounds_toArray, List.set_cons_zero, List.set_cons_succ, i64_w, i32_w]
                    rfl
                  refine pure_ (i := 10) (N := some 56) (v := ?_) (a' := ?_) #[true, true, true, true, true, true, true, true, true, true, true, false, false, false, false, false, false, false, false, false, false, false, false] rfl rfl (any_of HT_.out (by kernel_rfl)) (fun _ _ _ h => h) (Or.inl ⟨by rfl, ?_⟩) ?_ ?_
                  rotate_left
                  · intro w'
                    go_simp
                    with_reducible rfl
                  rotate_left
                  · simp only [Act.put, List.setIfInBounds_toArray, List.set_cons_zero, List.set_cons_succ, i64_w, i32_w]
                    rfl
                  refine pure_ (i := 11) (N := some 57) (v := ?_) (a' := ?_) #[true, true, true, true, true, true, true, true, true, true, true, true, false, false, false, false, false, false, false, false, false, false, false] rfl rfl (any_of HT_.out (by kernel_rfl)) (fun _ _ _ h => h) (Or.inl ⟨by rfl, ?_⟩) ?_ ?_
                  rotate_left
                  · intro w'
                    go_simp
                    with_reducible rfl
                  rotate_left
                  · simp only [Act.put, List.setIfInBounds_toArray, List.set_cons_zero, List.set_cons_succ, i64_w, i32_w]
                    rfl
                  refine pure_ (i := 17) (N := some 63) (v := ?_) (a' := ?_) #[true, true, true, true, true, true, true, true, true, true, true, true, false, false, false, false, false, true, false, false, false, false, false] rfl rfl (any_of HT_.out (by kernel_rfl)) (fun _ _ _ h => h) (Or.inl ⟨by rfl, ?_⟩) ?_ ?_
                  rotate_left
                  · intro w'
                    go_simp
                    with_reducible rfl
                  rotate_left
                  · simp only [Act.put, List.setIfInBounds_toArray, List.set_cons_zero, List.set_cons_succ, i64_w, i32_w]
                    rfl
                  refine take_ (i := 12) (N := some 58) (v := ?_) (a' := ?_) #[true, true, true, true, true, true, true, true, true, true, true, true, true, false, false, false, false, true, false, false, false, false, false] rfl rfl (take_ofW HT_.out HW_.out (by kernel_rfl)) (fun _ _ _ h => h) (Or.inl ⟨by rfl, ?_⟩) hHeld ?_ ?_
                  rotate_left
                  · rintro w' ⟨s0, s1, s2, s3, s4, s5⟩
                    go_simp
                    with_reducible rfl
                  rotate_left
                  · simp only [Act.put, List.setIfInBounds_toArray, List.set_cons_zero, List.set_cons_succ, i64_w, i32_w]
                    rfl
                  refine take_ (i := 14) (N := some 60) (v := ?_) (a' := ?_) #[true, true, true, true, true, true, true, true, true, true, true, true, true, false, true, false, false, true, false, false, false, false, false] rfl rfl (take_ofW HT_.out HW_.out (by kernel_rfl)) (fun _ _ _ h => h) (Or.inl ⟨by rfl, ?_⟩) hHeld ?_ ?_
                  rotate_left
                  · rintro w' ⟨s0, s1, s2, s3, s4, s5⟩
                    go_simp
                    with_reducible rfl
                  rotate_left
                  · simp only [Act.put, List.setIfInBounds_toArray, List.set_cons_zero, List.set_cons_succ, i64_w, i32_w]
                    rfl
                  refine take_ (i := 18) (N := some 64) (v := ?_) (a' := ?_) #[true, true, true, true, true, true, true, true, true, true, true, true, true, false, true, false, false, true, true, false, false, false, false] rfl rfl (take_ofW HT_.out HW_.out (by kernel_rfl)) (fun _ _ _ h => h) (Or.inl ⟨by rfl, ?_⟩) hHeld ?_ ?_
                  rotate_left
                  · rintro w' ⟨s0, s1, s2, s3, s4, s5⟩
                    go_simp
                    with_reducible rfl
                  rotate_left
                  · simp only [Act.put, List.setIfInBounds_toArray, List.set_cons_zero, List.set_cons_succ, i64_w, i32_w]
                    rfl
                  refine pure_ (i := 19) (N := some 65) (v := ?_) (a' := ?_) #[true, true, true, true, true, true, true, true, true, true, true, true, true, false, true, false, false, true, true, true, false, false, false] rfl rfl (any_of HT_.out (by kernel_rfl)) (fun _ _ _ h => h) (Or.inl ⟨by rfl, ?_⟩) ?_ ?_
                  rotate_left
                  · intro w'
                    go_simp
                    with_reducible rfl
                  rotate_left
                  · simp only [Act.put, List.setIfInBounds_toArray, List.set_cons_zero, List.set_cons_succ, i64_w, i32_w]
                    rfl
                  refine one_ (i := 13) (N := some 59) #[true, true, true, true, true, true, true, true, true, true, true, true, true, true, true, false, false, true, true, true, false, false, false] rfl rfl (one_of HT_.out (by kernel_rfl)) (by decide) (fun K hK => ?_)
                  refine goes_ Try.func17 (by kernel_rfl) rfl #[.int .i64 a0_1] (by rfl) rfl rfl (by (try simp only [List.map_toArray, List.map_cons, List.map_nil]); first | done | rfl | (simp only [List.length_drop, List.length_take]; rfl)) ?_
                  with_reducible refine (pcm_Each.calls a0_1 t261 _ A25.out).mono ?_
                  rintro e w54 ⟨rfl, hb⟩
                  refine ⟨_, rfl, ?_⟩
                  have n0_ := Aside0.mk (Kd.R_below (by (with_reducible repeat (first | apply Kd.R_alloc | apply Kd.R_drewN | apply Kd.R_drew)); exact HO252.out) hb)
                  have n1_ := Aside0.mk (Kd.S_below (by (with_reducible repeat (first | apply Kd.S_alloc | apply Kd.S_drewN | apply Kd.S_drew)); exact HO257.out) hb)
                  have n2_ := Aside0.mk (blk_below (g := gb246) (o := .cells #[.int .i64 a0_0, .int .i64 a0_1, .slice A0_2 l0_2.length c0_2] 24 (0, 0)) (by (with_reducible repeat (first | refine blk_drewN ?_ _ | refine blk_drew ?_ | refine blk_alloc ?_ _)); exact BK246.out) hb)
                  have n3_ := Aside0.mk (blk_below (g := gb259) (o := .cells #[.int .i64 t253, .int .i64 t254, .slice Ao50 t255.length co50] 24 (0, 0)) (by (with_reducible repeat (first | refine blk_drewN ?_ _ | refine blk_drew ?_ | refine blk_alloc ?_ _)); exact BK259.out) hb)
                  have n4_ := Aside0.mk (below_step (by repeat (first | (with_reducible first | exact HB.out | apply below_alloc | apply pw_below_drewN | apply below_drew1 | refine below_set ?_ GE246.out | refine below_set ?_ GE259.out) | exact HB.out)) hb)
                  clear HO252
                  clear HO257
                  clear BK246
                  clear BK259
                  clear HB
                  have HO252 := n0_
                  have HO257 := n1_
                  have BK246 := n2_
                  have BK259 := n3_
                  have HB := n4_
                  clear n0_ n1_ n2_ n3_ n4_
                  (try clear hb)
                  (try clear hb2)
                  (try clear hk)
                  (try clear hi)
                  refine hK.out _ _ ⟨(blk_cell BK246.out 0).trans rfl, (blk_cell BK246.out 1).trans rfl, (blk_cell BK246.out 2).trans rfl, (blk_cell BK259.out 0).trans rfl, (blk_cell BK259.out 1).trans rfl, (blk_cell BK259.out 2).trans rfl⟩ (fun hHeld => ?_)
                  clear hK K
                  refine norm_ (a' := ?_) ?_ ?_
                  rotate_left
                  · show Act.put _ (some 59) _ = _
                    simp only [Act.put, List.setIfInBounds_toArray, List.set_cons_zero, List.set_cons_succ, i64_w, i32_w]
                    rfl
                  refine one_ (i := 15) (N := some 61) #[true, true, true, true, true, true, true, true, true, true, true, true, true, true, true, true, false, true, true, true, false, false, false] rfl rfl (one_of HT_.out (by kernel_rfl)) (by decide) (fun K hK => ?_)
                  refine goes_ Try.func13 (by kernel_rfl) rfl #[.agg #[.int .i64 a0_0, .int .i64 a0_1, .slice A0_2 l0_2.length c0_2]] (by rfl) rfl rfl (by (try simp only [List.map_toArray, List.map_cons, List.map_nil]); first | done | rfl | (simp only [List.length_drop, List.length_take]; rfl)) ?_
                  with_reducible refine (pcm_Many.calls a0_0 a0_1 _ _ l0_2 t262 _ ?side1 ?side2 A26.out).mono ?_
                  (case side1 => repeat (first | exact (Kd.C_below HR0_2.out HB.out) | (with_reducible refine Kd.C_alloc ?_ _) | (with_reducible refine Kd.C_drewN ?_ _) | (with_reducible refine Kd.C_drew ?_)))
                  (case side2 => exact HC0_2.out)
                  rintro e w55 ⟨rfl, hb⟩
                  refine ⟨_, rfl, ?_⟩
                  have n0_ := Aside0.mk (Kd.R_below (by (with_reducible repeat (first | apply Kd.R_alloc | apply Kd.R_drewN | apply Kd.R_drew)); exact HO252.out) hb)
                  have n1_ := Aside0.mk (Kd.S_below (by (with_reducible repeat (first | apply Kd.S_alloc | apply Kd.S_drewN | apply Kd.S_drew)); exact HO257.out) hb)
                  have n2_ := Aside0.mk (blk_below (g := gb246) (o := .cells #[.int .i64 a0_0, .int .i64 a0_1, .slice A0_2 l0_2.length c0_2] 24 (0, 0)) (by (with_reducible repeat (first | refine blk_drewN ?_ _ | refine blk_drew ?_ | refine blk_alloc ?_ _)); exact BK246.out) hb)
                  have n3_ := Aside0.mk (blk_below (g := gb259) (o := .cells #[.int .i64 t253, .int .i64 t254, .slice Ao50 t255.length co50] 24 (0, 0)) (by (with_reducible repeat (first | refine blk_drewN ?_ _ | refine blk_drew ?_ | refine blk_alloc ?_ _)); exact BK259.out) hb)
                  have n4_ := Aside0.mk (below_step (by repeat (first | (with_reducible first | exact HB.out | apply below_alloc | apply pw_below_drewN | apply below_drew1 | refine below_set ?_ GE246.out | refine below_set ?_ GE259.out) | exact HB.out)) hb)
                  clear HO252
                  clear HO257
                  clear BK246
                  clear BK259
                  clear HB
                  have HO252 := n0_
                  have HO257 := n1_
                  have BK246 := n2_
                  have BK259 := n3_
                  have HB := n4_
                  clear n0_ n1_ n2_ n3_ n4_
                  (try clear hb)
                  (try clear hb2)
                  (try clear hk)
                  (try clear hi)
                  refine hK.out _ _ ⟨(blk_cell BK246.out 0).trans rfl, (blk_cell BK246.out 1).trans rfl, (blk_cell BK246.out 2).trans rfl, (blk_cell BK259.out 0).trans rfl, (blk_cell BK259.out 1).trans rfl, (blk_cell BK259.out 2).trans rfl⟩ (fun hHeld => ?_)
                  clear hK K
                  refine norm_ (a' := ?_) ?_ ?_
                  rotate_left
                  · show Act.put _ (some 61) _ = _
                    simp only [Act.put, List.setIfInBounds_toArray, List.set_cons_zero, List.set_cons_succ, i64_w, i32_w]
                    rfl
                  refine pure_ (i := 16) (N := some 62) (v := ?_) (a' := ?_) #[true, true, true, true, true, true, true, true, true, true, true, true, true, true, true, true, true, true, true, true, false, false, false] rfl rfl (any_of HT_.out (by kernel_rfl)) (fun _ _ _ h => h) (Or.inl ⟨by rfl, ?_⟩) ?_ ?_
                  rotate_left
                  · intro w'
                    go_simp
                    with_reducible rfl
                  rotate_left
                  · simp only [Act.put, List.setIfInBounds_toArray, List.set_cons_zero, List.set_cons_succ, i64_w, i32_w]
                    rfl
                  refine pure_ (i := 20) (N := some 66) (v := ?_) (a' := ?_) #[true, true, true, true, true, true, true, true, true, true, true, true, true, true, true, true, true, true, true, true, true, false, false] rfl rfl (any_of HT_.out (by kernel_rfl)) (fun _ _ _ h => h) (Or.inl ⟨by rfl, ?_⟩) ?_ ?_
                  rotate_left
                  · intro w'
                    go_simp
                    with_reducible rfl
                  rotate_left
                  · simp only [Act.put, List.setIfInBounds_toArray, List.set_cons_zero, List.set_cons_succ, i64_w, i32_w]
                    rfl
                  refine pure_ (i := 21) (N := some 67) (v := ?_) (a' := ?_) #[true, true, true, true, true, true, true, true, true, true, true, true, true, true, true, true, true, true, true, true, true, true, false] rfl rfl (any_of HT_.out (by kernel_rfl)) (fun _ _ _ h => h) (Or.inl ⟨by rfl, ?_⟩) ?_ ?_
                  rotate_left
                  · intro w'
                    go_simp
                    with_reducible rfl
                  rotate_left
                  · simp only [Act.put, List.setIfInBounds_toArray, List.set_cons_zero, List.set_cons_succ, i64_w, i32_w]
                    rfl
                  refine pure_ (i := 22) (N := some 68) (v := ?_) (a' := ?_) #[true, true, true, true, true, true, true, true, true, true, true, true, true, true, true, true, true, true, true, true, true, true, true] rfl rfl (any_of HT_.out (by kernel_rfl)) (fun _ _ _ h => h) (Or.inl ⟨by rfl, ?_⟩) ?_ ?_
                  rotate_left
                  · intro w'
                    go_simp
                    with_reducible rfl
                  rotate_left
                  · simp only [Act.put, List.setIfInBounds_toArray, List.set_cons_zero, List.set_cons_succ, i64_w, i32_w]
                    rfl
                  refine done_ (done_of HT_.out (by kernel_rfl)) ?_
                  try go_wp2
                  go_ret
                  exact ⟨by first | rfl | (simp [errW_none, errW_some] <;> rfl) | (simp [*, errW_none, errW_some] <;> rfl), by repeat (first | (with_reducible first | exact HB.out | apply below_alloc | apply pw_below_drewN | apply below_drew1 | refine below_set ?_ GE246.out | refine below_set ?_ GE259.out) | exact HB.out)⟩
              · replace c24 := Bool.eq_false_iff.mpr c24
                subst c24
                have H1 : (some false) = some r := by rw [if_neg (show ¬ (false = true) by decide)] at H; exact H
                clear H
                have H := H1
                clear H1
                obtain rfl := Option.some.inj H
                have hcz56_0 : w18.cell? ⟨gb246, 0, none⟩ = some (.int .i64 a0_0) := (blk_cell BK246.out 0).trans rfl
                have hcz56_1 : w18.cell? ⟨gb246, 1, none⟩ = some (.int .i64 a0_1) := (blk_cell BK246.out 1).trans rfl
                have hcz56_2 : w18.cell? ⟨gb246, 2, none⟩ = some (.slice A0_2 l0_2.length c0_2) := (blk_cell BK246.out 2).trans rfl
                have hfz56_0 := blk_frozen BK246.out 0
                have hfz56_1 := blk_frozen BK246.out 1
                have hfz56_2 := blk_frozen BK246.out 2
                try go_wp2_with (first | ((with_reducible refine gate_callee (f := 23) rfl ?_); refine goesL_ (some 33) rfl rfl Try.func23 (by kernel_rfl) rfl #[.agg #[.int .i64 a0_0, .int .i64 a0_1, .slice A0_2 l0_2.length c0_2]] rfl (by (try simp only [List.map_toArray, List.map_cons, List.map_nil]); first | done | rfl | (simp only [List.length_drop, List.length_take]; rfl)) ?_; (with_reducible refine (pcm_Bytes.calls a0_0 a0_1 _ _ l0_2 t250 _ ?side1 ?side2 A20.out).mono ?_); (case side1 => repeat (first | exact (Kd.C_below HR0_2.out HB.out) | (with_reducible refine Kd.C_alloc ?_ _) | (with_reducible refine Kd.C_drewN ?_ _) | (with_reducible refine Kd.C_drew ?_))); (case side2 => exact HC0_2.out); rintro e w57 ⟨v251, rfl, ho0, hb⟩; refine ⟨_, rfl, ?_⟩; have n0_ := Aside0.mk (Kd.R_lower ho0 (below_size (by repeat (first | (with_reducible first | exact HB.out | apply below_alloc | apply pw_below_drewN | apply below_drew1 | refine below_set ?_ GE246.out) | exact HB.out)))); have n1_ := Aside0.mk (blk_below (g := gb246) (o := .cells #[.int .i64 a0_0, .int .i64 a0_1, .slice A0_2 l0_2.length c0_2] 24 (0, 0)) (by (with_reducible repeat (first | refine blk_drewN ?_ _ | refine blk_drew ?_ | refine blk_alloc ?_ _)); exact BK246.out) hb); have n2_ := Aside0.mk (below_step (by repeat (first | (with_reducible first | exact HB.out | apply below_alloc | apply pw_below_drewN | apply below_drew1 | refine below_set ?_ GE246.out) | exact HB.out)) hb); clear BK246; clear HB; have HO252 := n0_; have BK246 := n1_; have HB := n2_; clear n0_ n1_ n2_; (try clear hb); (try clear hb2); (try clear hk); (try clear hi); (try clear ho0); have hcz58_0 : w57.cell? ⟨gb246, 0, none⟩ = some (.int .i64 a0_0) := (blk_cell BK246.out 0).trans rfl; have hcz58_1 : w57.cell? ⟨gb246, 1, none⟩ = some (.int .i64 a0_1) := (blk_cell BK246.out 1).trans rfl; have hcz58_2 : w57.cell? ⟨gb246, 2, none⟩ = some (.slice A0_2 l0_2.length c0_2) := (blk_cell BK246.out 2).trans rfl; have hfz58_0 := blk_frozen BK246.out 0; have hfz58_1 := blk_frozen BK246.out 1; have hfz58_2 := blk_frozen BK246.out 2; obtain ⟨Ao59, co59, eo59⟩ := Kd.R_slice HO252.out; subst eo59) | ((with_reducible refine gate_callee (f := 19) rfl ?_); refine goesL_ (some 43) rfl rfl Try.func19 (by kernel_rfl) rfl #[.slice Ao59 t250.length co59, .int .i64 a0_0, .int .i64 a0_1, .int .i64 (l0_2.length : Int)] rfl (by (try simp only [List.map_toArray, List.map_cons, List.map_nil]); first | done | rfl | (simp only [List.length_drop, List.length_take]; rfl)) ?_; (with_reducible refine (pcm_Unbytes.calls kj7 _ _ t250 a0_0 a0_1 (l0_2.length : Int) t253 t254 t255 t258 _ ?side1 ?side2 A21.out).mono ?_); (case side1 => repeat (first | exact (Kd.R_reads' HO252.out).2.2 | (with_reducible refine Kd.C_alloc ?_ _) | (with_reducible refine Kd.C_drewN ?_ _) | (with_reducible refine Kd.C_drew ?_))); (case side2 => exact (Kd.R_reads' HO252.out).2.1); rintro e w60 ⟨v256, rfl, ho0, hb⟩; refine ⟨_, rfl, ?_⟩; have n0_ := Aside0.mk (Kd.R_below (by (with_reducible repeat (first | apply Kd.R_alloc | apply Kd.R_drewN | apply Kd.R_drew)); exact HO252.out) hb); have n1_ := Aside0.mk (Kd.S_lower ho0 (below_size (by repeat (first | (with_reducible first | exact HB.out | apply below_alloc | apply pw_below_drewN | apply below_drew1 | refine below_set ?_ GE246.out) | exact HB.out)))); have n2_ := Aside0.mk (blk_below (g := gb246) (o := .cells #[.int .i64 a0_0, .int .i64 a0_1, .slice A0_2 l0_2.length c0_2] 24 (0, 0)) (by (with_reducible repeat (first | refine blk_drewN ?_ _ | refine blk_drew ?_ | refine blk_alloc ?_ _)); exact BK246.out) hb); have n3_ := Aside0.mk (below_step (by repeat (first | (with_reducible first | exact HB.out | apply below_alloc | apply pw_below_drewN | apply below_drew1 | refine below_set ?_ GE246.out) | exact HB.out)) hb); clear HO252; clear BK246; clear HB; have HO252 := n0_; have HO257 := n1_; have BK246 := n2_; have HB := n3_; clear n0_ n1_ n2_ n3_; (try clear hb); (try clear hb2); (try clear hk); (try clear hi); (try clear ho0)) | ((with_reducible refine gate_dst (N := 14) rfl ?_); (try (refine gate_guard (by rfl) ?_; dsimp only)); refine box_event ?hg (N := 14) ?hd (cs := #[.int .i64 0, .int .i64 0, .slice none 0 0]) (t := 24) ?hr ?_; (case hd => rfl); (case hg => rfl); (case hr => first | (go_simp; done) | (go_simp; rfl)); intro gb259 hg w61 hbox hb; have n0_ := Aside0.mk (Kd.R_below (by (with_reducible repeat (first | apply Kd.R_alloc | apply Kd.R_drewN | apply Kd.R_drew)); exact HO252.out) hb); have n1_ := Aside0.mk (Kd.S_below (by (with_reducible repeat (first | apply Kd.S_alloc | apply Kd.S_drewN | apply Kd.S_drew)); exact HO257.out) hb); have n2_ := Aside0.mk (blk_below (g := gb246) (o := .cells #[.int .i64 a0_0, .int .i64 a0_1, .slice A0_2 l0_2.length c0_2] 24 (0, 0)) (by (with_reducible repeat (first | refine blk_drewN ?_ _ | refine blk_drew ?_ | refine blk_alloc ?_ _)); exact BK246.out) hb); have n3_ := Aside0.mk (below_step (by repeat (first | (with_reducible first | exact HB.out | apply below_alloc | apply pw_below_drewN | apply below_drew1 | refine below_set ?_ GE246.out) | exact HB.out)) hb); have n4_ := Aside0.mk (hbox); have n5_ := Aside0.mk ((by rw [hg]; exact (below_size (by repeat (first | (with_reducible first | exact HB.out | apply below_alloc | apply pw_below_drewN | apply below_drew1 | refine below_set ?_ GE246.out) | exact HB.out))) : w.heap.size ≤ gb259)); have n6_ := Aside0.mk ((by rw [hg]; exact (below_size (by repeat (first | (with_reducible first | exact HB.out | apply below_alloc | apply pw_below_drewN | apply below_drew1 | refine below_set ?_ GE246.out) | exact HB.out))) : w.heap.size ≤ gb259)); have n7_ := Aside0.mk ((by rw [hg]; exact Nat.ne_of_lt (blk_lt (g := gb246) (o := .cells #[.int .i64 a0_0, .int .i64 a0_1, .slice A0_2 l0_2.length c0_2] 24 (0, 0)) (by (with_reducible repeat (first | refine blk_drewN ?_ _ | refine blk_drew ?_ | refine blk_alloc ?_ _)); exact BK246.out)) : gb246 ≠ gb259)); have n8_ := Aside0.mk ((by rw [hg]; exact Nat.ne_of_gt (blk_lt (g := gb246) (o := .cells #[.int .i64 a0_0, .int .i64 a0_1, .slice A0_2 l0_2.length c0_2] 24 (0, 0)) (by (with_reducible repeat (first | refine blk_drewN ?_ _ | refine blk_drew ?_ | refine blk_alloc ?_ _)); exact BK246.out)) : gb259 ≠ gb246)); clear HO252; clear HO257; clear BK246; clear HB; have HO252 := n0_; have HO257 := n1_; have BK246 := n2_; have HB := n3_; have BK259 := n4_; have GW259 := n5_; have GE259 := n6_; have NB246_259 := n7_; have NB259_246 := n8_; clear n0_ n1_ n2_ n3_ n4_ n5_ n6_ n7_ n8_; clear hb hbox hg; have hnb62 := NB259_246.out; have hnc62 := NB246_259.out; have hcz63_0 : w61.cell? ⟨gb259, 0, none⟩ = some (.int .i64 0) := (blk_cell BK259.out 0).trans rfl; have hcz63_1 : w61.cell? ⟨gb259, 1, none⟩ = some (.int .i64 0) := (blk_cell BK259.out 1).trans rfl; have hcz63_2 : w61.cell? ⟨gb259, 2, none⟩ = some (.slice none 0 0) := (blk_cell BK259.out 2).trans rfl; have hfz63_0 := blk_frozen BK259.out 0; have hfz63_1 := blk_frozen BK259.out 1; have hfz63_2 := blk_frozen BK259.out 2; obtain ⟨Ao64, co64, eo64⟩ := Kd.S_slice HO257.out; subst eo64))
                have n0_ : Aside0 (Kd.R (Kd.int .u8) 5 (((w61.setCell ⟨gb259, 0, none⟩ (.int .i64 t253)).setCell ⟨gb259, 1, none⟩ (.int .i64 t254)).setCell ⟨gb259, 2, none⟩ (.slice Ao64 t255.length co64)) w.heap.size (fun _ => True) (.slice Ao59 t250.length co59) t250) := ⟨by (with_reducible repeat (first | apply Kd.R_alloc | apply Kd.R_drewN | apply Kd.R_drew)); exact Kd.R_mono (Kd.R_far (p := ⟨gb259, 2, none⟩) (Kd.R_far (p := ⟨gb259, 1, none⟩) (Kd.R_far (p := ⟨gb259, 0, none⟩) (Kd.R_types HO252.out BK259.out (by decide)) (fun _ hk => hk.2) (.int .i64 t253)) (fun _ hk => hk.2) (.int .i64 t254)) (fun _ hk => hk.2) (.slice Ao64 t255.length co64)) (fun _ hk => trivial)⟩
                have n1_ : Aside0 (Kd.S (Kd.slice 3 (Kd.int .i64)) 45 (((w61.setCell ⟨gb259, 0, none⟩ (.int .i64 t253)).setCell ⟨gb259, 1, none⟩ (.int .i64 t254)).setCell ⟨gb259, 2, none⟩ (.slice Ao64 t255.length co64)) w.heap.size (fun _ => True) (.slice Ao64 t255.length co64) t255) := ⟨by (with_reducible repeat (first | apply Kd.S_alloc | apply Kd.S_drewN | apply Kd.S_drew)); exact Kd.S_mono (Kd.S_far (p := ⟨gb259, 2, none⟩) (Kd.S_far (p := ⟨gb259, 1, none⟩) (Kd.S_far (p := ⟨gb259, 0, none⟩) (Kd.S_types HO257.out BK259.out (by decide)) (fun _ hk => hk.2) (.int .i64 t253)) (fun _ hk => hk.2) (.int .i64 t254)) (fun _ hk => hk.2) (.slice Ao64 t255.length co64)) (fun _ hk => trivial)⟩
                have n2_ : Aside0 ((((w61.setCell ⟨gb259, 0, none⟩ (.int .i64 t253)).setCell ⟨gb259, 1, none⟩ (.int .i64 t254)).setCell ⟨gb259, 2, none⟩ (.slice Ao64 t255.length co64)).heap[gb246]? = some (.cells #[.int .i64 a0_0, .int .i64 a0_1, .slice A0_2 l0_2.length c0_2] 24 (0, 0))) := ⟨by (with_reducible repeat (first | refine blk_drewN ?_ _ | refine blk_drew ?_ | refine blk_alloc ?_ _)); refine blk_far ?_ NB246_259.out _; (with_reducible repeat (first | refine blk_drewN ?_ _ | refine blk_drew ?_ | refine blk_alloc ?_ _)); refine blk_far ?_ NB246_259.out _; (with_reducible repeat (first | refine blk_drewN ?_ _ | refine blk_drew ?_ | refine blk_alloc ?_ _)); refine blk_far ?_ NB246_259.out _; (with_reducible repeat (first | refine blk_drewN ?_ _ | refine blk_drew ?_ | refine blk_alloc ?_ _)); exact BK246.out⟩
                have n3_ : Aside0 ((((w61.setCell ⟨gb259, 0, none⟩ (.int .i64 t253)).setCell ⟨gb259, 1, none⟩ (.int .i64 t254)).setCell ⟨gb259, 2, none⟩ (.slice Ao64 t255.length co64)).heap[gb259]? = some (.cells #[.int .i64 t253, .int .i64 t254, .slice Ao64 t255.length co64] 24 (0, 0))) := ⟨by (with_reducible repeat (first | refine blk_drewN ?_ _ | refine blk_drew ?_ | refine blk_alloc ?_ _)); refine blk_put (cs := #[.int .i64 t253, .int .i64 t254, .slice none 0 0]) ?_ 2 _ rfl; (with_reducible repeat (first | refine blk_drewN ?_ _ | refine blk_drew ?_ | refine blk_alloc ?_ _)); refine blk_put (cs := #[.int .i64 t253, .int .i64 0, .slice none 0 0]) ?_ 1 _ rfl; (with_reducible repeat (first | refine blk_drewN ?_ _ | refine blk_drew ?_ | refine blk_alloc ?_ _)); refine blk_put (cs := #[.int .i64 0, .int .i64 0, .slice none 0 0]) ?_ 0 _ rfl; (with_reducible repeat (first | refine blk_drewN ?_ _ | refine blk_drew ?_ | refine blk_alloc ?_ _)); exact BK259.out⟩
                have n4_ : Aside0 (Below w.heap.size w (((w61.setCell ⟨gb259, 0, none⟩ (.int .i64 t253)).setCell ⟨gb259, 1, none⟩ (.int .i64 t254)).setCell ⟨gb259, 2, none⟩ (.slice Ao64 t255.length co64))) := ⟨by repeat (first | (with_reducible first | exact HB.out | apply below_alloc | apply pw_below_drewN | apply below_drew1 | refine below_set ?_ GE246.out | refine below_set ?_ GE259.out) | exact HB.out)⟩
                (try clear HO252)
                (try clear HO257)
                (try clear BK246)
                (try clear BK259)
                (try clear HB)
                generalize (((w61.setCell ⟨gb259, 0, none⟩ (.int .i64 t253)).setCell ⟨gb259, 1, none⟩ (.int .i64 t254)).setCell ⟨gb259, 2, none⟩ (.slice Ao64 t255.length co64)) = w65 at n0_ n1_ n2_ n3_ n4_ ⊢
                have HO252 := n0_
                have HO257 := n1_
                have BK246 := n2_
                have BK259 := n3_
                have HB := n4_
                clear n0_ n1_ n2_ n3_ n4_
                have n0_ := Aside0.mk (Kd.R_drew HO252.out)
                have n1_ := Aside0.mk (Kd.S_drew HO257.out)
                have n2_ := Aside0.mk (blk_drew BK246.out)
                have n3_ := Aside0.mk (blk_drew BK259.out)
                have n4_ := Aside0.mk (below_drew1 HB.out)
                clear HO252
                clear HO257
                clear BK246
                clear BK259
                clear HB
                have HO252 := n0_
                have HO257 := n1_
                have BK246 := n2_
                have BK259 := n3_
                have HB := n4_
                clear n0_ n1_ n2_ n3_ n4_
                refine start_ (n := 23) (S := fun w' => w'.cell? ⟨gb246, 0, none⟩ = some (.int .i64 a0_0) ∧ w'.cell? ⟨gb246, 1, none⟩ = some (.int .i64 a0_1) ∧ w'.cell? ⟨gb246, 2, none⟩ = some (.slice A0_2 l0_2.length c0_2) ∧ w'.cell? ⟨gb259, 0, none⟩ = some (.int .i64 t253) ∧ w'.cell? ⟨gb259, 1, none⟩ = some (.int .i64 t254) ∧ w'.cell? ⟨gb259, 2, none⟩ = some (.slice Ao64 t255.length co64)) (ds := []) #[false, false, false, false, false, false, false, false, false, false, false, false, false, false, false, false, false, false, false, false, false, false, false] (by kernel_rfl) rfl rfl ⟨(blk_cell BK246.out 0).trans rfl, (blk_cell BK246.out 1).trans rfl, (blk_cell BK246.out 2).trans rfl, (blk_cell BK259.out 0).trans rfl, (blk_cell BK259.out 1).trans rfl, (blk_cell BK259.out 2).trans rfl⟩ (fun hHeld => ?_); refine with_tabW serinettelaw06_PcmBack.tab8 serinettelaw06_PcmBack.bits8 (fun HT_ HW_ => ?_)
                generalize w65.drew = w66 at HO252 HO257 BK246 BK259 HB hHeld ⊢
                refine pure_ (i := 0) (N := some 46) (v := ?_) (a' := ?_) #[true, false, false, false, false, false, false, false, false, false, false, false, false, false, false, false, false, false, false, false, false, false, false] rfl rfl (any_of HT_.out (by kernel_rfl)) (fun _ _ _ h => h) (Or.inl ⟨by rfl, ?_⟩) ?_ ?_
                rotate_left
                · intro w'
                  go_simp
                  with_reducible rfl
                rotate_left
                · simp only [Act.put, List.setIfInBounds_toArray, List.set_cons_zero, List.set_cons_succ, i64_w, i32_w]
                  rfl
                refine pure_ (i := 1) (N := some 47) (v := ?_) (a' := ?_) #[true, true, false, false, false, false, false, false, false, false, false, false, false, false, false, false, false, false, false, false, false, false, false] rfl rfl (any_of HT_.out (by kernel_rfl)) (fun _ _ _ h => h) (Or.inl ⟨by rfl, ?_⟩) ?_ ?_
                rotate_left
                · intro w'
                  go_simp
                  with_reducible rfl
                rotate_left
                · simp only [Act.put, List.setIfInBounds_toArray, List.set_cons_zero, List.set_cons_succ, i64_w, i32_w]
                  rfl
                refine pure_ (i := 2) (N := some 48) (v := ?_) (a' := ?_) #[true, true, true, false, false, false, false, false, false, false, false, false, false, false, false, false, false, false, false, false, false, false, false] rfl rfl (any_of HT_.out (by kernel_rfl)) (fun _ _ _ h => h) (Or.inl ⟨by rfl, ?_⟩) ?_ ?_
                rotate_left
                · intro w'
                  go_simp
                  with_reducible rfl
                rotate_left
                · simp only [Act.put, List.setIfInBounds_toArray, List.set_cons_zero, List.set_cons_succ, i64_w, i32_w]
                  rfl
                refine take_ (i := 3) (N := some 49) (v := ?_) (a' := ?_) #[true, true, true, true, false, false, false, false, false, false, false, false, false, false, false, false, false, false, false, false, false, false, false] rfl rfl (take_ofW HT_.out HW_.out (by kernel_rfl)) (fun _ _ _ h => h) (Or.inl ⟨by rfl, ?_⟩) hHeld ?_ ?_
                rotate_left
                · rintro w' ⟨s0, s1, s2, s3, s4, s5⟩
                  go_simp
                  with_reducible rfl
                rotate_left
                · simp only [Act.put, List.setIfInBounds_toArray, List.set_cons_zero, List.set_cons_succ, i64_w, i32_w]
                  rfl
                refine take_ (i := 4) (N := some 50) (v := ?_) (a' := ?_) #[true, true, true, true, true, false, false, false, false, false, false, false, false, false, false, false, false, false, false, false, false, false, false] rfl rfl (take_ofW HT_.out HW_.out (by kernel_rfl)) (fun _ _ _ h => h) (Or.inl ⟨by rfl, ?_⟩) hHeld ?_ ?_
                rotate_left
                · rintro w' ⟨s0, s1, s2, s3, s4, s5⟩
                  go_simp
                  with_reducible rfl
                rotate_left
                · simp only [Act.put, List.setIfInBounds_toArray, List.set_cons_zero, List.set_cons_succ, i64_w, i32_w]
                  rfl
                refine one_ (i := 5) (N := some 51) #[true, true, true, true, true, true, false, false, false, false, false, false, false, false, false, false, false, false, false, false, false, false, false] rfl rfl (one_of HT_.out (by kernel_rfl)) (by decide) (fun K hK => ?_)
                refine goes_ Try.func21 (by kernel_rfl) rfl #[.agg #[.int .i64 a0_0, .int .i64 a0_1, .slice A0_2 l0_2.length c0_2], .agg #[.int .i64 t253, .int .i64 t254, .slice Ao64 t255.length co64]] (by rfl) rfl rfl (by (try simp only [List.map_toArray, List.map_cons, List.map_nil]); first | done | rfl | (simp only [List.length_drop, List.length_take]; rfl)) ?_
                with_reducible refine (serinetteref06_Same.calls kj7 a0_0 a0_1 _ _ l0_2 t253 t254 _ _ t255 false _ ?side1 ?side2 ?side3 ?side4 A23.out).mono ?_
                (case side1 => repeat (first | exact (Kd.C_below HR0_2.out HB.out) | (with_reducible refine Kd.C_alloc ?_ _) | (with_reducible refine Kd.C_drewN ?_ _) | (with_reducible refine Kd.C_drew ?_)))
                (case side2 => exact HC0_2.out)
                (case side3 => repeat (first | exact (Kd.S_reads' HO257.out).2.2 | (with_reducible refine Kd.C_alloc ?_ _) | (with_reducible refine Kd.C_drewN ?_ _) | (with_reducible refine Kd.C_drew ?_)))
                (case side4 => exact (Kd.S_reads' HO257.out).2.1)
                rintro e w67 ⟨rfl, hb⟩
                refine ⟨_, rfl, ?_⟩
                have n0_ := Aside0.mk (Kd.R_below (by (with_reducible repeat (first | apply Kd.R_alloc | apply Kd.R_drewN | apply Kd.R_drew)); exact HO252.out) hb)
                have n1_ := Aside0.mk (Kd.S_below (by (with_reducible repeat (first | apply Kd.S_alloc | apply Kd.S_drewN | apply Kd.S_drew)); exact HO257.out) hb)
                have n2_ := Aside0.mk (blk_below (g := gb246) (o := .cells #[.int .i64 a0_0, .int .i64 a0_1, .slice A0_2 l0_2.length c0_2] 24 (0, 0)) (by (with_reducible repeat (first | refine blk_drewN ?_ _ | refine blk_drew ?_ | refine blk_alloc ?_ _)); exact BK246.out) hb)
                have n3_ := Aside0.mk (blk_below (g := gb259) (o := .cells #[.int .i64 t253, .int .i64 t254, .slice Ao64 t255.length co64] 24 (0, 0)) (by (with_reducible repeat (first | refine blk_drewN ?_ _ | refine blk_drew ?_ | refine blk_alloc ?_ _)); exact BK259.out) hb)
                have n4_ := Aside0.mk (below_step (by repeat (first | (with_reducible first | exact HB.out | apply below_alloc | apply pw_below_drewN | apply below_drew1 | refine below_set ?_ GE246.out | refine below_set ?_ GE259.out) | exact HB.out)) hb)
                clear HO252
                clear HO257
                clear BK246
                clear BK259
                clear HB
                have HO252 := n0_
                have HO257 := n1_
                have BK246 := n2_
                have BK259 := n3_
                have HB := n4_
                clear n0_ n1_ n2_ n3_ n4_
                (try clear hb)
                (try clear hb2)
                (try clear hk)
                (try clear hi)
                refine hK.out _ _ ⟨(blk_cell BK246.out 0).trans rfl, (blk_cell BK246.out 1).trans rfl, (blk_cell BK246.out 2).trans rfl, (blk_cell BK259.out 0).trans rfl, (blk_cell BK259.out 1).trans rfl, (blk_cell BK259.out 2).trans rfl⟩ (fun hHeld => ?_)
                clear hK K
                refine norm_ (a' := ?_) ?_ ?_
                rotate_left
                · show Act.put _ (some 51) _ = _
                  simp only [Act.put, List.setIfInBounds_toArray, List.set_cons_zero, List.set_cons_succ, i64_w, i32_w]
                  rfl
                refine pure_ (i := 6) (N := some 52) (v := ?_) (a' := ?_) #[true, true, true, true, true, true, true, false, false, false, false, false, false, false, false, false, false, false, false, false, false, false, false] rfl rfl (any_of HT_.out (by kernel_rfl)) (fun _ _ _ h => h) (Or.inl ⟨by rfl, ?_⟩) ?_ ?_
                rotate_left
                · intro w'
                  go_simp
                  with_reducible rfl
                rotate_left
                · simp only [Act.put, List.setIfInBounds_toArray, List.set_cons_zero, List.set_cons_succ, i64_w, i32_w]
                  rfl
                refine pure_ (i := 7) (N := some 53) (v := ?_) (a' := ?_) #[true, true, true, true, true, true, true, true, false, false, false, false, false, false, false, false, false, false, false, false, false, false, false] rfl rfl (any_of HT_.out (by kernel_rfl)) (fun _ _ _ h => h) (Or.inl ⟨by rfl, ?_⟩) ?_ ?_
                rotate_left
                · intro w'
                  go_simp
                  with_reducible rfl
                rotate_left
                · simp only [Act.put, List.setIfInBounds_toArray, List.set_cons_zero, List.set_cons_succ, i64_w, i32_w]
                  rfl
                refine pure_ (i := 8) (N := some 54) (v := ?_) (a' := ?_) #[true, true, true, true, true, true, true, true, true, false, false, false, false, false, false, false, false, false, false, false, false, false, false] rfl rfl (any_of HT_.out (by kernel_rfl)) (fun _ _ _ h => h) (Or.inl ⟨by rfl, ?_⟩) ?_ ?_
                rotate_left
                · intro w'
                  go_simp
                  with_reducible rfl
                rotate_left
                · simp only [Act.put, List.setIfInBounds_toArray, List.set_cons_zero, List.set_cons_succ, i64_w, i32_w]
                  rfl
                refine pure_ (i := 9) (N := some 55) (v := undef) (a' := ?_) #[true, true, true, true, true, true, true, true, true, true, false, false, false, false, false, false, false, false, false, false, false, false, false] rfl rfl (any_of HT_.out (by kernel_rfl)) (fun _ _ _ h => h) (Or.inr ⟨by rfl, rfl⟩) ?_ ?_
                rotate_left
                · simp only [Act.put, List.setIfInBounds_toArray, List.set_cons_zero, List.set_cons_succ, i64_w, i32_w]
                  rfl
                refine pure_ (i := 10) (N := some 56) (v := undef) (a' := ?_) #[true, true, true, true, true, true, true, true, true, true, true, false, false, false, false, false, false, false, false, false, false, false, false] rfl rfl (any_of HT_.out (by kernel_rfl)) (fun _ _ _ h => h) (Or.inr ⟨by rfl, rfl⟩) ?_ ?_
                rotate_left
                · simp only [Act.put, List.setIfInBounds_toArray, List.set_cons_zero, List.set_cons_succ, i64_w, i32_w]
                  rfl
                refine pure_ (i := 11) (N := some 57) (v := undef) (a' := ?_) #[true, true, true, true, true, true, true, true, true, true, true, true, false, false, false, false, false, false, false, false, false, false, false] rfl rfl (any_of HT_.out (by kernel_rfl)) (fun _ _ _ h => h) (Or.inr ⟨by rfl, rfl⟩) ?_ ?_
                rotate_left
                · simp only [Act.put, List.setIfInBounds_toArray, List.set_cons_zero, List.set_cons_succ, i64_w, i32_w]
                  rfl
                refine pure_ (i := 12) (N := some 58) (v := undef) (a' := ?_) #[true, true, true, true, true, true, true, true, true, true, true, true, true, false, false, false, false, false, false, false, false, false, false] rfl rfl (any_of HT_.out (by kernel_rfl)) (fun _ _ _ h => h) (Or.inr ⟨by rfl, rfl⟩) ?_ ?_
                rotate_left
                · simp only [Act.put, List.setIfInBounds_toArray, List.set_cons_zero, List.set_cons_succ, i64_w, i32_w]
                  rfl
                refine pure_ (i := 13) (N := some 59) (v := undef) (a' := ?_) #[true, true, true, true, true, true, true, true, true, true, true, true, true, true, false, false, false, false, false, false, false, false, false] rfl rfl (any_of HT_.out (by kernel_rfl)) (fun _ _ _ h => h) (Or.inr ⟨by rfl, rfl⟩) ?_ ?_
                rotate_left
                · simp only [Act.put, List.setIfInBounds_toArray, List.set_cons_zero, List.set_cons_succ, i64_w, i32_w]
                  rfl
                refine pure_ (i := 14) (N := some 60) (v := undef) (a' := ?_) #[true, true, true, true, true, true, true, true, true, true, true, true, true, true, true, false, false, false, false, false, false, false, false] rfl rfl (any_of HT_.out (by kernel_rfl)) (fun _ _ _ h => h) (Or.inr ⟨by rfl, rfl⟩) ?_ ?_
                rotate_left
                · simp only [Act.put, List.setIfInBounds_toArray, List.set_cons_zero, List.set_cons_succ, i64_w, i32_w]
                  rfl
                refine pure_ (i := 15) (N := some 61) (v := undef) (a' := ?_) #[true, true, true, true, true, true, true, true, true, true, true, true, true, true, true, true, false, false, false, false, false, false, false] rfl rfl (any_of HT_.out (by kernel_rfl)) (fun _ _ _ h => h) (Or.inr ⟨by rfl, rfl⟩) ?_ ?_
                rotate_left
                · simp only [Act.put, List.setIfInBounds_toArray, List.set_cons_zero, List.set_cons_succ, i64_w, i32_w]
                  rfl
                refine pure_ (i := 16) (N := some 62) (v := undef) (a' := ?_) #[true, true, true, true, true, true, true, true, true, true, true, true, true, true, true, true, true, false, false, false, false, false, false] rfl rfl (any_of HT_.out (by kernel_rfl)) (fun _ _ _ h => h) (Or.inr ⟨by rfl, rfl⟩) ?_ ?_
                rotate_left
                · simp only [Act.put, List.setIfInBounds_toArray, List.set_cons_zero, List.set_cons_succ, i64_w, i32_w]
                  rfl
                refine pure_ (i := 17) (N := some 63) (v := undef) (a' := ?_) #[true, true, true, true, true, true, true, true, true, true, true, true, true, true, true, true, true, true, false, false, false, false, false] rfl rfl (any_of HT_.out (by kernel_rfl)) (fun _ _ _ h => h) (Or.inr ⟨by rfl, rfl⟩) ?_ ?_
                rotate_left
                · simp only [Act.put, List.setIfInBounds_toArray, List.set_cons_zero, List.set_cons_succ, i64_w, i32_w]
                  rfl
                refine pure_ (i := 18) (N := some 64) (v := undef) (a' := ?_) #[true, true, true, true, true, true, true, true, true, true, true, true, true, true, true, true, true, true, true, false, false, false, false] rfl rfl (any_of HT_.out (by kernel_rfl)) (fun _ _ _ h => h) (Or.inr ⟨by rfl, rfl⟩) ?_ ?_
                rotate_left
                · simp only [Act.put, List.setIfInBounds_toArray, List.set_cons_zero, List.set_cons_succ, i64_w, i32_w]
                  rfl
                refine pure_ (i := 19) (N := some 65) (v := undef) (a' := ?_) #[true, true, true, true, true, true, true, true, true, true, true, true, true, true, true, true, true, true, true, true, false, false, false] rfl rfl (any_of HT_.out (by kernel_rfl)) (fun _ _ _ h => h) (Or.inr ⟨by rfl, rfl⟩) ?_ ?_
                rotate_left
                · simp only [Act.put, List.setIfInBounds_toArray, List.set_cons_zero, List.set_cons_succ, i64_w, i32_w]
                  rfl
                refine pure_ (i := 20) (N := some 66) (v := undef) (a' := ?_) #[true, true, true, true, true, true, true, true, true, true, true, true, true, true, true, true, true, true, true, true, true, false, false] rfl rfl (any_of HT_.out (by kernel_rfl)) (fun _ _ _ h => h) (Or.inr ⟨by rfl, rfl⟩) ?_ ?_
                rotate_left
                · simp only [Act.put, List.setIfInBounds_toArray, List.set_cons_zero, List.set_cons_succ, i64_w, i32_w]
                  rfl
                refine pure_ (i := 21) (N := some 67) (v := undef) (a' := ?_) #[true, true, true, true, true, true, true, true, true, true, true, true, true, true, true, true, true, true, true, true, true, true, false] rfl rfl (any_of HT_.out (by kernel_rfl)) (fun _ _ _ h => h) (Or.inr ⟨by rfl, rfl⟩) ?_ ?_
                rotate_left
                · simp only [Act.put, List.setIfInBounds_toArray, List.set_cons_zero, List.set_cons_succ, i64_w, i32_w]
                  rfl
                refine pure_ (i := 22) (N := some 68) (v := ?_) (a' := ?_) #[true, true, true, true, true, true, true, true, true, true, true, true, true, true, true, true, true, true, true, true, true, true, true] rfl rfl (any_of HT_.out (by kernel_rfl)) (fun _ _ _ h => h) (Or.inl ⟨by rfl, ?_⟩) ?_ ?_
                rotate_left
                · intro w'
                  go_simp
                  with_reducible rfl
                rotate_left
                · simp only [Act.put, List.setIfInBounds_toArray, List.set_cons_zero, List.set_cons_succ, i64_w, i32_w]
                  rfl
                refine done_ (done_of HT_.out (by kernel_rfl)) ?_
                try go_wp2
                go_ret
                exact ⟨by first | rfl | (simp [errW_none, errW_some] <;> rfl) | (simp [*, errW_none, errW_some] <;> rfl), by repeat (first | (with_reducible first | exact HB.out | apply below_alloc | apply pw_below_drewN | apply below_drew1 | refine below_set ?_ GE246.out | refine below_set ?_ GE259.out) | exact HB.out)⟩
            · rw [if_neg c22] at H
              have c22b0 : (t258 == 0) = false := beq_eq_false_iff_ne.mpr c22
              have c22b1 : (t258 != 0) = true := bne_iff_ne.mpr c22
              obtain rfl := Option.some.inj H
              have hcz68_0 : w18.cell? ⟨gb246, 0, none⟩ = some (.int .i64 a0_0) := (blk_cell BK246.out 0).trans rfl
              have hcz68_1 : w18.cell? ⟨gb246, 1, none⟩ = some (.int .i64 a0_1) := (blk_cell BK246.out 1).trans rfl
              have hcz68_2 : w18.cell? ⟨gb246, 2, none⟩ = some (.slice A0_2 l0_2.length c0_2) := (blk_cell BK246.out 2).trans rfl
              have hfz68_0 := blk_frozen BK246.out 0
              have hfz68_1 := blk_frozen BK246.out 1
              have hfz68_2 := blk_frozen BK246.out 2
              try go_wp2_with (first | ((with_reducible refine gate_callee (f := 23) rfl ?_); refine goesL_ (some 33) rfl rfl Try.func23 (by kernel_rfl) rfl #[.agg #[.int .i64 a0_0, .int .i64 a0_1, .slice A0_2 l0_2.length c0_2]] rfl (by (try simp only [List.map_toArray, List.map_cons, List.map_nil]); first | done | rfl | (simp only [List.length_drop, List.length_take]; rfl)) ?_; (with_reducible refine (pcm_Bytes.calls a0_0 a0_1 _ _ l0_2 t250 _ ?side1 ?side2 A20.out).mono ?_); (case side1 => repeat (first | exact (Kd.C_below HR0_2.out HB.out) | (with_reducible refine Kd.C_alloc ?_ _) | (with_reducible refine Kd.C_drewN ?_ _) | (with_reducible refine Kd.C_drew ?_))); (case side2 => exact HC0_2.out); rintro e w69 ⟨v251, rfl, ho0, hb⟩; refine ⟨_, rfl, ?_⟩; have n0_ := Aside0.mk (Kd.R_lower ho0 (below_size (by repeat (first | (with_reducible first | exact HB.out | apply below_alloc | apply pw_below_drewN | apply below_drew1 | refine below_set ?_ GE246.out) | exact HB.out)))); have n1_ := Aside0.mk (blk_below (g := gb246) (o := .cells #[.int .i64 a0_0, .int .i64 a0_1, .slice A0_2 l0_2.length c0_2] 24 (0, 0)) (by (with_reducible repeat (first | refine blk_drewN ?_ _ | refine blk_drew ?_ | refine blk_alloc ?_ _)); exact BK246.out) hb); have n2_ := Aside0.mk (below_step (by repeat (first | (with_reducible first | exact HB.out | apply below_alloc | apply pw_below_drewN | apply below_drew1 | refine below_set ?_ GE246.out) | exact HB.out)) hb); clear BK246; clear HB; have HO252 := n0_; have BK246 := n1_; have HB := n2_; clear n0_ n1_ n2_; (try clear hb); (try clear hb2); (try clear hk); (try clear hi); (try clear ho0); have hcz70_0 : w69.cell? ⟨gb246, 0, none⟩ = some (.int .i64 a0_0) := (blk_cell BK246.out 0).trans rfl; have hcz70_1 : w69.cell? ⟨gb246, 1, none⟩ = some (.int .i64 a0_1) := (blk_cell BK246.out 1).trans rfl; have hcz70_2 : w69.cell? ⟨gb246, 2, none⟩ = some (.slice A0_2 l0_2.length c0_2) := (blk_cell BK246.out 2).trans rfl; have hfz70_0 := blk_frozen BK246.out 0; have hfz70_1 := blk_frozen BK246.out 1; have hfz70_2 := blk_frozen BK246.out 2; obtain ⟨Ao71, co71, eo71⟩ := Kd.R_slice HO252.out; subst eo71) | ((with_reducible refine gate_callee (f := 19) rfl ?_); refine goesL_ (some 43) rfl rfl Try.func19 (by kernel_rfl) rfl #[.slice Ao71 t250.length co71, .int .i64 a0_0, .int .i64 a0_1, .int .i64 (l0_2.length : Int)] rfl (by (try simp only [List.map_toArray, List.map_cons, List.map_nil]); first | done | rfl | (simp only [List.length_drop, List.length_take]; rfl)) ?_; (with_reducible refine (pcm_Unbytes.calls kj7 _ _ t250 a0_0 a0_1 (l0_2.length : Int) t253 t254 t255 t258 _ ?side1 ?side2 A21.out).mono ?_); (case side1 => repeat (first | exact (Kd.R_reads' HO252.out).2.2 | (with_reducible refine Kd.C_alloc ?_ _) | (with_reducible refine Kd.C_drewN ?_ _) | (with_reducible refine Kd.C_drew ?_))); (case side2 => exact (Kd.R_reads' HO252.out).2.1); rintro e w72 ⟨v256, rfl, ho0, hb⟩; refine ⟨_, rfl, ?_⟩; have n0_ := Aside0.mk (Kd.R_below (by (with_reducible repeat (first | apply Kd.R_alloc | apply Kd.R_drewN | apply Kd.R_drew)); exact HO252.out) hb); have n1_ := Aside0.mk (Kd.S_lower ho0 (below_size (by repeat (first | (with_reducible first | exact HB.out | apply below_alloc | apply pw_below_drewN | apply below_drew1 | refine below_set ?_ GE246.out) | exact HB.out)))); have n2_ := Aside0.mk (blk_below (g := gb246) (o := .cells #[.int .i64 a0_0, .int .i64 a0_1, .slice A0_2 l0_2.length c0_2] 24 (0, 0)) (by (with_reducible repeat (first | refine blk_drewN ?_ _ | refine blk_drew ?_ | refine blk_alloc ?_ _)); exact BK246.out) hb); have n3_ := Aside0.mk (below_step (by repeat (first | (with_reducible first | exact HB.out | apply below_alloc | apply pw_below_drewN | apply below_drew1 | refine below_set ?_ GE246.out) | exact HB.out)) hb); clear HO252; clear BK246; clear HB; have HO252 := n0_; have HO257 := n1_; have BK246 := n2_; have HB := n3_; clear n0_ n1_ n2_ n3_; (try clear hb); (try clear hb2); (try clear hk); (try clear hi); (try clear ho0)) | ((with_reducible refine gate_dst (N := 14) rfl ?_); (try (refine gate_guard (by rfl) ?_; dsimp only)); refine box_event ?hg (N := 14) ?hd (cs := #[.int .i64 0, .int .i64 0, .slice none 0 0]) (t := 24) ?hr ?_; (case hd => rfl); (case hg => rfl); (case hr => first | (go_simp; done) | (go_simp; rfl)); intro gb259 hg w73 hbox hb; have n0_ := Aside0.mk (Kd.R_below (by (with_reducible repeat (first | apply Kd.R_alloc | apply Kd.R_drewN | apply Kd.R_drew)); exact HO252.out) hb); have n1_ := Aside0.mk (Kd.S_below (by (with_reducible repeat (first | apply Kd.S_alloc | apply Kd.S_drewN | apply Kd.S_drew)); exact HO257.out) hb); have n2_ := Aside0.mk (blk_below (g := gb246) (o := .cells #[.int .i64 a0_0, .int .i64 a0_1, .slice A0_2 l0_2.length c0_2] 24 (0, 0)) (by (with_reducible repeat (first | refine blk_drewN ?_ _ | refine blk_drew ?_ | refine blk_alloc ?_ _)); exact BK246.out) hb); have n3_ := Aside0.mk (below_step (by repeat (first | (with_reducible first | exact HB.out | apply below_alloc | apply pw_below_drewN | apply below_drew1 | refine below_set ?_ GE246.out) | exact HB.out)) hb); have n4_ := Aside0.mk (hbox); have n5_ := Aside0.mk ((by rw [hg]; exact (below_size (by repeat (first | (with_reducible first | exact HB.out | apply below_alloc | apply pw_below_drewN | apply below_drew1 | refine below_set ?_ GE246.out) | exact HB.out))) : w.heap.size ≤ gb259)); have n6_ := Aside0.mk ((by rw [hg]; exact (below_size (by repeat (first | (with_reducible first | exact HB.out | apply below_alloc | apply pw_below_drewN | apply below_drew1 | refine below_set ?_ GE246.out) | exact HB.out))) : w.heap.size ≤ gb259)); have n7_ := Aside0.mk ((by rw [hg]; exact Nat.ne_of_lt (blk_lt (g := gb246) (o := .cells #[.int .i64 a0_0, .int .i64 a0_1, .slice A0_2 l0_2.length c0_2] 24 (0, 0)) (by (with_reducible repeat (first | refine blk_drewN ?_ _ | refine blk_drew ?_ | refine blk_alloc ?_ _)); exact BK246.out)) : gb246 ≠ gb259)); have n8_ := Aside0.mk ((by rw [hg]; exact Nat.ne_of_gt (blk_lt (g := gb246) (o := .cells #[.int .i64 a0_0, .int .i64 a0_1, .slice A0_2 l0_2.length c0_2] 24 (0, 0)) (by (with_reducible repeat (first | refine blk_drewN ?_ _ | refine blk_drew ?_ | refine blk_alloc ?_ _)); exact BK246.out)) : gb259 ≠ gb246)); clear HO252; clear HO257; clear BK246; clear HB; have HO252 := n0_; have HO257 := n1_; have BK246 := n2_; have HB := n3_; have BK259 := n4_; have GW259 := n5_; have GE259 := n6_; have NB246_259 := n7_; have NB259_246 := n8_; clear n0_ n1_ n2_ n3_ n4_ n5_ n6_ n7_ n8_; clear hb hbox hg; have hnb74 := NB259_246.out; have hnc74 := NB246_259.out; have hcz75_0 : w73.cell? ⟨gb259, 0, none⟩ = some (.int .i64 0) := (blk_cell BK259.out 0).trans rfl; have hcz75_1 : w73.cell? ⟨gb259, 1, none⟩ = some (.int .i64 0) := (blk_cell BK259.out 1).trans rfl; have hcz75_2 : w73.cell? ⟨gb259, 2, none⟩ = some (.slice none 0 0) := (blk_cell BK259.out 2).trans rfl; have hfz75_0 := blk_frozen BK259.out 0; have hfz75_1 := blk_frozen BK259.out 1; have hfz75_2 := blk_frozen BK259.out 2; obtain ⟨Ao76, co76, eo76⟩ := Kd.S_slice HO257.out; subst eo76))
              have n0_ : Aside0 (Kd.R (Kd.int .u8) 5 (((w73.setCell ⟨gb259, 0, none⟩ (.int .i64 t253)).setCell ⟨gb259, 1, none⟩ (.int .i64 t254)).setCell ⟨gb259, 2, none⟩ (.slice Ao76 t255.length co76)) w.heap.size (fun _ => True) (.slice Ao71 t250.length co71) t250) := ⟨by (with_reducible repeat (first | apply Kd.R_alloc | apply Kd.R_drewN | apply Kd.R_drew)); exact Kd.R_mono (Kd.R_far (p := ⟨gb259, 2, none⟩) (Kd.R_far (p := ⟨gb259, 1, none⟩) (Kd.R_far (p := ⟨gb259, 0, none⟩) (Kd.R_types HO252.out BK259.out (by decide)) (fun _ hk => hk.2) (.int .i64 t253)) (fun _ hk => hk.2) (.int .i64 t254)) (fun _ hk => hk.2) (.slice Ao76 t255.length co76)) (fun _ hk => trivial)⟩
              have n1_ : Aside0 (Kd.S (Kd.slice 3 (Kd.int .i64)) 45 (((w73.setCell ⟨gb259, 0, none⟩ (.int .i64 t253)).setCell ⟨gb259, 1, none⟩ (.int .i64 t254)).setCell ⟨gb259, 2, none⟩ (.slice Ao76 t255.length co76)) w.heap.size (fun _ => True) (.slice Ao76 t255.length co76) t255) := ⟨by (with_reducible repeat (first | apply Kd.S_alloc | apply Kd.S_drewN | apply Kd.S_drew)); exact Kd.S_mono (Kd.S_far (p := ⟨gb259, 2, none⟩) (Kd.S_far (p := ⟨gb259, 1, none⟩) (Kd.S_far (p := ⟨gb259, 0, none⟩) (Kd.S_types HO257.out BK259.out (by decide)) (fun _ hk => hk.2) (.int .i64 t253)) (fun _ hk => hk.2) (.int .i64 t254)) (fun _ hk => hk.2) (.slice Ao76 t255.length co76)) (fun _ hk => trivial)⟩
              have n2_ : Aside0 ((((w73.setCell ⟨gb259, 0, none⟩ (.int .i64 t253)).setCell ⟨gb259, 1, none⟩ (.int .i64 t254)).setCell ⟨gb259, 2, none⟩ (.slice Ao76 t255.length co76)).heap[gb246]? = some (.cells #[.int .i64 a0_0, .int .i64 a0_1, .slice A0_2 l0_2.length c0_2] 24 (0, 0))) := ⟨by (with_reducible repeat (first | refine blk_drewN ?_ _ | refine blk_drew ?_ | refine blk_alloc ?_ _)); refine blk_far ?_ NB246_259.out _; (with_reducible repeat (first | refine blk_drewN ?_ _ | refine blk_drew ?_ | refine blk_alloc ?_ _)); refine blk_far ?_ NB246_259.out _; (with_reducible repeat (first | refine blk_drewN ?_ _ | refine blk_drew ?_ | refine blk_alloc ?_ _)); refine blk_far ?_ NB246_259.out _; (with_reducible repeat (first | refine blk_drewN ?_ _ | refine blk_drew ?_ | refine blk_alloc ?_ _)); exact BK246.out⟩
              have n3_ : Aside0 ((((w73.setCell ⟨gb259, 0, none⟩ (.int .i64 t253)).setCell ⟨gb259, 1, none⟩ (.int .i64 t254)).setCell ⟨gb259, 2, none⟩ (.slice Ao76 t255.length co76)).heap[gb259]? = some (.cells #[.int .i64 t253, .int .i64 t254, .slice Ao76 t255.length co76] 24 (0, 0))) := ⟨by (with_reducible repeat (first | refine blk_drewN ?_ _ | refine blk_drew ?_ | refine blk_alloc ?_ _)); refine blk_put (cs := #[.int .i64 t253, .int .i64 t254, .slice none 0 0]) ?_ 2 _ rfl; (with_reducible repeat (first | refine blk_drewN ?_ _ | refine blk_drew ?_ | refine blk_alloc ?_ _)); refine blk_put (cs := #[.int .i64 t253, .int .i64 0, .slice none 0 0]) ?_ 1 _ rfl; (with_reducible repeat (first | refine blk_drewN ?_ _ | refine blk_drew ?_ | refine blk_alloc ?_ _)); refine blk_put (cs := #[.int .i64 0, .int .i64 0, .slice none 0 0]) ?_ 0 _ rfl; (with_reducible repeat (first | refine blk_drewN ?_ _ | refine blk_drew ?_ | refine blk_alloc ?_ _)); exact BK259.out⟩
              have n4_ : Aside0 (Below w.heap.size w (((w73.setCell ⟨gb259, 0, none⟩ (.int .i64 t253)).setCell ⟨gb259, 1, none⟩ (.int .i64 t254)).setCell ⟨gb259, 2, none⟩ (.slice Ao76 t255.length co76))) := ⟨by repeat (first | (with_reducible first | exact HB.out | apply below_alloc | apply pw_below_drewN | apply below_drew1 | refine below_set ?_ GE246.out | refine below_set ?_ GE259.out) | exact HB.out)⟩
              (try clear HO252)
              (try clear HO257)
              (try clear BK246)
              (try clear BK259)
              (try clear HB)
              generalize (((w73.setCell ⟨gb259, 0, none⟩ (.int .i64 t253)).setCell ⟨gb259, 1, none⟩ (.int .i64 t254)).setCell ⟨gb259, 2, none⟩ (.slice Ao76 t255.length co76)) = w77 at n0_ n1_ n2_ n3_ n4_ ⊢
              have HO252 := n0_
              have HO257 := n1_
              have BK246 := n2_
              have BK259 := n3_
              have HB := n4_
              clear n0_ n1_ n2_ n3_ n4_
              have n0_ := Aside0.mk (Kd.R_drew HO252.out)
              have n1_ := Aside0.mk (Kd.S_drew HO257.out)
              have n2_ := Aside0.mk (blk_drew BK246.out)
              have n3_ := Aside0.mk (blk_drew BK259.out)
              have n4_ := Aside0.mk (below_drew1 HB.out)
              clear HO252
              clear HO257
              clear BK246
              clear BK259
              clear HB
              have HO252 := n0_
              have HO257 := n1_
              have BK246 := n2_
              have BK259 := n3_
              have HB := n4_
              clear n0_ n1_ n2_ n3_ n4_
              refine start_ (n := 23) (S := fun w' => True) (ds := []) #[false, false, false, false, false, false, false, false, false, false, false, false, false, false, false, false, false, false, false, false, false, false, false] (by kernel_rfl) rfl rfl trivial (fun hHeld => ?_); refine with_tabW serinettelaw06_PcmBack.tab8 serinettelaw06_PcmBack.bits8 (fun HT_ HW_ => ?_)
              generalize w77.drew = w78 at HO252 HO257 BK246 BK259 HB hHeld ⊢
              refine pure_ (i := 0) (N := some 46) (v := ?_) (a' := ?_) #[true, false, false, false, false, false, false, false, false, false, false, false, false, false, false, false, false, false, false, false, false, false, false] rfl rfl (any_of HT_.out (by kernel_rfl)) (fun _ _ _ h => h) (Or.inl ⟨by rfl, ?_⟩) ?_ ?_
              rotate_left
              · intro w'
                go_simp
                with_reducible rfl
              rotate_left
              · simp only [Act.put, List.setIfInBounds_toArray, List.set_cons_zero, List.set_cons_succ, i64_w, i32_w]
                rfl
              refine pure_ (i := 1) (N := some 47) (v := ?_) (a' := ?_) #[true, true, false, false, false, false, false, false, false, false, false, false, false, false, false, false, false, false, false, false, false, false, false] rfl rfl (any_of HT_.out (by kernel_rfl)) (fun _ _ _ h => h) (Or.inl ⟨by rfl, ?_⟩) ?_ ?_
              rotate_left
              · intro w'
                go_simp
                with_reducible rfl
              rotate_left
              · simp only [Act.put, List.setIfInBounds_toArray, List.set_cons_zero, List.set_cons_succ, i64_w, i32_w]
                rfl
              refine pure_ (i := 2) (N := some 48) (v := ?_) (a' := ?_) #[true, true, true, false, false, false, false, false, false, false, false, false, false, false, false, false, false, false, false, false, false, false, false] rfl rfl (any_of HT_.out (by kernel_rfl)) (fun _ _ _ h => h) (Or.inl ⟨by rfl, ?_⟩) ?_ ?_
              rotate_left
              · intro w'
                go_simp
                with_reducible rfl
              rotate_left
              · simp only [Act.put, List.setIfInBounds_toArray, List.set_cons_zero, List.set_cons_succ, i64_w, i32_w]
                rfl
              refine pure_ (i := 3) (N := some 49) (v := undef) (a' := ?_) #[true, true, true, true, false, false, false, false, false, false, false, false, false, false, false, false, false, false, false, false, false, false, false] rfl rfl (any_of HT_.out (by kernel_rfl)) (fun _ _ _ h => h) (Or.inr ⟨by rfl, rfl⟩) ?_ ?_
              rotate_left
              · simp only [Act.put, List.setIfInBounds_toArray, List.set_cons_zero, List.set_cons_succ, i64_w, i32_w]
                rfl
              refine pure_ (i := 4) (N := some 50) (v := undef) (a' := ?_) #[true, true, true, true, true, false, false, false, false, false, false, false, false, false, false, false, false, false, false, false, false, false, false] rfl rfl (any_of HT_.out (by kernel_rfl)) (fun _ _ _ h => h) (Or.inr ⟨by rfl, rfl⟩) ?_ ?_
              rotate_left
              · simp only [Act.put, List.setIfInBounds_toArray, List.set_cons_zero, List.set_cons_succ, i64_w, i32_w]
                rfl
              refine pure_ (i := 5) (N := some 51) (v := undef) (a' := ?_) #[true, true, true, true, true, true, false, false, false, false, false, false, false, false, false, false, false, false, false, false, false, false, false] rfl rfl (any_of HT_.out (by kernel_rfl)) (fun _ _ _ h => h) (Or.inr ⟨by rfl, rfl⟩) ?_ ?_
              rotate_left
              · simp only [Act.put, List.setIfInBounds_toArray, List.set_cons_zero, List.set_cons_succ, i64_w, i32_w]
                rfl
              refine pure_ (i := 6) (N := some 52) (v := undef) (a' := ?_) #[true, true, true, true, true, true, true, false, false, false, false, false, false, false, false, false, false, false, false, false, false, false, false] rfl rfl (any_of HT_.out (by kernel_rfl)) (fun _ _ _ h => h) (Or.inr ⟨by rfl, rfl⟩) ?_ ?_
              rotate_left
              · simp only [Act.put, List.setIfInBounds_toArray, List.set_cons_zero, List.set_cons_succ, i64_w, i32_w]
                rfl
              refine pure_ (i := 7) (N := some 53) (v := ?_) (a' := ?_) #[true, true, true, true, true, true, true, true, false, false, false, false, false, false, false, false, false, false, false, false, false, false, false] rfl rfl (any_of HT_.out (by kernel_rfl)) (fun _ _ _ h => h) (Or.inl ⟨by rfl, ?_⟩) ?_ ?_
              rotate_left
              · intro w'
                go_simp
                with_reducible rfl
              rotate_left
              · simp only [Act.put, List.setIfInBounds_toArray, List.set_cons_zero, List.set_cons_succ, i64_w, i32_w]
                rfl
              refine pure_ (i := 8) (N := some 54) (v := ?_) (a' := ?_) #[true, true, true, true, true, true, true, true, true, false, false, false, false, false, false, false, false, false, false, false, false, false, false] rfl rfl (any_of HT_.out (by kernel_rfl)) (fun _ _ _ h => h) (Or.inl ⟨by rfl, ?_⟩) ?_ ?_
              rotate_left
              · intro w'
                go_simp
                with_reducible rfl
              rotate_left
              · simp only [Act.put, List.setIfInBounds_toArray, List.set_cons_zero, List.set_cons_succ, i64_w, i32_w]
                rfl
              refine pure_ (i := 9) (N := some 55) (v := undef) (a' := ?_) #[true, true, true, true, true, true, true, true, true, true, false, false, false, false, false, false, false, false, false, false, false, false, false] rfl rfl (any_of HT_.out (by kernel_rfl)) (fun _ _ _ h => h) (Or.inr ⟨by rfl, rfl⟩) ?_ ?_
              rotate_left
              · simp only [Act.put, List.setIfInBounds_toArray, List.set_cons_zero, List.set_cons_succ, i64_w, i32_w]
                rfl
              refine pure_ (i := 10) (N := some 56) (v := undef) (a' := ?_) #[true, true, true, true, true, true, true, true, true, true, true, false, false, false, false, false, false, false, false, false, false, false, false] rfl rfl (any_of HT_.out (by kernel_rfl)) (fun _ _ _ h => h) (Or.inr ⟨by rfl, rfl⟩) ?_ ?_
              rotate_left
              · simp only [Act.put, List.setIfInBounds_toArray, List.set_cons_zero, List.set_cons_succ, i64_w, i32_w]
                rfl
              refine pure_ (i := 11) (N := some 57) (v := undef) (a' := ?_) #[true, true, true, true, true, true, true, true, true, true, true, true, false, false, false, false, false, false, false, false, false, false, false] rfl rfl (any_of HT_.out (by kernel_rfl)) (fun _ _ _ h => h) (Or.inr ⟨by rfl, rfl⟩) ?_ ?_
              rotate_left
              · simp only [Act.put, List.setIfInBounds_toArray, List.set_cons_zero, List.set_cons_succ, i64_w, i32_w]
                rfl
              refine pure_ (i := 12) (N := some 58) (v := undef) (a' := ?_) #[true, true, true, true, true, true, true, true, true, true, true, true, true, false, false, false, false, false, false, false, false, false, false] rfl rfl (any_of HT_.out (by kernel_rfl)) (fun _ _ _ h => h) (Or.inr ⟨by rfl, rfl⟩) ?_ ?_
              rotate_left
              · simp only [Act.put, List.setIfInBounds_toArray, List.set_cons_zero, List.set_cons_succ, i64_w, i32_w]
                rfl
              refine pure_ (i := 13) (N := some 59) (v := undef) (a' := ?_) #[true, true, true, true, true, true, true, true, true, true, true, true, true, true, false, false, false, false, false, false, false, false, false] rfl rfl (any_of HT_.out (by kernel_rfl)) (fun _ _ _ h => h) (Or.inr ⟨by rfl, rfl⟩) ?_ ?_
              rotate_left
              · simp only [Act.put, List.setIfInBounds_toArray, List.set_cons_zero, List.set_cons_succ, i64_w, i32_w]
                rfl
              refine pure_ (i := 14) (N := some 60) (v := undef) (a' := ?_) #[true, true, true, true, true, true, true, true, true, true, true, true, true, true, true, false, false, false, false, false, false, false, false] rfl rfl (any_of HT_.out (by kernel_rfl)) (fun _ _ _ h => h) (Or.inr ⟨by rfl, rfl⟩) ?_ ?_
              rotate_left
              · simp only [Act.put, List.setIfInBounds_toArray, List.set_cons_zero, List.set_cons_succ, i64_w, i32_w]
                rfl
              refine pure_ (i := 15) (N := some 61) (v := undef) (a' := ?_) #[true, true, true, true, true, true, true, true, true, true, true, true, true, true, true, true, false, false, false, false, false, false, false] rfl rfl (any_of HT_.out (by kernel_rfl)) (fun _ _ _ h => h) (Or.inr ⟨by rfl, rfl⟩) ?_ ?_
              rotate_left
              · simp only [Act.put, List.setIfInBounds_toArray, List.set_cons_zero, List.set_cons_succ, i64_w, i32_w]
                rfl
              refine pure_ (i := 16) (N := some 62) (v := undef) (a' := ?_) #[true, true, true, true, true, true, true, true, true, true, true, true, true, true, true, true, true, false, false, false, false, false, false] rfl rfl (any_of HT_.out (by kernel_rfl)) (fun _ _ _ h => h) (Or.inr ⟨by rfl, rfl⟩) ?_ ?_
              rotate_left
              · simp only [Act.put, List.setIfInBounds_toArray, List.set_cons_zero, List.set_cons_succ, i64_w, i32_w]
                rfl
              refine pure_ (i := 17) (N := some 63) (v := undef) (a' := ?_) #[true, true, true, true, true, true, true, true, true, true, true, true, true, true, true, true, true, true, false, false, false, false, false] rfl rfl (any_of HT_.out (by kernel_rfl)) (fun _ _ _ h => h) (Or.inr ⟨by rfl, rfl⟩) ?_ ?_
              rotate_left
              · simp only [Act.put, List.setIfInBounds_toArray, List.set_cons_zero, List.set_cons_succ, i64_w, i32_w]
                rfl
              refine pure_ (i := 18) (N := some 64) (v := undef) (a' := ?_) #[true, true, true, true, true, true, true, true, true, true, true, true, true, true, true, true, true, true, true, false, false, false, false] rfl rfl (any_of HT_.out (by kernel_rfl)) (fun _ _ _ h => h) (Or.inr ⟨by rfl, rfl⟩) ?_ ?_
              rotate_left
              · simp only [Act.put, List.setIfInBounds_toArray, List.set_cons_zero, List.set_cons_succ, i64_w, i32_w]
                rfl
              refine pure_ (i := 19) (N := some 65) (v := undef) (a' := ?_) #[true, true, true, true, true, true, true, true, true, true, true, true, true, true, true, true, true, true, true, true, false, false, false] rfl rfl (any_of HT_.out (by kernel_rfl)) (fun _ _ _ h => h) (Or.inr ⟨by rfl, rfl⟩) ?_ ?_
              rotate_left
              · simp only [Act.put, List.setIfInBounds_toArray, List.set_cons_zero, List.set_cons_succ, i64_w, i32_w]
                rfl
              refine pure_ (i := 20) (N := some 66) (v := undef) (a' := ?_) #[true, true, true, true, true, true, true, true, true, true, true, true, true, true, true, true, true, true, true, true, true, false, false] rfl rfl (any_of HT_.out (by kernel_rfl)) (fun _ _ _ h => h) (Or.inr ⟨by rfl, rfl⟩) ?_ ?_
              rotate_left
              · simp only [Act.put, List.setIfInBounds_toArray, List.set_cons_zero, List.set_cons_succ, i64_w, i32_w]
                rfl
              refine pure_ (i := 21) (N := some 67) (v := undef) (a' := ?_) #[true, true, true, true, true, true, true, true, true, true, true, true, true, true, true, true, true, true, true, true, true, true, false] rfl rfl (any_of HT_.out (by kernel_rfl)) (fun _ _ _ h => h) (Or.inr ⟨by rfl, rfl⟩) ?_ ?_
              rotate_left
              · simp only [Act.put, List.setIfInBounds_toArray, List.set_cons_zero, List.set_cons_succ, i64_w, i32_w]
                rfl
              refine pure_ (i := 22) (N := some 68) (v := ?_) (a' := ?_) #[true, true, true, true, true, true, true, true, true, true, true, true, true, true, true, true, true, true, true, true, true, true, true] rfl rfl (any_of HT_.out (by kernel_rfl)) (fun _ _ _ h => h) (Or.inl ⟨by rfl, ?_⟩) ?_ ?_
              rotate_left
              · intro w'
                go_simp
                with_reducible rfl
              rotate_left
              · simp only [Act.put, List.setIfInBounds_toArray, List.set_cons_zero, List.set_cons_succ, i64_w, i32_w]
                rfl
              refine done_ (done_of HT_.out (by kernel_rfl)) ?_
              try go_wp2
              go_ret
              exact ⟨by first | rfl | (simp [errW_none, errW_some] <;> rfl) | (simp [*, errW_none, errW_some] <;> rfl), by repeat (first | (with_reducible first | exact HB.out | apply below_alloc | apply pw_below_drewN | apply below_drew1 | refine below_set ?_ GE246.out | refine below_set ?_ GE259.out) | exact HB.out)⟩
          · rw [if_neg c19] at H
            have c19b0 : (t249 == 0) = false := beq_eq_false_iff_ne.mpr c19
            have c19b1 : (t249 != 0) = true := bne_iff_ne.mpr c19
            (first | rw [c19b0] | (simp only [i64_w, i32_w]; rw [c19b0]) | skip)
            have H' := Aside0.mk H
            clear H
            go_wp2
            go_meet
            case rel => exact ⟨_, H', ⟨by have := HJ7.out; first | omega | exact Nat.le_refl _⟩, ⟨by (with_reducible repeat (first | refine blk_drewN ?_ _ | refine blk_drew ?_ | refine blk_alloc ?_ _)); exact BK246.out⟩, ⟨by repeat (first | (with_reducible first | exact HB.out | apply below_alloc | apply pw_below_drewN | apply below_drew1 | refine below_set ?_ GE246.out) | exact HB.out)⟩⟩
        case rest =>
          clear HC16
          try clear c1
          try clear c2
          try clear p2
          try clear c6
          try clear c7
          try clear c13
          try clear c17
          try clear c19
          try clear c19b0
          try clear c19b1
          try clear c21
          try clear c22
          try clear c22b0
          try clear c22b1
          try clear c23
          try clear c24
          try clear c62
          try clear c74
          try clear hcz56_0
          try clear hcz56_1
          try clear hcz56_2
          try clear hcz58_0
          try clear hcz58_1
          try clear hcz58_2
          try clear hcz63_0
          try clear hcz63_1
          try clear hcz63_2
          try clear hcz68_0
          try clear hcz68_1
          try clear hcz68_2
          try clear hcz70_0
          try clear hcz70_1
          try clear hcz70_2
          try clear hcz75_0
          try clear hcz75_1
          try clear hcz75_2
          try clear hfz56_0
          try clear hfz56_1
          try clear hfz56_2
          try clear hfz58_0
          try clear hfz58_1
          try clear hfz58_2
          try clear hfz63_0
          try clear hfz63_1
          try clear hfz63_2
          try clear hfz68_0
          try clear hfz68_1
          try clear hfz68_2
          try clear hfz70_0
          try clear hfz70_1
          try clear hfz70_2
          try clear hfz75_0
          try clear hfz75_1
          try clear hfz75_2
          obtain ⟨kq, HA, HJ15, BK246, HB⟩ := hcut
          cases kq with
          | zero => exact absurd HA.out (by simp [serinettelaw06_PcmBack.j1])
          | succ kj15 =>
            have H := HA.out
            clear HA
            simp only [serinettelaw06_PcmBack.j1] at H
            replace H := Option.bind_eq_some_iff.mp H
            obtain ⟨⟨t263, t264, t265, t268⟩, A790, H⟩ := H
            replace H : (if t268 = 0 then (if t247 = true then ((pcm_Check.f t263 t264 t265).bind fun t270 => (if t270 = 0 then ((pcm_Bytes.f t263 t264 t265).bind fun t271 => ((serinetteref01_Same.f kj15 t271 l1).bind fun t274 => (some t274))) else (some false))) else (some false)) else (if t247 = true then (some ((t265.length : Int) == 0)) else (some false))) = some r := H
            have A79 := Aside0.mk A790
            clear A790
            by_cases c80 : t268 = 0
            · rw [if_pos c80] at H
              have c80b0 : (t268 == 0) = true := beq_iff_eq.mpr c80
              have c80b1 : (t268 != 0) = false := bne_eq_false_iff_eq.mpr c80
              clear c80
              by_cases c81 : t247 = true
              · subst c81
                have H1 : ((pcm_Check.f t263 t264 t265).bind fun t270 => (if t270 = 0 then ((pcm_Bytes.f t263 t264 t265).bind fun t271 => ((serinetteref01_Same.f kj15 t271 l1).bind fun t274 => (some t274))) else (some false))) = some r := by rw [if_pos rfl] at H; exact H
                clear H
                have H := H1
                clear H1
                replace H := Option.bind_eq_some_iff.mp H
                obtain ⟨t270, A820, H⟩ := H
                replace H : (if t270 = 0 then ((pcm_Bytes.f t263 t264 t265).bind fun t271 => ((serinetteref01_Same.f kj15 t271 l1).bind fun t274 => (some t274))) else (some false)) = some r := H
                have A82 := Aside0.mk A820
                clear A820
                by_cases c83 : t270 = 0
                · rw [if_pos c83] at H
                  have c83b0 : (t270 == 0) = true := beq_iff_eq.mpr c83
                  have c83b1 : (t270 != 0) = false := bne_eq_false_iff_eq.mpr c83
                  clear c83
                  replace H := Option.bind_eq_some_iff.mp H
                  obtain ⟨t271, A840, H⟩ := H
                  replace H : ((serinetteref01_Same.f kj15 t271 l1).bind fun t274 => (some t274)) = some r := H
                  have A84 := Aside0.mk A840
                  clear A840
                  replace H := Option.bind_eq_some_iff.mp H
                  obtain ⟨t274, A850, H⟩ := H
                  replace H : (some t274) = some r := H
                  have A85 := Aside0.mk A850
                  clear A850
                  obtain rfl := Option.some.inj H
                  go_wp2_with (first | ((with_reducible refine gate_callee (f := 19) rfl ?_); refine goesL_ (some 74) rfl rfl Try.func19 (by kernel_rfl) rfl #[.slice A1 l1.length c1, .int .i64 a2, .int .i64 a3, .int .i64 a4] rfl (by (try simp only [List.map_toArray, List.map_cons, List.map_nil]); first | done | rfl | (simp only [List.length_drop, List.length_take]; rfl)) ?_; (with_reducible refine (pcm_Unbytes.calls kj15 _ _ l1 a2 a3 a4 t263 t264 t265 t268 _ ?side1 ?side2 A79.out).mono ?_); (case side1 => repeat (first | exact (Kd.C_below HR1.out HB.out) | (with_reducible refine Kd.C_alloc ?_ _) | (with_reducible refine Kd.C_drewN ?_ _) | (with_reducible refine Kd.C_drew ?_))); (case side2 => exact HC1.out); rintro e w86 ⟨v266, rfl, ho0, hb⟩; refine ⟨_, rfl, ?_⟩; have n0_ := Aside0.mk (Kd.S_lower ho0 (below_size (by repeat (first | (with_reducible first | exact HB.out | apply below_alloc | apply pw_below_drewN | apply below_drew1 | refine below_set ?_ GE246.out) | exact HB.out)))); have n1_ := Aside0.mk (blk_below (g := gb246) (o := .cells #[.int .i64 a0_0, .int .i64 a0_1, .slice A0_2 l0_2.length c0_2] 24 (0, 0)) (by (with_reducible repeat (first | refine blk_drewN ?_ _ | refine blk_drew ?_ | refine blk_alloc ?_ _)); exact BK246.out) hb); have n2_ := Aside0.mk (below_step (by repeat (first | (with_reducible first | exact HB.out | apply below_alloc | apply pw_below_drewN | apply below_drew1 | refine below_set ?_ GE246.out) | exact HB.out)) hb); clear BK246; clear HB; have HO267 := n0_; have BK246 := n1_; have HB := n2_; clear n0_ n1_ n2_; (try clear hb); (try clear hb2); (try clear hk); (try clear hi); (try clear ho0)) | ((with_reducible refine gate_dst (N := 16) rfl ?_); (try (refine gate_guard (by rfl) ?_; dsimp only)); refine box_event ?hg (N := 16) ?hd (cs := #[.int .i64 0, .int .i64 0, .slice none 0 0]) (t := 24) ?hr ?_; (case hd => rfl); (case hg => rfl); (case hr => first | (go_simp; done) | (go_simp; rfl)); intro gb269 hg w87 hbox hb; have n0_ := Aside0.mk (Kd.S_below (by (with_reducible repeat (first | apply Kd.S_alloc | apply Kd.S_drewN | apply Kd.S_drew)); exact HO267.out) hb); have n1_ := Aside0.mk (blk_below (g := gb246) (o := .cells #[.int .i64 a0_0, .int .i64 a0_1, .slice A0_2 l0_2.length c0_2] 24 (0, 0)) (by (with_reducible repeat (first | refine blk_drewN ?_ _ | refine blk_drew ?_ | refine blk_alloc ?_ _)); exact BK246.out) hb); have n2_ := Aside0.mk (below_step (by repeat (first | (with_reducible first | exact HB.out | apply below_alloc | apply pw_below_drewN | apply below_drew1 | refine below_set ?_ GE246.out) | exact HB.out)) hb); have n3_ := Aside0.mk (hbox); have n4_ := Aside0.mk ((by rw [hg]; exact (below_size (by repeat (first | (with_reducible first | exact HB.out | apply below_alloc | apply pw_below_drewN | apply below_drew1 | refine below_set ?_ GE246.out) | exact HB.out))) : w.heap.size ≤ gb269)); have n5_ := Aside0.mk ((by rw [hg]; exact (below_size (by repeat (first | (with_reducible first | exact HB.out | apply below_alloc | apply pw_below_drewN | apply below_drew1 | refine below_set ?_ GE246.out) | exact HB.out))) : w.heap.size ≤ gb269)); have n6_ := Aside0.mk ((by rw [hg]; exact Nat.ne_of_lt (blk_lt (g := gb246) (o := .cells #[.int .i64 a0_0, .int .i64 a0_1, .slice A0_2 l0_2.length c0_2] 24 (0, 0)) (by (with_reducible repeat (first | refine blk_drewN ?_ _ | refine blk_drew ?_ | refine blk_alloc ?_ _)); exact BK246.out)) : gb246 ≠ gb269)); have n7_ := Aside0.mk ((by rw [hg]; exact Nat.ne_of_gt (blk_lt (g := gb246) (o := .cells #[.int .i64 a0_0, .int .i64 a0_1, .slice A0_2 l0_2.length c0_2] 24 (0, 0)) (by (with_reducible repeat (first | refine blk_drewN ?_ _ | refine blk_drew ?_ | refine blk_alloc ?_ _)); exact BK246.out)) : gb269 ≠ gb246)); clear HO267; clear BK246; clear HB; have HO267 := n0_; have BK246 := n1_; have HB := n2_; have BK269 := n3_; have GW269 := n4_; have GE269 := n5_; have NB246_269 := n6_; have NB269_246 := n7_; clear n0_ n1_ n2_ n3_ n4_ n5_ n6_ n7_; clear hb hbox hg; have hnb88 := NB269_246.out; have hnc88 := NB246_269.out; have hcz89_0 : w87.cell? ⟨gb269, 0, none⟩ = some (.int .i64 0) := (blk_cell BK269.out 0).trans rfl; have hcz89_1 : w87.cell? ⟨gb269, 1, none⟩ = some (.int .i64 0) := (blk_cell BK269.out 1).trans rfl; have hcz89_2 : w87.cell? ⟨gb269, 2, none⟩ = some (.slice none 0 0) := (blk_cell BK269.out 2).trans rfl; have hfz89_0 := blk_frozen BK269.out 0; have hfz89_1 := blk_frozen BK269.out 1; have hfz89_2 := blk_frozen BK269.out 2; obtain ⟨Ao90, co90, eo90⟩ := Kd.S_slice HO267.out; subst eo90) | (go_at_call 11; (with_reducible refine (pcm_Check.calls t263 t264 _ _ t265 t270 _ ?side1 ?side2 A82.out).mono ?_); (case side1 => refine (Kd.S_reads' (e := 45) (base := w.heap.size) (ok := fun k_ => True) (n := t265.length) (c := co90) ?_).2.2; exact (by (with_reducible repeat (first | apply Kd.S_alloc | apply Kd.S_drewN | apply Kd.S_drew)); exact (Kd.S_mono (Kd.S_far (p := ⟨gb269, 2, none⟩) (Kd.S_far (p := ⟨gb269, 1, none⟩) (Kd.S_far (p := ⟨gb269, 0, none⟩) (Kd.S_types HO267.out BK269.out (by decide)) (fun _ hk => hk.2) (.int .i64 t263)) (fun _ hk => hk.2) (.int .i64 t264)) (fun _ hk => hk.2) (.slice Ao90 t265.length co90)) (fun _ h_ => h_.1)))); (case side2 => exact (Kd.S_reads' HO267.out).2.1); rintro e w91 ⟨rfl, hb⟩; have n0_ := Aside0.mk (Kd.S_below (by (with_reducible repeat (first | apply Kd.S_alloc | apply Kd.S_drewN | apply Kd.S_drew)); exact (Kd.S_mono (Kd.S_far (p := ⟨gb269, 2, none⟩) (Kd.S_far (p := ⟨gb269, 1, none⟩) (Kd.S_far (p := ⟨gb269, 0, none⟩) (Kd.S_types HO267.out BK269.out (by decide)) (fun _ hk => hk.2) (.int .i64 t263)) (fun _ hk => hk.2) (.int .i64 t264)) (fun _ hk => hk.2) (.slice Ao90 t265.length co90)) (fun _ h_ => h_.1))) hb); have n1_ := Aside0.mk (blk_below (g := gb246) (o := .cells #[.int .i64 a0_0, .int .i64 a0_1, .slice A0_2 l0_2.length c0_2] 24 (0, 0)) (by (with_reducible repeat (first | refine blk_drewN ?_ _ | refine blk_drew ?_ | refine blk_alloc ?_ _)); refine blk_far ?_ NB246_269.out _; (with_reducible repeat (first | refine blk_drewN ?_ _ | refine blk_drew ?_ | refine blk_alloc ?_ _)); refine blk_far ?_ NB246_269.out _; (with_reducible repeat (first | refine blk_drewN ?_ _ | refine blk_drew ?_ | refine blk_alloc ?_ _)); refine blk_far ?_ NB246_269.out _; (with_reducible repeat (first | refine blk_drewN ?_ _ | refine blk_drew ?_ | refine blk_alloc ?_ _)); exact BK246.out) hb); have n2_ := Aside0.mk (blk_below (g := gb269) (o := .cells #[.int .i64 t263, .int .i64 t264, .slice Ao90 t265.length co90] 24 (0, 0)) (by (with_reducible repeat (first | refine blk_drewN ?_ _ | refine blk_drew ?_ | refine blk_alloc ?_ _)); refine blk_put (cs := #[.int .i64 t263, .int .i64 t264, .slice none 0 0]) ?_ 2 _ rfl; (with_reducible repeat (first | refine blk_drewN ?_ _ | refine blk_drew ?_ | refine blk_alloc ?_ _)); refine blk_put (cs := #[.int .i64 t263, .int .i64 0, .slice none 0 0]) ?_ 1 _ rfl; (with_reducible repeat (first | refine blk_drewN ?_ _ | refine blk_drew ?_ | refine blk_alloc ?_ _)); refine blk_put (cs := #[.int .i64 0, .int .i64 0, .slice none 0 0]) ?_ 0 _ rfl; (with_reducible repeat (first | refine blk_drewN ?_ _ | refine blk_drew ?_ | refine blk_alloc ?_ _)); exact BK269.out) hb); have n3_ := Aside0.mk (below_step (by repeat (first | (with_reducible first | exact HB.out | apply below_alloc | apply pw_below_drewN | apply below_drew1 | refine below_set ?_ GE246.out | refine below_set ?_ GE269.out) | exact HB.out)) hb); clear HO267; clear BK246; clear BK269; clear HB; have HO267 := n0_; have BK246 := n1_; have BK269 := n2_; have HB := n3_; clear n0_ n1_ n2_ n3_; (try clear hb); (try clear hb2); (try clear hk); (try clear hi); have hcz92_0 : w91.cell? ⟨gb269, 0, none⟩ = some (.int .i64 t263) := (blk_cell BK269.out 0).trans rfl; have hcz92_1 : w91.cell? ⟨gb269, 1, none⟩ = some (.int .i64 t264) := (blk_cell BK269.out 1).trans rfl; have hcz92_2 : w91.cell? ⟨gb269, 2, none⟩ = some (.slice Ao90 t265.length co90) := (blk_cell BK269.out 2).trans rfl; have hfz92_0 := blk_frozen BK269.out 0; have hfz92_1 := blk_frozen BK269.out 1; have hfz92_2 := blk_frozen BK269.out 2) | (go_at_call 23; (with_reducible refine (pcm_Bytes.calls t263 t264 _ _ t265 t271 _ ?side1 ?side2 A84.out).mono ?_); (case side1 => repeat (first | exact (Kd.S_reads' HO267.out).2.2 | (with_reducible refine Kd.C_alloc ?_ _) | (with_reducible refine Kd.C_drewN ?_ _) | (with_reducible refine Kd.C_drew ?_))); (case side2 => exact (Kd.S_reads' HO267.out).2.1); rintro e w93 ⟨v272, rfl, ho0, hb⟩; have n0_ := Aside0.mk (Kd.S_below (by (with_reducible repeat (first | apply Kd.S_alloc | apply Kd.S_drewN | apply Kd.S_drew)); exact HO267.out) hb); have n1_ := Aside0.mk (Kd.R_lower ho0 (below_size (by repeat (first | (with_reducible first | exact HB.out | apply below_alloc | apply pw_below_drewN | apply below_drew1 | refine below_set ?_ GE246.out | refine below_set ?_ GE269.out) | exact HB.out)))); have n2_ := Aside0.mk (blk_below (g := gb246) (o := .cells #[.int .i64 a0_0, .int .i64 a0_1, .slice A0_2 l0_2.length c0_2] 24 (0, 0)) (by (with_reducible repeat (first | refine blk_drewN ?_ _ | refine blk_drew ?_ | refine blk_alloc ?_ _)); exact BK246.out) hb); have n3_ := Aside0.mk (blk_below (g := gb269) (o := .cells #[.int .i64 t263, .int .i64 t264, .slice Ao90 t265.length co90] 24 (0, 0)) (by (with_reducible repeat (first | refine blk_drewN ?_ _ | refine blk_drew ?_ | refine blk_alloc ?_ _)); exact BK269.out) hb); have n4_ := Aside0.mk (below_step (by repeat (first | (with_reducible first | exact HB.out | apply below_alloc | apply pw_below_drewN | apply below_drew1 | refine below_set ?_ GE246.out | refine below_set ?_ GE269.out) | exact HB.out)) hb); clear HO267; clear BK246; clear BK269; clear HB; have HO267 := n0_; have HO273 := n1_; have BK246 := n2_; have BK269 := n3_; have HB := n4_; clear n0_ n1_ n2_ n3_ n4_; (try clear hb); (try clear hb2); (try clear hk); (try clear hi); (try clear ho0); obtain ⟨Ao94, co94, eo94⟩ := Kd.R_slice HO273.out; subst eo94) | (go_at_call 22; (with_reducible refine (serinetteref01_Same.calls kj15 _ _ t271 _ _ l1 t274 _ ?side1 ?side2 ?side3 ?side4 A85.out).mono ?_); (case side1 => repeat (first | exact (Kd.R_reads' HO273.out).2.2 | (with_reducible refine Kd.C_alloc ?_ _) | (with_reducible refine Kd.C_drewN ?_ _) | (with_reducible refine Kd.C_drew ?_))); (case side2 => exact (Kd.R_reads' HO273.out).2.1); (case side3 => repeat (first | exact (Kd.C_below HR1.out HB.out) | (with_reducible refine Kd.C_alloc ?_ _) | (with_reducible refine Kd.C_drewN ?_ _) | (with_reducible refine Kd.C_drew ?_))); (case side4 => exact HC1.out); rintro e w' ⟨rfl, ⟨nd, rfl⟩⟩))
                  go_ret
                  exact ⟨by first | rfl | (simp [errW_none, errW_some] <;> rfl) | (simp [*, errW_none, errW_some] <;> rfl), by repeat (first | (with_reducible first | exact HB.out | apply below_alloc | apply pw_below_drewN | apply below_drew1 | refine below_set ?_ GE246.out | refine below_set ?_ GE269.out) | exact HB.out)⟩
                · rw [if_neg c83] at H
                  have c83b0 : (t270 == 0) = false := beq_eq_false_iff_ne.mpr c83
                  have c83b1 : (t270 != 0) = true := bne_iff_ne.mpr c83
                  obtain rfl := Option.some.inj H
                  go_wp2_with (first | ((with_reducible refine gate_callee (f := 19) rfl ?_); refine goesL_ (some 74) rfl rfl Try.func19 (by kernel_rfl) rfl #[.slice A1 l1.length c1, .int .i64 a2, .int .i64 a3, .int .i64 a4] rfl (by (try simp only [List.map_toArray, List.map_cons, List.map_nil]); first | done | rfl | (simp only [List.length_drop, List.length_take]; rfl)) ?_; (with_reducible refine (pcm_Unbytes.calls kj15 _ _ l1 a2 a3 a4 t263 t264 t265 t268 _ ?side1 ?side2 A79.out).mono ?_); (case side1 => repeat (first | exact (Kd.C_below HR1.out HB.out) | (with_reducible refine Kd.C_alloc ?_ _) | (with_reducible refine Kd.C_drewN ?_ _) | (with_reducible refine Kd.C_drew ?_))); (case side2 => exact HC1.out); rintro e w95 ⟨v266, rfl, ho0, hb⟩; refine ⟨_, rfl, ?_⟩; have n0_ := Aside0.mk (Kd.S_lower ho0 (below_size (by repeat (first | (with_reducible first | exact HB.out | apply below_alloc | apply pw_below_drewN | apply below_drew1 | refine below_set ?_ GE246.out) | exact HB.out)))); have n1_ := Aside0.mk (blk_below (g := gb246) (o := .cells #[.int .i64 a0_0, .int .i64 a0_1, .slice A0_2 l0_2.length c0_2] 24 (0, 0)) (by (with_reducible repeat (first | refine blk_drewN ?_ _ | refine blk_drew ?_ | refine blk_alloc ?_ _)); exact BK246.out) hb); have n2_ := Aside0.mk (below_step (by repeat (first | (with_reducible first | exact HB.out | apply below_alloc | apply pw_below_drewN | apply below_drew1 | refine below_set ?_ GE246.out) | exact HB.out)) hb); clear BK246; clear HB; have HO267 := n0_; have BK246 := n1_; have HB := n2_; clear n0_ n1_ n2_; (try clear hb); (try clear hb2); (try clear hk); (try clear hi); (try clear ho0)) | ((with_reducible refine gate_dst (N := 16) rfl ?_); (try (refine gate_guard (by rfl) ?_; dsimp only)); refine box_event ?hg (N := 16) ?hd (cs := #[.int .i64 0, .int .i64 0, .slice none 0 0]) (t := 24) ?hr ?_; (case hd => rfl); (case hg => rfl); (case hr => first | (go_simp; done) | (go_simp; rfl)); intro gb269 hg w96 hbox hb; have n0_ := Aside0.mk (Kd.S_below (by (with_reducible repeat (first | apply Kd.S_alloc | apply Kd.S_drewN | apply Kd.S_drew)); exact HO267.out) hb); have n1_ := Aside0.mk (blk_below (g := gb246) (o := .cells #[.int .i64 a0_0, .int .i64 a0_1, .slice A0_2 l0_2.length c0_2] 24 (0, 0)) (by (with_reducible repeat (first | refine blk_drewN ?_ _ | refine blk_drew ?_ | refine blk_alloc ?_ _)); exact BK246.out) hb); have n2_ := Aside0.mk (below_step (by repeat (first | (with_reducible first | exact HB.out | apply below_alloc | apply pw_below_drewN | apply below_drew1 | refine below_set ?_ GE246.out) | exact HB.out)) hb); have n3_ := Aside0.mk (hbox); have n4_ := Aside0.mk ((by rw [hg]; exact (below_size (by repeat (first | (with_reducible first | exact HB.out | apply below_alloc | apply pw_below_drewN | apply below_drew1 | refine below_set ?_ GE246.out) | exact HB.out))) : w.heap.size ≤ gb269)); have n5_ := Aside0.mk ((by rw [hg]; exact (below_size (by repeat (first | (with_reducible first | exact HB.out | apply below_alloc | apply pw_below_drewN | apply below_drew1 | refine below_set ?_ GE246.out) | exact HB.out))) : w.heap.size ≤ gb269)); have n6_ := Aside0.mk ((by rw [hg]; exact Nat.ne_of_lt (blk_lt (g := gb246) (o := .cells #[.int .i64 a0_0, .int .i64 a0_1, .slice A0_2 l0_2.length c0_2] 24 (0, 0)) (by (with_reducible repeat (first | refine blk_drewN ?_ _ | refine blk_drew ?_ | refine blk_alloc ?_ _)); exact BK246.out)) : gb246 ≠ gb269)); have n7_ := Aside0.mk ((by rw [hg]; exact Nat.ne_of_gt (blk_lt (g := gb246) (o := .cells #[.int .i64 a0_0, .int .i64 a0_1, .slice A0_2 l0_2.length c0_2] 24 (0, 0)) (by (with_reducible repeat (first | refine blk_drewN ?_ _ | refine blk_drew ?_ | refine blk_alloc ?_ _)); exact BK246.out)) : gb269 ≠ gb246)); clear HO267; clear BK246; clear HB; have HO267 := n0_; have BK246 := n1_; have HB := n2_; have BK269 := n3_; have GW269 := n4_; have GE269 := n5_; have NB246_269 := n6_; have NB269_246 := n7_; clear n0_ n1_ n2_ n3_ n4_ n5_ n6_ n7_; clear hb hbox hg; have hnb97 := NB269_246.out; have hnc97 := NB246_269.out; have hcz98_0 : w96.cell? ⟨gb269, 0, none⟩ = some (.int .i64 0) := (blk_cell BK269.out 0).trans rfl; have hcz98_1 : w96.cell? ⟨gb269, 1, none⟩ = some (.int .i64 0) := (blk_cell BK269.out 1).trans rfl; have hcz98_2 : w96.cell? ⟨gb269, 2, none⟩ = some (.slice none 0 0) := (blk_cell BK269.out 2).trans rfl; have hfz98_0 := blk_frozen BK269.out 0; have hfz98_1 := blk_frozen BK269.out 1; have hfz98_2 := blk_frozen BK269.out 2; obtain ⟨Ao99, co99, eo99⟩ := Kd.S_slice HO267.out; subst eo99) | (go_at_call 11; (with_reducible refine (pcm_Check.calls t263 t264 _ _ t265 t270 _ ?side1 ?side2 A82.out).mono ?_); (case side1 => refine (Kd.S_reads' (e := 45) (base := w.heap.size) (ok := fun k_ => True) (n := t265.length) (c := co99) ?_).2.2; exact (by (with_reducible repeat (first | apply Kd.S_alloc | apply Kd.S_drewN | apply Kd.S_drew)); exact (Kd.S_mono (Kd.S_far (p := ⟨gb269, 2, none⟩) (Kd.S_far (p := ⟨gb269, 1, none⟩) (Kd.S_far (p := ⟨gb269, 0, none⟩) (Kd.S_types HO267.out BK269.out (by decide)) (fun _ hk => hk.2) (.int .i64 t263)) (fun _ hk => hk.2) (.int .i64 t264)) (fun _ hk => hk.2) (.slice Ao99 t265.length co99)) (fun _ h_ => h_.1)))); (case side2 => exact (Kd.S_reads' HO267.out).2.1); rintro e w100 ⟨rfl, hb⟩; have n0_ := Aside0.mk (Kd.S_below (by (with_reducible repeat (first | apply Kd.S_alloc | apply Kd.S_drewN | apply Kd.S_drew)); exact (Kd.S_mono (Kd.S_far (p := ⟨gb269, 2, none⟩) (Kd.S_far (p := ⟨gb269, 1, none⟩) (Kd.S_far (p := ⟨gb269, 0, none⟩) (Kd.S_types HO267.out BK269.out (by decide)) (fun _ hk => hk.2) (.int .i64 t263)) (fun _ hk => hk.2) (.int .i64 t264)) (fun _ hk => hk.2) (.slice Ao99 t265.length co99)) (fun _ h_ => h_.1))) hb); have n1_ := Aside0.mk (blk_below (g := gb246) (o := .cells #[.int .i64 a0_0, .int .i64 a0_1, .slice A0_2 l0_2.length c0_2] 24 (0, 0)) (by (with_reducible repeat (first | refine blk_drewN ?_ _ | refine blk_drew ?_ | refine blk_alloc ?_ _)); refine blk_far ?_ NB246_269.out _; (with_reducible repeat (first | refine blk_drewN ?_ _ | refine blk_drew ?_ | refine blk_alloc ?_ _)); refine blk_far ?_ NB246_269.out _; (with_reducible repeat (first | refine blk_drewN ?_ _ | refine blk_drew ?_ | refine blk_alloc ?_ _)); refine blk_far ?_ NB246_269.out _; (with_reducible repeat (first | refine blk_drewN ?_ _ | refine blk_drew ?_ | refine blk_alloc ?_ _)); exact BK246.out) hb); have n2_ := Aside0.mk (blk_below (g := gb269) (o := .cells #[.int .i64 t263, .int .i64 t264, .slice Ao99 t265.length co99] 24 (0, 0)) (by (with_reducible repeat (first | refine blk_drewN ?_ _ | refine blk_drew ?_ | refine blk_alloc ?_ _)); refine blk_put (cs := #[.int .i64 t263, .int .i64 t264, .slice none 0 0]) ?_ 2 _ rfl; (with_reducible repeat (first | refine blk_drewN ?_ _ | refine blk_drew ?_ | refine blk_alloc ?_ _)); refine blk_put (cs := #[.int .i64 t263, .int .i64 0, .slice none 0 0]) ?_ 1 _ rfl; (with_reducible repeat (first | refine blk_drewN ?_ _ | refine blk_drew ?_ | refine blk_alloc ?_ _)); refine blk_put (cs := #[.int .i64 0, .int .i64 0, .slice none 0 0]) ?_ 0 _ rfl; (with_reducible repeat (first | refine blk_drewN ?_ _ | refine blk_drew ?_ | refine blk_alloc ?_ _)); exact BK269.out) hb); have n3_ := Aside0.mk (below_step (by repeat (first | (with_reducible first | exact HB.out | apply below_alloc | apply pw_below_drewN | apply below_drew1 | refine below_set ?_ GE246.out | refine below_set ?_ GE269.out) | exact HB.out)) hb); clear HO267; clear BK246; clear BK269; clear HB; have HO267 := n0_; have BK246 := n1_; have BK269 := n2_; have HB := n3_; clear n0_ n1_ n2_ n3_; (try clear hb); (try clear hb2); (try clear hk); (try clear hi)))
                  go_ret
                  exact ⟨by first | rfl | (simp [errW_none, errW_some] <;> rfl) | (simp [*, errW_none, errW_some] <;> rfl), by repeat (first | (with_reducible first | exact HB.out | apply below_alloc | apply pw_below_drewN | apply below_drew1 | refine below_set ?_ GE246.out | refine below_set ?_ GE269.out) | exact HB.out)⟩
              · replace c81 := Bool.eq_false_iff.mpr c81
                subst c81
                have H1 : (some false) = some r := by rw [if_neg (show ¬ (false = true) by decide)] at H; exact H
                clear H
                have H := H1
                clear H1
                obtain rfl := Option.some.inj H
                go_wp2_with (first | ((with_reducible refine gate_callee (f := 19) rfl ?_); refine goesL_ (some 74) rfl rfl Try.func19 (by kernel_rfl) rfl #[.slice A1 l1.length c1, .int .i64 a2, .int .i64 a3, .int .i64 a4] rfl (by (try simp only [List.map_toArray, List.map_cons, List.map_nil]); first | done | rfl | (simp only [List.length_drop, List.length_take]; rfl)) ?_; (with_reducible refine (pcm_Unbytes.calls kj15 _ _ l1 a2 a3 a4 t263 t264 t265 t268 _ ?side1 ?side2 A79.out).mono ?_); (case side1 => repeat (first | exact (Kd.C_below HR1.out HB.out) | (with_reducible refine Kd.C_alloc ?_ _) | (with_reducible refine Kd.C_drewN ?_ _) | (with_reducible refine Kd.C_drew ?_))); (case side2 => exact HC1.out); rintro e w101 ⟨v266, rfl, ho0, hb⟩; refine ⟨_, rfl, ?_⟩; have n0_ := Aside0.mk (Kd.S_lower ho0 (below_size (by repeat (first | (with_reducible first | exact HB.out | apply below_alloc | apply pw_below_drewN | apply below_drew1 | refine below_set ?_ GE246.out) | exact HB.out)))); have n1_ := Aside0.mk (blk_below (g := gb246) (o := .cells #[.int .i64 a0_0, .int .i64 a0_1, .slice A0_2 l0_2.length c0_2] 24 (0, 0)) (by (with_reducible repeat (first | refine blk_drewN ?_ _ | refine blk_drew ?_ | refine blk_alloc ?_ _)); exact BK246.out) hb); have n2_ := Aside0.mk (below_step (by repeat (first | (with_reducible first | exact HB.out | apply below_alloc | apply pw_below_drewN | apply below_drew1 | refine below_set ?_ GE246.out) | exact HB.out)) hb); clear BK246; clear HB; have HO267 := n0_; have BK246 := n1_; have HB := n2_; clear n0_ n1_ n2_; (try clear hb); (try clear hb2); (try clear hk); (try clear hi); (try clear ho0)) | ((with_reducible refine gate_dst (N := 16) rfl ?_); (try (refine gate_guard (by rfl) ?_; dsimp only)); refine box_event ?hg (N := 16) ?hd (cs := #[.int .i64 0, .int .i64 0, .slice none 0 0]) (t := 24) ?hr ?_; (case hd => rfl); (case hg => rfl); (case hr => first | (go_simp; done) | (go_simp; rfl)); intro gb269 hg w102 hbox hb; have n0_ := Aside0.mk (Kd.S_below (by (with_reducible repeat (first | apply Kd.S_alloc | apply Kd.S_drewN | apply Kd.S_drew)); exact HO267.out) hb); have n1_ := Aside0.mk (blk_below (g := gb246) (o := .cells #[.int .i64 a0_0, .int .i64 a0_1, .slice A0_2 l0_2.length c0_2] 24 (0, 0)) (by (with_reducible repeat (first | refine blk_drewN ?_ _ | refine blk_drew ?_ | refine blk_alloc ?_ _)); exact BK246.out) hb); have n2_ := Aside0.mk (below_step (by repeat (first | (with_reducible first | exact HB.out | apply below_alloc | apply pw_below_drewN | apply below_drew1 | refine below_set ?_ GE246.out) | exact HB.out)) hb); have n3_ := Aside0.mk (hbox); have n4_ := Aside0.mk ((by rw [hg]; exact (below_size (by repeat (first | (with_reducible first | exact HB.out | apply below_alloc | apply pw_below_drewN | apply below_drew1 | refine below_set ?_ GE246.out) | exact HB.out))) : w.heap.size ≤ gb269)); have n5_ := Aside0.mk ((by rw [hg]; exact (below_size (by repeat (first | (with_reducible first | exact HB.out | apply below_alloc | apply pw_below_drewN | apply below_drew1 | refine below_set ?_ GE246.out) | exact HB.out))) : w.heap.size ≤ gb269)); have n6_ := Aside0.mk ((by rw [hg]; exact Nat.ne_of_lt (blk_lt (g := gb246) (o := .cells #[.int .i64 a0_0, .int .i64 a0_1, .slice A0_2 l0_2.length c0_2] 24 (0, 0)) (by (with_reducible repeat (first | refine blk_drewN ?_ _ | refine blk_drew ?_ | refine blk_alloc ?_ _)); exact BK246.out)) : gb246 ≠ gb269)); have n7_ := Aside0.mk ((by rw [hg]; exact Nat.ne_of_gt (blk_lt (g := gb246) (o := .cells #[.int .i64 a0_0, .int .i64 a0_1, .slice A0_2 l0_2.length c0_2] 24 (0, 0)) (by (with_reducible repeat (first | refine blk_drewN ?_ _ | refine blk_drew ?_ | refine blk_alloc ?_ _)); exact BK246.out)) : gb269 ≠ gb246)); clear HO267; clear BK246; clear HB; have HO267 := n0_; have BK246 := n1_; have HB := n2_; have BK269 := n3_; have GW269 := n4_; have GE269 := n5_; have NB246_269 := n6_; have NB269_246 := n7_; clear n0_ n1_ n2_ n3_ n4_ n5_ n6_ n7_; clear hb hbox hg; have hnb103 := NB269_246.out; have hnc103 := NB246_269.out; have hcz104_0 : w102.cell? ⟨gb269, 0, none⟩ = some (.int .i64 0) := (blk_cell BK269.out 0).trans rfl; have hcz104_1 : w102.cell? ⟨gb269, 1, none⟩ = some (.int .i64 0) := (blk_cell BK269.out 1).trans rfl; have hcz104_2 : w102.cell? ⟨gb269, 2, none⟩ = some (.slice none 0 0) := (blk_cell BK269.out 2).trans rfl; have hfz104_0 := blk_frozen BK269.out 0; have hfz104_1 := blk_frozen BK269.out 1; have hfz104_2 := blk_frozen BK269.out 2; obtain ⟨Ao105, co105, eo105⟩ := Kd.S_slice HO267.out; subst eo105))
                go_ret
                exact ⟨by first | rfl | (simp [errW_none, errW_some] <;> rfl) | (simp [*, errW_none, errW_some] <;> rfl), by repeat (first | (with_reducible first | exact HB.out | apply below_alloc | apply pw_below_drewN | apply below_drew1 | refine below_set ?_ GE246.out | refine below_set ?_ GE269.out) | exact HB.out)⟩
            · rw [if_neg c80] at H
              have c80b0 : (t268 == 0) = false := beq_eq_false_iff_ne.mpr c80
              have c80b1 : (t268 != 0) = true := bne_iff_ne.mpr c80
              by_cases c106 : t247 = true
              · subst c106
                have H1 : (some ((t265.length : Int) == 0)) = some r := by rw [if_pos rfl] at H; exact H
                clear H
                have H := H1
                clear H1
                obtain rfl := Option.some.inj H
                go_wp2_with (first | ((with_reducible refine gate_callee (f := 19) rfl ?_); refine goesL_ (some 74) rfl rfl Try.func19 (by kernel_rfl) rfl #[.slice A1 l1.length c1, .int .i64 a2, .int .i64 a3, .int .i64 a4] rfl (by (try simp only [List.map_toArray, List.map_cons, List.map_nil]); first | done | rfl | (simp only [List.length_drop, List.length_take]; rfl)) ?_; (with_reducible refine (pcm_Unbytes.calls kj15 _ _ l1 a2 a3 a4 t263 t264 t265 t268 _ ?side1 ?side2 A79.out).mono ?_); (case side1 => repeat (first | exact (Kd.C_below HR1.out HB.out) | (with_reducible refine Kd.C_alloc ?_ _) | (with_reducible refine Kd.C_drewN ?_ _) | (with_reducible refine Kd.C_drew ?_))); (case side2 => exact HC1.out); rintro e w107 ⟨v266, rfl, ho0, hb⟩; refine ⟨_, rfl, ?_⟩; have n0_ := Aside0.mk (Kd.S_lower ho0 (below_size (by repeat (first | (with_reducible first | exact HB.out | apply below_alloc | apply pw_below_drewN | apply below_drew1 | refine below_set ?_ GE246.out) | exact HB.out)))); have n1_ := Aside0.mk (blk_below (g := gb246) (o := .cells #[.int .i64 a0_0, .int .i64 a0_1, .slice A0_2 l0_2.length c0_2] 24 (0, 0)) (by (with_reducible repeat (first | refine blk_drewN ?_ _ | refine blk_drew ?_ | refine blk_alloc ?_ _)); exact BK246.out) hb); have n2_ := Aside0.mk (below_step (by repeat (first | (with_reducible first | exact HB.out | apply below_alloc | apply pw_below_drewN | apply below_drew1 | refine below_set ?_ GE246.out) | exact HB.out)) hb); clear BK246; clear HB; have HO267 := n0_; have BK246 := n1_; have HB := n2_; clear n0_ n1_ n2_; (try clear hb); (try clear hb2); (try clear hk); (try clear hi); (try clear ho0)) | ((with_reducible refine gate_dst (N := 16) rfl ?_); (try (refine gate_guard (by rfl) ?_; dsimp only)); refine box_event ?hg (N := 16) ?hd (cs := #[.int .i64 0, .int .i64 0, .slice none 0 0]) (t := 24) ?hr ?_; (case hd => rfl); (case hg => rfl); (case hr => first | (go_simp; done) | (go_simp; rfl)); intro gb269 hg w108 hbox hb; have n0_ := Aside0.mk (Kd.S_below (by (with_reducible repeat (first | apply Kd.S_alloc | apply Kd.S_drewN | apply Kd.S_drew)); exact HO267.out) hb); have n1_ := Aside0.mk (blk_below (g := gb246) (o := .cells #[.int .i64 a0_0, .int .i64 a0_1, .slice A0_2 l0_2.length c0_2] 24 (0, 0)) (by (with_reducible repeat (first | refine blk_drewN ?_ _ | refine blk_drew ?_ | refine blk_alloc ?_ _)); exact BK246.out) hb); have n2_ := Aside0.mk (below_step (by repeat (first | (with_reducible first | exact HB.out | apply below_alloc | apply pw_below_drewN | apply below_drew1 | refine below_set ?_ GE246.out) | exact HB.out)) hb); have n3_ := Aside0.mk (hbox); have n4_ := Aside0.mk ((by rw [hg]; exact (below_size (by repeat (first | (with_reducible first | exact HB.out | apply below_alloc | apply pw_below_drewN | apply below_drew1 | refine below_set ?_ GE246.out) | exact HB.out))) : w.heap.size ≤ gb269)); have n5_ := Aside0.mk ((by rw [hg]; exact (below_size (by repeat (first | (with_reducible first | exact HB.out | apply below_alloc | apply pw_below_drewN | apply below_drew1 | refine below_set ?_ GE246.out) | exact HB.out))) : w.heap.size ≤ gb269)); have n6_ := Aside0.mk ((by rw [hg]; exact Nat.ne_of_lt (blk_lt (g := gb246) (o := .cells #[.int .i64 a0_0, .int .i64 a0_1, .slice A0_2 l0_2.length c0_2] 24 (0, 0)) (by (with_reducible repeat (first | refine blk_drewN ?_ _ | refine blk_drew ?_ | refine blk_alloc ?_ _)); exact BK246.out)) : gb246 ≠ gb269)); have n7_ := Aside0.mk ((by rw [hg]; exact Nat.ne_of_gt (blk_lt (g := gb246) (o := .cells #[.int .i64 a0_0, .int .i64 a0_1, .slice A0_2 l0_2.length c0_2] 24 (0, 0)) (by (with_reducible repeat (first | refine blk_drewN ?_ _ | refine blk_drew ?_ | refine blk_alloc ?_ _)); exact BK246.out)) : gb269 ≠ gb246)); clear HO267; clear BK246; clear HB; have HO267 := n0_; have BK246 := n1_; have HB := n2_; have BK269 := n3_; have GW269 := n4_; have GE269 := n5_; have NB246_269 := n6_; have NB269_246 := n7_; clear n0_ n1_ n2_ n3_ n4_ n5_ n6_ n7_; clear hb hbox hg; have hnb109 := NB269_246.out; have hnc109 := NB246_269.out; have hcz110_0 : w108.cell? ⟨gb269, 0, none⟩ = some (.int .i64 0) := (blk_cell BK269.out 0).trans rfl; have hcz110_1 : w108.cell? ⟨gb269, 1, none⟩ = some (.int .i64 0) := (blk_cell BK269.out 1).trans rfl; have hcz110_2 : w108.cell? ⟨gb269, 2, none⟩ = some (.slice none 0 0) := (blk_cell BK269.out 2).trans rfl; have hfz110_0 := blk_frozen BK269.out 0; have hfz110_1 := blk_frozen BK269.out 1; have hfz110_2 := blk_frozen BK269.out 2; obtain ⟨Ao111, co111, eo111⟩ := Kd.S_slice HO267.out; subst eo111))
                go_ret
                exact ⟨by first | rfl | (simp [errW_none, errW_some] <;> rfl) | (simp [*, errW_none, errW_some] <;> rfl), by repeat (first | (with_reducible first | exact HB.out | apply below_alloc | apply pw_below_drewN | apply below_drew1 | refine below_set ?_ GE246.out | refine below_set ?_ GE269.out) | exact HB.out)⟩
              · replace c106 := Bool.eq_false_iff.mpr c106
                subst c106
                have H1 : (some false) = some r := by rw [if_neg (show ¬ (false = true) by decide)] at H; exact H
                clear H
                have H := H1
                clear H1
                obtain rfl := Option.some.inj H
                go_wp2_with (first | ((with_reducible refine gate_callee (f := 19) rfl ?_); refine goesL_ (some 74) rfl rfl Try.func19 (by kernel_rfl) rfl #[.slice A1 l1.length c1, .int .i64 a2, .int .i64 a3, .int .i64 a4] rfl (by (try simp only [List.map_toArray, List.map_cons, List.map_nil]); first | done | rfl | (simp only [List.length_drop, List.length_take]; rfl)) ?_; (with_reducible refine (pcm_Unbytes.calls kj15 _ _ l1 a2 a3 a4 t263 t264 t265 t268 _ ?side1 ?side2 A79.out).mono ?_); (case side1 => repeat (first | exact (Kd.C_below HR1.out HB.out) | (with_reducible refine Kd.C_alloc ?_ _) | (with_reducible refine Kd.C_drewN ?_ _) | (with_reducible refine Kd.C_drew ?_))); (case side2 => exact HC1.out); rintro e w112 ⟨v266, rfl, ho0, hb⟩; refine ⟨_, rfl, ?_⟩; have n0_ := Aside0.mk (Kd.S_lower ho0 (below_size (by repeat (first | (with_reducible first | exact HB.out | apply below_alloc | apply pw_below_drewN | apply below_drew1 | refine below_set ?_ GE246.out) | exact HB.out)))); have n1_ := Aside0.mk (blk_below (g := gb246) (o := .cells #[.int .i64 a0_0, .int .i64 a0_1, .slice A0_2 l0_2.length c0_2] 24 (0, 0)) (by (with_reducible repeat (first | refine blk_drewN ?_ _ | refine blk_drew ?_ | refine blk_alloc ?_ _)); exact BK246.out) hb); have n2_ := Aside0.mk (below_step (by repeat (first | (with_reducible first | exact HB.out | apply below_alloc | apply pw_below_drewN | apply below_drew1 | refine below_set ?_ GE246.out) | exact HB.out)) hb); clear BK246; clear HB; have HO267 := n0_; have BK246 := n1_; have HB := n2_; clear n0_ n1_ n2_; (try clear hb); (try clear hb2); (try clear hk); (try clear hi); (try clear ho0)) | ((with_reducible refine gate_dst (N := 16) rfl ?_); (try (refine gate_guard (by rfl) ?_; dsimp only)); refine box_event ?hg (N := 16) ?hd (cs := #[.int .i64 0, .int .i64 0, .slice none 0 0]) (t := 24) ?hr ?_; (case hd => rfl); (case hg => rfl); (case hr => first | (go_simp; done) | (go_simp; rfl)); intro gb269 hg w113 hbox hb; have n0_ := Aside0.mk (Kd.S_below (by (with_reducible repeat (first | apply Kd.S_alloc | apply Kd.S_drewN | apply Kd.S_drew)); exact HO267.out) hb); have n1_ := Aside0.mk (blk_below (g := gb246) (o := .cells #[.int .i64 a0_0, .int .i64 a0_1, .slice A0_2 l0_2.length c0_2] 24 (0, 0)) (by (with_reducible repeat (first | refine blk_drewN ?_ _ | refine blk_drew ?_ | refine blk_alloc ?_ _)); exact BK246.out) hb); have n2_ := Aside0.mk (below_step (by repeat (first | (with_reducible first | exact HB.out | apply below_alloc | apply pw_below_drewN | apply below_drew1 | refine below_set ?_ GE246.out) | exact HB.out)) hb); have n3_ := Aside0.mk (hbox); have n4_ := Aside0.mk ((by rw [hg]; exact (below_size (by repeat (first | (with_reducible first | exact HB.out | apply below_alloc | apply pw_below_drewN | apply below_drew1 | refine below_set ?_ GE246.out) | exact HB.out))) : w.heap.size ≤ gb269)); have n5_ := Aside0.mk ((by rw [hg]; exact (below_size (by repeat (first | (with_reducible first | exact HB.out | apply below_alloc | apply pw_below_drewN | apply below_drew1 | refine below_set ?_ GE246.out) | exact HB.out))) : w.heap.size ≤ gb269)); have n6_ := Aside0.mk ((by rw [hg]; exact Nat.ne_of_lt (blk_lt (g := gb246) (o := .cells #[.int .i64 a0_0, .int .i64 a0_1, .slice A0_2 l0_2.length c0_2] 24 (0, 0)) (by (with_reducible repeat (first | refine blk_drewN ?_ _ | refine blk_drew ?_ | refine blk_alloc ?_ _)); exact BK246.out)) : gb246 ≠ gb269)); have n7_ := Aside0.mk ((by rw [hg]; exact Nat.ne_of_gt (blk_lt (g := gb246) (o := .cells #[.int .i64 a0_0, .int .i64 a0_1, .slice A0_2 l0_2.length c0_2] 24 (0, 0)) (by (with_reducible repeat (first | refine blk_drewN ?_ _ | refine blk_drew ?_ | refine blk_alloc ?_ _)); exact BK246.out)) : gb269 ≠ gb246)); clear HO267; clear BK246; clear HB; have HO267 := n0_; have BK246 := n1_; have HB := n2_; have BK269 := n3_; have GW269 := n4_; have GE269 := n5_; have NB246_269 := n6_; have NB269_246 := n7_; clear n0_ n1_ n2_ n3_ n4_ n5_ n6_ n7_; clear hb hbox hg; have hnb114 := NB269_246.out; have hnc114 := NB246_269.out; have hcz115_0 : w113.cell? ⟨gb269, 0, none⟩ = some (.int .i64 0) := (blk_cell BK269.out 0).trans rfl; have hcz115_1 : w113.cell? ⟨gb269, 1, none⟩ = some (.int .i64 0) := (blk_cell BK269.out 1).trans rfl; have hcz115_2 : w113.cell? ⟨gb269, 2, none⟩ = some (.slice none 0 0) := (blk_cell BK269.out 2).trans rfl; have hfz115_0 := blk_frozen BK269.out 0; have hfz115_1 := blk_frozen BK269.out 1; have hfz115_2 := blk_frozen BK269.out 2; obtain ⟨Ao116, co116, eo116⟩ := Kd.S_slice HO267.out; subst eo116))
                go_ret
                exact ⟨by first | rfl | (simp [errW_none, errW_some] <;> rfl) | (simp [*, errW_none, errW_some] <;> rfl), by repeat (first | (with_reducible first | exact HB.out | apply below_alloc | apply pw_below_drewN | apply below_drew1 | refine below_set ?_ GE246.out | refine below_set ?_ GE269.out) | exact HB.out)⟩

end Go.Proofs.Ytfjefocjplljcaa.PA
