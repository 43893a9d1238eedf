/- Each Go function named below comes to what the plain Lean function of its name answers, wherever that answers (rounds enough, no panic, no row too long); texts by a program of this session by way of the kit's print.py, what that does not take by hand. Condition: what is read lies in memory as each theorem says. -/
import Derived.Test.YtpoigjkkcehpdaaPAx0
import Derived.Test.YtpoigjkkcehpdaaPAx11
import Derived.Test.YtpoigjkkcehpdaaPAx12
import Derived.Test.YtpoigjkkcehpdaaPAx15
namespace Go.Proofs.Ytpoigjkkcehpdaa.PA
open Go.RowKit Go.Proofs.YtpoigjkkcehpdaaW.PrintWords Go.Proofs.YtpoigjkkcehpdaaW.PrintLast Go.Proofs.YtpoigjkkcehpdaaW.PrintMore
attribute [local go_sem] max2_int min2_int max_two min_two max_three min_three max_four min_four   -- for this text's walks alone
set_option linter.unusedVariables false
set_option linter.unusedSimpArgs false

/-! ### serinetteref14_Bits: function 21 -/
mutual
def serinetteref14_Bits.j0 : Nat → List Int → List Int → Bool → Bool → Int → List (S39) → Option (Int)
  | 0, _, _, _, _, _, _ => none
  | k + 1, x0, x7, x31, x245000, x245001, x245002 => if x31 = true then (some (-1)) else ((serinetteref14_Split.f k x0 x7).bind fun t248 => (if x245000 = true then (serinetteref14_Bits.j1 k t248 5 30 x245000 x245001 x245002) else (serinetteref14_Bits.j1 k t248 4 14 x245000 x245001 x245002)))
def serinetteref14_Bits.j1 : Nat → List (List Int) → Int → Int → Bool → Int → List (S39) → Option (Int)
  | 0, _, _, _, _, _, _ => none
  | k + 1, x8, x9, x10, x245000, x245001, x245002 => serinetteref14_Bits.l0 k x8 x9 x10 6 0 x245000 x245001 x245002
def serinetteref14_Bits.l0 : Nat → List (List Int) → Int → Int → Int → Int → Bool → Int → List (S39) → Option (Int)
  | 0, _, _, _, _, _, _, _, _ => none
  | k + 1, x8, x9, x10, x11, x12, x245000, x245001, x245002 => if x12 < (x8.length : Int) then (if 0 ≤ x12 then (if x12 < (x245002.length : Int) then ((serinetteref13_Each.f k (rd_L3 x8 x12) ((rd_T39 x245002 x12).f0) ((rd_T39 x245002 x12).f1)).bind fun t254 => (if t254 < 0 then (some (-1)) else (if ((rd_T39 x245002 x12).f1 = true) then (serinetteref14_Bits.l0 k x8 x9 x10 (wrap64 ((wrap64 (x11 + x9)) + t254)) (wrap64 (x12 + 1)) x245000 x245001 x245002) else (if ((rd_T39 x245002 x12).f0) < 0 then (some (-1)) else (if ((rd_T39 x245002 x12).f0) > x10 then (some (-1)) else (serinetteref14_Bits.l0 k x8 x9 x10 (wrap64 ((wrap64 (x11 + x9)) + t254)) (wrap64 (x12 + 1)) x245000 x245001 x245002)))))) else (none)) else (none)) else (some x11)
end
def serinetteref14_Bits.f (k : Nat) (l0 : List Int) (a1 : Int) (a2_0 : Bool) (a2_1 : Int) (l2_2 : List (S39)) : Option (Int) := (serinetteref14_Cuts.f k (l0.length : Int) a1 a2_1).bind fun t245 => (if (t245.length : Int) = 0 then (serinetteref14_Bits.j0 k l0 t245 true a2_0 a2_1 l2_2) else (serinetteref14_Bits.j0 k l0 t245 ((t245.length : Int) != (l2_2.length : Int)) a2_0 a2_1 l2_2))
theorem serinetteref14_Bits.mono_l : ∀ k, (∀ y0 y1 y2 y3 y4 y5, LeO (serinetteref14_Bits.j0 k y0 y1 y2 y3 y4 y5) (serinetteref14_Bits.j0 (k + 1) y0 y1 y2 y3 y4 y5)) ∧ (∀ y0 y1 y2 y3 y4 y5, LeO (serinetteref14_Bits.j1 k y0 y1 y2 y3 y4 y5) (serinetteref14_Bits.j1 (k + 1) y0 y1 y2 y3 y4 y5)) ∧ (∀ y0 y1 y2 y3 y4 y5 y6 y7, LeO (serinetteref14_Bits.l0 k y0 y1 y2 y3 y4 y5 y6 y7) (serinetteref14_Bits.l0 (k + 1) y0 y1 y2 y3 y4 y5 y6 y7))
  | 0 => ⟨fun _ _ _ _ _ _ r h => by simp [serinetteref14_Bits.j0] at h, fun _ _ _ _ _ _ r h => by simp [serinetteref14_Bits.j1] at h, fun _ _ _ _ _ _ _ _ r h => by simp [serinetteref14_Bits.l0] at h⟩
  | k + 1 => by
    obtain ⟨ih0, ih1, ih2⟩ := serinetteref14_Bits.mono_l k
    refine ⟨?_, ?_, ?_⟩
    · intro y0 y1 y2 y3 y4 y5
      unfold serinetteref14_Bits.j0
      repeat' first
      | (with_reducible exact ih0 _ _ _ _ _ _)
      | (with_reducible exact ih1 _ _ _ _ _ _)
      | (with_reducible exact ih2 _ _ _ _ _ _ _ _)
      | (with_reducible exact serinetteref13_Each.mono _ _ _ _)
      | (with_reducible exact serinetteref14_Cuts.mono _ _ _ _)
      | (with_reducible exact serinetteref14_Split.mono _ _ _)
      | (with_reducible exact LeO.refl _)
      | (with_reducible exact LeO.none _)
      | (with_reducible refine LeO.ite ?_ ?_)
      | (with_reducible refine LeO.bind ?_ (fun _ => ?_))
      | exact ih0 _ _ _ _ _ _
      | exact ih1 _ _ _ _ _ _
      | exact ih2 _ _ _ _ _ _ _ _
      | exact serinetteref13_Each.mono _ _ _ _
      | exact serinetteref14_Cuts.mono _ _ _ _
      | exact serinetteref14_Split.mono _ _ _
      | exact LeO.none _
      | refine LeO.ite ?_ ?_
      | refine LeO.bind ?_ (fun _ => ?_)
    · intro y0 y1 y2 y3 y4 y5
      unfold serinetteref14_Bits.j1
      repeat' first
      | (with_reducible exact ih0 _ _ _ _ _ _)
      | (with_reducible exact ih1 _ _ _ _ _ _)
      | (with_reducible exact ih2 _ _ _ _ _ _ _ _)
      | (with_reducible exact serinetteref13_Each.mono _ _ _ _)
      | (with_reducible exact serinetteref14_Cuts.mono _ _ _ _)
      | (with_reducible exact serinetteref14_Split.mono _ _ _)
      | (with_reducible exact LeO.refl _)
      | (with_reducible exact LeO.none _)
      | (with_reducible refine LeO.ite ?_ ?_)
      | (with_reducible refine LeO.bind ?_ (fun _ => ?_))
      | exact ih0 _ _ _ _ _ _
      | exact ih1 _ _ _ _ _ _
      | exact ih2 _ _ _ _ _ _ _ _
      | exact serinetteref13_Each.mono _ _ _ _
      | exact serinetteref14_Cuts.mono _ _ _ _
      | exact serinetteref14_Split.mono _ _ _
      | exact LeO.none _
      | refine LeO.ite ?_ ?_
      | refine LeO.bind ?_ (fun _ => ?_)
    · intro y0 y1 y2 y3 y4 y5 y6 y7
      unfold serinetteref14_Bits.l0
      repeat' first
      | (with_reducible exact ih0 _ _ _ _ _ _)
      | (with_reducible exact ih1 _ _ _ _ _ _)
      | (with_reducible exact ih2 _ _ _ _ _ _ _ _)
      | (with_reducible exact serinetteref13_Each.mono _ _ _ _)
      | (with_reducible exact serinetteref14_Cuts.mono _ _ _ _)
      | (with_reducible exact serinetteref14_Split.mono _ _ _)
      | (with_reducible exact LeO.refl _)
      | (with_reducible exact LeO.none _)
      | (with_reducible refine LeO.ite ?_ ?_)
      | (with_reducible refine LeO.bind ?_ (fun _ => ?_))
      | exact ih0 _ _ _ _ _ _
      | exact ih1 _ _ _ _ _ _
      | exact ih2 _ _ _ _ _ _ _ _
      | exact serinetteref13_Each.mono _ _ _ _
      | exact serinetteref14_Cuts.mono _ _ _ _
      | exact serinetteref14_Split.mono _ _ _
      | exact LeO.none _
      | refine LeO.ite ?_ ?_
      | refine LeO.bind ?_ (fun _ => ?_)
theorem serinetteref14_Bits.mono : ∀ a0 a1 a2 a3 a4 k, LeO (serinetteref14_Bits.f k a0 a1 a2 a3 a4) (serinetteref14_Bits.f (k + 1) a0 a1 a2 a3 a4) := by
  intro a0 a1 a2 a3 a4 k
  obtain ⟨ih0, ih1, ih2⟩ := serinetteref14_Bits.mono_l k
  unfold serinetteref14_Bits.f
  repeat' first
      | (with_reducible exact ih0 _ _ _ _ _ _)
      | (with_reducible exact ih1 _ _ _ _ _ _)
      | (with_reducible exact ih2 _ _ _ _ _ _ _ _)
      | (with_reducible exact serinetteref13_Each.mono _ _ _ _)
      | (with_reducible exact serinetteref14_Cuts.mono _ _ _ _)
      | (with_reducible exact serinetteref14_Split.mono _ _ _)
      | (with_reducible exact LeO.refl _)
      | (with_reducible exact LeO.none _)
      | (with_reducible refine LeO.ite ?_ ?_)
      | (with_reducible refine LeO.bind ?_ (fun _ => ?_))
      | exact ih0 _ _ _ _ _ _
      | exact ih1 _ _ _ _ _ _
      | exact ih2 _ _ _ _ _ _ _ _
      | exact serinetteref13_Each.mono _ _ _ _
      | exact serinetteref14_Cuts.mono _ _ _ _
      | exact serinetteref14_Split.mono _ _ _
      | exact LeO.none _
      | refine LeO.ite ?_ ?_
      | refine LeO.bind ?_ (fun _ => ?_)
set_option maxHeartbeats 8000000 in
set_option maxRecDepth 100000 in
theorem serinetteref14_Bits.calls (k : Nat) (A0 : Option Addr) (c0 : Nat) (l0 : List Int) (a1 : Int) (a2_0 : Bool) (a2_1 : Int) (A2_2 : Option Addr) (c2_2 : Nat) (l2_2 : List (S39)) (r : Int) (w : World) (hr0 : Kd.C (Kd.int .i64) w A0 l0.length l0) (hc0 : l0.length ≤ c0) (hr2_2 : Kd.C k39 w A2_2 l2_2.length l2_2) (hc2_2 : l2_2.length ≤ c2_2) (h : serinetteref14_Bits.f k l0 a1 a2_0 a2_1 l2_2 = some r) :
    Calls Try.prog 21 #[.slice A0 l0.length c0, .int .i64 a1, .agg #[.bool a2_0, .int .i64 a2_1, .slice A2_2 l2_2.length c2_2]] w fun e w' => e = .returned (.int .i64 r) ∧ Below w.heap.size w w' := by
  have hu26 := Try.underlying26
  have hu39 := Try.underlying39
  have HR0 := Aside0.mk hr0
  have HC0 := Aside0.mk hc0
  clear hr0 hc0
  have HR2_2 := Aside0.mk hr2_2
  have HC2_2 := Aside0.mk hc2_2
  clear hr2_2 hc2_2
  have HB := Aside0.mk (Below.refl w.heap.size w)
  have H : ((serinetteref14_Cuts.f k (l0.length : Int) a1 a2_1).bind fun t245 => (if (t245.length : Int) = 0 then (serinetteref14_Bits.j0 k l0 t245 true a2_0 a2_1 l2_2) else (serinetteref14_Bits.j0 k l0 t245 ((t245.length : Int) != (l2_2.length : Int)) a2_0 a2_1 l2_2))) = some r := h
  clear h
  replace H := Option.bind_eq_some_iff.mp H
  obtain ⟨t245, A40, H⟩ := H
  replace H : (if (t245.length : Int) = 0 then (serinetteref14_Bits.j0 k l0 t245 true a2_0 a2_1 l2_2) else (serinetteref14_Bits.j0 k l0 t245 ((t245.length : Int) != (l2_2.length : Int)) a2_0 a2_1 l2_2)) = some r := H
  have A4 := Aside0.mk A40
  clear A40
  have HC5 := Aside0.mk H
  clear H
  go_enter Try.func21, Try.ntmps21
  go_upto_region 2 with (first | ((with_reducible refine gate_dst (N := 5) rfl ?_); (try (refine gate_guard (by rfl) ?_; dsimp only)); refine box_event ?hg (N := 5) ?hd (cs := #[.bool a2_0, .int .i64 a2_1, .slice A2_2 l2_2.length c2_2]) (t := 26) ?hr ?_; (case hd => rfl); (case hg => rfl); (case hr => first | (go_simp; done) | (go_simp; rfl)); intro gb244 hg w6 hbox hb; have n0_ := Aside0.mk (below_step (by repeat (first | (with_reducible first | exact HB.out | apply below_alloc | apply pw_below_drewN | apply below_drew1) | exact HB.out)) hb); have n1_ := Aside0.mk (hbox); have n2_ := Aside0.mk ((by rw [hg]; exact (below_size (by repeat (first | (with_reducible first | exact HB.out | apply below_alloc | apply pw_below_drewN | apply below_drew1) | exact HB.out))) : w.heap.size ≤ gb244)); have n3_ := Aside0.mk ((by rw [hg]; exact (below_size (by repeat (first | (with_reducible first | exact HB.out | apply below_alloc | apply pw_below_drewN | apply below_drew1) | exact HB.out))) : w.heap.size ≤ gb244)); clear HB; have HB := n0_; have BK244 := n1_; have GW244 := n2_; have GE244 := n3_; clear n0_ n1_ n2_ n3_; clear hb hbox hg; have hcz7_0 : w6.cell? ⟨gb244, 0, none⟩ = some (.bool a2_0) := (blk_cell BK244.out 0).trans rfl; have hcz7_1 : w6.cell? ⟨gb244, 1, none⟩ = some (.int .i64 a2_1) := (blk_cell BK244.out 1).trans rfl; have hcz7_2 : w6.cell? ⟨gb244, 2, none⟩ = some (.slice A2_2 l2_2.length c2_2) := (blk_cell BK244.out 2).trans rfl; have hfz7_0 := blk_frozen BK244.out 0; have hfz7_1 := blk_frozen BK244.out 1; have hfz7_2 := blk_frozen BK244.out 2) | ((with_reducible refine gate_callee (f := 32) rfl ?_); refine goesL_ (some 20) rfl rfl Try.func32 (by kernel_rfl) rfl #[.int .i64 (l0.length : Int), .int .i64 a1, .int .i64 a2_1] rfl (by (try simp only [List.map_toArray, List.map_cons, List.map_nil]); first | done | rfl | (simp only [List.length_drop, List.length_take]; rfl)) ?_; (with_reducible refine (serinetteref14_Cuts.calls k (l0.length : Int) a1 a2_1 t245 _ A4.out).mono ?_); rintro e w8 ⟨v246, rfl, ho0, hb⟩; refine ⟨_, rfl, ?_⟩; have n0_ := Aside0.mk (Kd.R_lower ho0 (below_size (by repeat (first | (with_reducible first | exact HB.out | apply below_alloc | apply pw_below_drewN | apply below_drew1 | refine below_set ?_ GE244.out) | exact HB.out)))); have n1_ := Aside0.mk (blk_below (g := gb244) (o := .cells #[.bool a2_0, .int .i64 a2_1, .slice A2_2 l2_2.length c2_2] 26 (0, 0)) (by (with_reducible repeat (first | refine blk_drewN ?_ _ | refine blk_drew ?_ | refine blk_alloc ?_ _)); exact BK244.out) hb); have n2_ := Aside0.mk (below_step (by repeat (first | (with_reducible first | exact HB.out | apply below_alloc | apply pw_below_drewN | apply below_drew1 | refine below_set ?_ GE244.out) | exact HB.out)) hb); clear BK244; clear HB; have HO247 := n0_; have BK244 := n1_; have HB := n2_; clear n0_ n1_ n2_; (try clear hb); (try clear hb2); (try clear hk); (try clear hi); (try clear ho0)))
  (try simp only [Act.put, List.setIfInBounds_toArray, List.set_cons_zero, List.set_cons_succ])
  go_cut [31] (fun v31 wc => ∃ (kq : Nat) (x31_4 : Bool), v31 = .bool x31_4 ∧ Aside0 (serinetteref14_Bits.j0 kq l0 t245 x31_4 a2_0 a2_1 l2_2 = some r) ∧ Aside0 (kq ≤ k) ∧ Aside0 (Kd.R (Kd.int .i64) 3 wc w.heap.size (fun _ => True) v246 t245) ∧ Aside0 (wc.heap[gb244]? = some (.cells #[.bool a2_0, .int .i64 a2_1, (.slice A2_2 l2_2.length c2_2)] 26 (0, 0))) ∧ Aside0 (Below w.heap.size w wc))
  case first =>
    have H := HC5.out
    clear HC5
    by_cases c9 : (t245.length : Int) = 0
    · rw [if_pos c9] at H
      have c9b0 : ((t245.length : Int) == 0) = true := beq_iff_eq.mpr c9
      have c9b1 : ((t245.length : Int) != 0) = false := bne_eq_false_iff_eq.mpr c9
      clear c9
      (first | rw [c9b0] | (simp only [i64_w, i32_w]; rw [c9b0]) | skip)
      have H' := Aside0.mk H
      clear H
      obtain ⟨Ao10, co10, eo10⟩ := Kd.R_slice HO247.out
      subst eo10
      go_wp2
      go_meet
      case rel => exact ⟨_, (true), (by first | rfl | (simp; done) | (simp only [i64_w, i32_w]; done) | (simp [*]; done) | (simp only [i64_w, i32_w]; first | rfl | (simp; done) | (simp [*]; done))), H', ⟨by first | omega | exact Nat.le_refl _⟩, ⟨by (with_reducible repeat (first | apply Kd.R_alloc | apply Kd.R_drewN | apply Kd.R_drew)); exact HO247.out⟩, ⟨by (with_reducible repeat (first | refine blk_drewN ?_ _ | refine blk_drew ?_ | refine blk_alloc ?_ _)); exact BK244.out⟩, ⟨by repeat (first | (with_reducible first | exact HB.out | apply below_alloc | apply pw_below_drewN | apply below_drew1 | refine below_set ?_ GE244.out) | exact HB.out)⟩⟩
    · rw [if_neg c9] at H
      have c9b0 : ((t245.length : Int) == 0) = false := beq_eq_false_iff_ne.mpr c9
      have c9b1 : ((t245.length : Int) != 0) = true := bne_iff_ne.mpr c9
      have c9b2 : ¬ (t245 = []) := fun h_ => c9 (by rw [h_]; rfl)
      (first | rw [c9b0] | (simp only [i64_w, i32_w]; rw [c9b0]) | skip)
      have H' := Aside0.mk H
      clear H
      obtain ⟨Ao11, co11, eo11⟩ := Kd.R_slice HO247.out
      subst eo11
      have hcz12_0 : w8.cell? ⟨gb244, 0, none⟩ = some (.bool a2_0) := (blk_cell BK244.out 0).trans rfl
      have hcz12_1 : w8.cell? ⟨gb244, 1, none⟩ = some (.int .i64 a2_1) := (blk_cell BK244.out 1).trans rfl
      have hcz12_2 : w8.cell? ⟨gb244, 2, none⟩ = some (.slice A2_2 l2_2.length c2_2) := (blk_cell BK244.out 2).trans rfl
      have hfz12_0 := blk_frozen BK244.out 0
      have hfz12_1 := blk_frozen BK244.out 1
      have hfz12_2 := blk_frozen BK244.out 2
      go_wp2
      go_meet
      case rel => exact ⟨_, (((t245.length : Int) != (l2_2.length : Int))), (by first | rfl | (simp; done) | (simp only [i64_w, i32_w]; done) | (simp [*]; done) | (simp only [i64_w, i32_w]; first | rfl | (simp; done) | (simp [*]; done))), H', ⟨by first | omega | exact Nat.le_refl _⟩, ⟨by (with_reducible repeat (first | apply Kd.R_alloc | apply Kd.R_drewN | apply Kd.R_drew)); exact HO247.out⟩, ⟨by (with_reducible repeat (first | refine blk_drewN ?_ _ | refine blk_drew ?_ | refine blk_alloc ?_ _)); exact BK244.out⟩, ⟨by repeat (first | (with_reducible first | exact HB.out | apply below_alloc | apply pw_below_drewN | apply below_drew1 | refine below_set ?_ GE244.out) | exact HB.out)⟩⟩
  case rest =>
    clear HC5
    try clear c2
    try clear p2
    try clear c3
    try clear c9
    try clear c9b0
    try clear c9b1
    try clear c9b2
    try clear hcz12_0
    try clear hcz12_1
    try clear hcz12_2
    try clear hcz7_0
    try clear hcz7_1
    try clear hcz7_2
    try clear hfz12_0
    try clear hfz12_1
    try clear hfz12_2
    try clear hfz7_0
    try clear hfz7_1
    try clear hfz7_2
    obtain ⟨kq, x31_4, rfl, HA, HJ4, HO_7, BK244, HB⟩ := hcut
    cases kq with
    | zero => exact absurd HA.out (by simp [serinetteref14_Bits.j0])
    | succ kj4 =>
      have H := HA.out
      clear HA
      simp only [serinetteref14_Bits.j0] at H
      by_cases c13 : x31_4 = true
      · subst c13
        have H1 : (some (-1)) = some r := by rw [if_pos rfl] at H; exact H
        clear H
        have H := H1
        clear H1
        obtain rfl := Option.some.inj H
        go_wp2
        go_ret
        exact ⟨by first | rfl | (simp [errW_none, errW_some] <;> rfl) | (simp [*, errW_none, errW_some] <;> rfl), by repeat (first | (with_reducible first | exact HB.out | apply below_alloc | apply pw_below_drewN | apply below_drew1 | refine below_set ?_ GE244.out) | exact HB.out)⟩
      · replace c13 := Bool.eq_false_iff.mpr c13
        subst c13
        have H1 : ((serinetteref14_Split.f kj4 l0 t245).bind fun t248 => (if a2_0 = true then (serinetteref14_Bits.j1 kj4 t248 5 30 a2_0 a2_1 l2_2) else (serinetteref14_Bits.j1 kj4 t248 4 14 a2_0 a2_1 l2_2))) = some r := by rw [if_neg (show ¬ (false = true) by decide)] at H; exact H
        clear H
        have H := H1
        clear H1
        replace H := Option.bind_eq_some_iff.mp H
        obtain ⟨t248, A140, H⟩ := H
        replace H : (if a2_0 = true then (serinetteref14_Bits.j1 kj4 t248 5 30 a2_0 a2_1 l2_2) else (serinetteref14_Bits.j1 kj4 t248 4 14 a2_0 a2_1 l2_2)) = some r := H
        have A14 := Aside0.mk A140
        clear A140
        have HC15 := Aside0.mk H
        clear H
        obtain ⟨Ao16, co16, eo16⟩ := Kd.R_slice HO_7.out
        subst eo16
        go_upto_if 36 with (first | ((with_reducible refine gate_callee (f := 33) rfl ?_); refine goesL_ (some 34) rfl rfl Try.func33 (by kernel_rfl) rfl #[.slice A0 l0.length c0, .slice Ao16 t245.length co16] rfl (by (try simp only [List.map_toArray, List.map_cons, List.map_nil]); first | done | rfl | (simp only [List.length_drop, List.length_take]; rfl)) ?_; (with_reducible refine (serinetteref14_Split.calls kj4 (fun k_ => k_ < w.heap.size) _ _ l0 _ _ t245 t248 _ ?side1 ?side2 ?side3 A14.out).mono ?_); (case side1 => exact Kd.V_mk HC0.out (Kd.F_below (Kd.C_F (Kd.heap_int .i64) HR0.out) (by repeat (first | (with_reducible first | exact HB.out | apply below_alloc | apply pw_below_drewN | apply below_drew1 | refine below_set ?_ GE244.out) | exact HB.out)))); (case side2 => repeat (first | exact (Kd.R_reads' HO_7.out).2.2 | (with_reducible refine Kd.C_alloc ?_ _) | (with_reducible refine Kd.C_drewN ?_ _) | (with_reducible refine Kd.C_drew ?_))); (case side3 => exact (Kd.R_reads' HO_7.out).2.1); rintro e w17 ⟨v249, rfl, ho0, hb⟩; refine ⟨_, rfl, ?_⟩; have n0_ := Aside0.mk (Kd.R_below (by (with_reducible repeat (first | apply Kd.R_alloc | apply Kd.R_drewN | apply Kd.R_drew)); exact HO_7.out) hb); have n1_ := Aside0.mk (Kd.N_lower (Kd.N_mono (ok' := fun k_ => some k_ ≠ (.slice Ao16 t245.length co16 : Value).ownBlock ∧ k_ ≠ gb244) ho0 (fun k_ hk_ => ⟨Or.elim hk_ (fun hs_ => fun e_ => Nat.not_le.2 hs_ (Kd.R_base HO_7.out k_ e_.symm)) (fun hn_ => (Kd.fresh' (Kd.R_lt (by (with_reducible repeat (first | apply Kd.R_alloc | apply Kd.R_drewN | apply Kd.R_drew)); exact HO_7.out)) k_ hn_)), Or.elim hk_ (fun hs_ => fun e_ => Nat.not_le.2 hs_ (by rw [e_]; exact GW244.out)) (fun hn_ => (Kd.freshB (g := gb244) (o := .cells #[.bool a2_0, .int .i64 a2_1, .slice A2_2 l2_2.length c2_2] 26 (0, 0)) (by (with_reducible repeat (first | refine blk_drewN ?_ _ | refine blk_drew ?_ | refine blk_alloc ?_ _)); exact BK244.out) k_ hn_))⟩)) (below_size (by repeat (first | (with_reducible first | exact HB.out | apply below_alloc | apply pw_below_drewN | apply below_drew1 | refine below_set ?_ GE244.out) | exact HB.out)))); have n2_ := Aside0.mk (blk_below (g := gb244) (o := .cells #[.bool a2_0, .int .i64 a2_1, .slice A2_2 l2_2.length c2_2] 26 (0, 0)) (by (with_reducible repeat (first | refine blk_drewN ?_ _ | refine blk_drew ?_ | refine blk_alloc ?_ _)); exact BK244.out) hb); have n3_ := Aside0.mk (below_step (by repeat (first | (with_reducible first | exact HB.out | apply below_alloc | apply pw_below_drewN | apply below_drew1 | refine below_set ?_ GE244.out) | exact HB.out)) hb); clear HO_7; clear BK244; clear HB; have HO_7 := n0_; have HO250 := n1_; have BK244 := n2_; have HB := n3_; clear n0_ n1_ n2_ n3_; (try clear hb); (try clear hb2); (try clear hk); (try clear hi); (try clear ho0); have hcz18_0 : w17.cell? ⟨gb244, 0, none⟩ = some (.bool a2_0) := (blk_cell BK244.out 0).trans rfl; have hcz18_1 : w17.cell? ⟨gb244, 1, none⟩ = some (.int .i64 a2_1) := (blk_cell BK244.out 1).trans rfl; have hcz18_2 : w17.cell? ⟨gb244, 2, none⟩ = some (.slice A2_2 l2_2.length c2_2) := (blk_cell BK244.out 2).trans rfl; have hfz18_0 := blk_frozen BK244.out 0; have hfz18_1 := blk_frozen BK244.out 1; have hfz18_2 := blk_frozen BK244.out 2))
        (try simp only [Act.put, List.setIfInBounds_toArray, List.set_cons_zero, List.set_cons_succ])
        go_cut [9, 10] (fun v9 v10 wc => ∃ (kq : Nat) (x9_14 : Int) (x10_14 : Int), v9 = .int .i64 x9_14 ∧ v10 = .int .i64 x10_14 ∧ Aside0 (serinetteref14_Bits.j1 kq t248 x9_14 x10_14 a2_0 a2_1 l2_2 = some r) ∧ Aside0 (kq ≤ kj4) ∧ Aside0 (Kd.N (Kd.slice 3 (Kd.int .i64)) 22 wc w.heap.size (fun k_ => k_ ≠ gb244) v249 t248) ∧ Aside0 (wc.heap[gb244]? = some (.cells #[.bool a2_0, .int .i64 a2_1, (.slice A2_2 l2_2.length c2_2)] 26 (0, 0))) ∧ Aside0 (Below w.heap.size w wc))
        case first =>
          have H := HC15.out
          clear HC15
          by_cases c19 : a2_0 = true
          · subst c19
            have H1 : (serinetteref14_Bits.j1 kj4 t248 5 30 true a2_1 l2_2) = some r := by rw [if_pos rfl] at H; exact H
            clear H
            have H := H1
            clear H1
            have H' := Aside0.mk H
            clear H
            go_wp2
            go_meet
            case rel => exact ⟨_, (5), (30), (by first | rfl | (simp; done) | (simp only [i64_w, i32_w]; done) | (simp [*]; done) | (simp only [i64_w, i32_w]; first | rfl | (simp; done) | (simp [*]; done))), (by first | rfl | (simp; done) | (simp only [i64_w, i32_w]; done) | (simp [*]; done) | (simp only [i64_w, i32_w]; first | rfl | (simp; done) | (simp [*]; done))), H', ⟨by have := HJ4.out; first | omega | exact Nat.le_refl _⟩, ⟨by (with_reducible repeat (first | apply Kd.N_alloc | apply Kd.N_drewN | apply Kd.N_drew)); exact Kd.N_mono HO250.out (fun _ hk => hk.2)⟩, ⟨by (with_reducible repeat (first | refine blk_drewN ?_ _ | refine blk_drew ?_ | refine blk_alloc ?_ _)); exact BK244.out⟩, ⟨by repeat (first | (with_reducible first | exact HB.out | apply below_alloc | apply pw_below_drewN | apply below_drew1 | refine below_set ?_ GE244.out) | exact HB.out)⟩⟩
          · replace c19 := Bool.eq_false_iff.mpr c19
            subst c19
            have H1 : (serinetteref14_Bits.j1 kj4 t248 4 14 false a2_1 l2_2) = some r := by rw [if_neg (show ¬ (false = true) by decide)] at H; exact H
            clear H
            have H := H1
            clear H1
            have H' := Aside0.mk H
            clear H
            go_wp2
            go_meet
            case rel => exact ⟨_, (4), (14), (by first | rfl | (simp; done) | (simp only [i64_w, i32_w]; done) | (simp [*]; done) | (simp only [i64_w, i32_w]; first | rfl | (simp; done) | (simp [*]; done))), (by first | rfl | (simp; done) | (simp only [i64_w, i32_w]; done) | (simp [*]; done) | (simp only [i64_w, i32_w]; first | rfl | (simp; done) | (simp [*]; done))), H', ⟨by have := HJ4.out; first | omega | exact Nat.le_refl _⟩, ⟨by (with_reducible repeat (first | apply Kd.N_alloc | apply Kd.N_drewN | apply Kd.N_drew)); exact Kd.N_mono HO250.out (fun _ hk => hk.2)⟩, ⟨by (with_reducible repeat (first | refine blk_drewN ?_ _ | refine blk_drew ?_ | refine blk_alloc ?_ _)); exact BK244.out⟩, ⟨by repeat (first | (with_reducible first | exact HB.out | apply below_alloc | apply pw_below_drewN | apply below_drew1 | refine below_set ?_ GE244.out) | exact HB.out)⟩⟩
        case rest =>
          clear HC15
          try clear c1
          try clear c2
          try clear p2
          try clear c3
          try clear c9
          try clear c9b0
          try clear c9b1
          try clear c9b2
          try clear c13
          try clear c19
          try clear hcz12_0
          try clear hcz12_1
          try clear hcz12_2
          try clear hcz18_0
          try clear hcz18_1
          try clear hcz18_2
          try clear hcz7_0
          try clear hcz7_1
          try clear hcz7_2
          try clear hfz12_0
          try clear hfz12_1
          try clear hfz12_2
          try clear hfz18_0
          try clear hfz18_1
          try clear hfz18_2
          try clear hfz7_0
          try clear hfz7_1
          try clear hfz7_2
          try clear p2
          obtain ⟨kq, x9_14, x10_14, rfl, rfl, HA, HJ14, HO_8, BK244, HB⟩ := hcut
          cases kq with
          | zero => exact absurd HA.out (by simp [serinetteref14_Bits.j1])
          | succ kj14 =>
            have H := HA.out
            clear HA
            simp only [serinetteref14_Bits.j1] at H
            have H' := Aside0.mk H
            clear H
            go_wp2
            go_loopg [11, 12] kj14 (fun kq v11 v12 w' => ∃ (x11_3 : Int) (x12_3 : Int), v11 = .int .i64 x11_3 ∧ v12 = .int .i64 x12_3 ∧ Aside0 (serinetteref14_Bits.l0 kq t248 x9_14 x10_14 x11_3 x12_3 a2_0 a2_1 l2_2 = some r) ∧ Aside0 (kq ≤ kj14) ∧ Aside0 (Kd.N (Kd.slice 3 (Kd.int .i64)) 22 w' w.heap.size (fun k_ => k_ ≠ gb244) v249 t248) ∧ Aside0 (w'.heap[gb244]? = some (.cells #[.bool a2_0, .int .i64 a2_1, (.slice A2_2 l2_2.length c2_2)] 26 (0, 0))) ∧ Aside0 (Below w.heap.size w w'))
            case atStart => exact ⟨(6), (0), (by first | rfl | (simp; done) | (simp only [i64_w, i32_w]; done) | (simp [*]; done) | (simp only [i64_w, i32_w]; first | rfl | (simp; done) | (simp [*]; done))), (by first | rfl | (simp; done) | (simp only [i64_w, i32_w]; done) | (simp [*]; done) | (simp only [i64_w, i32_w]; first | rfl | (simp; done) | (simp [*]; done))), H', ⟨Nat.le_refl _⟩, ⟨by (with_reducible repeat (first | apply Kd.N_alloc | apply Kd.N_drewN | apply Kd.N_drew)); exact HO_8.out⟩, ⟨by (with_reducible repeat (first | refine blk_drewN ?_ _ | refine blk_drew ?_ | refine blk_alloc ?_ _)); exact BK244.out⟩, ⟨by repeat (first | (with_reducible first | exact HB.out | apply below_alloc | apply pw_below_drewN | apply below_drew1 | refine below_set ?_ GE244.out) | exact HB.out)⟩⟩
            case round =>
              clear H'
              try clear c1
              try clear c2
              try clear p2
              try clear c3
              try clear c9
              try clear c9b0
              try clear c9b1
              try clear c9b2
              try clear c13
              try clear c19
              try clear hcz12_0
              try clear hcz12_1
              try clear hcz12_2
              try clear hcz18_0
              try clear hcz18_1
              try clear hcz18_2
              try clear hcz7_0
              try clear hcz7_1
              try clear hcz7_2
              try clear hfz12_0
              try clear hfz12_1
              try clear hfz12_2
              try clear hfz18_0
              try clear hfz18_1
              try clear hfz18_2
              try clear hfz7_0
              try clear hfz7_1
              try clear hfz7_2
              try clear p2
              obtain ⟨x11_3, x12_3, rfl, rfl, HA, HK3, HO_8, BK244, HB⟩ := hrel
              cases gk with
              | zero => exact absurd HA.out (by simp [serinetteref14_Bits.l0])
              | succ k3 =>
                have H := HA.out
                clear HA
                simp only [serinetteref14_Bits.l0] at H
                by_cases c20 : x12_3 < (t248.length : Int)
                · rw [if_pos c20] at H
                  have c20b0 : decide (x12_3 < (t248.length : Int)) = true := decide_eq_true c20
                  clear c20
                  by_cases c21 : 0 ≤ x12_3
                  · rw [if_pos c21] at H
                    have c21b0 : decide (0 ≤ x12_3) = true := decide_eq_true c21
                    clear c21
                    by_cases c22 : x12_3 < (l2_2.length : Int)
                    · rw [if_pos c22] at H
                      have c22b0 : decide (x12_3 < (l2_2.length : Int)) = true := decide_eq_true c22
                      clear c22
                      replace H := Option.bind_eq_some_iff.mp H
                      obtain ⟨t254, A230, H⟩ := H
                      replace H : (if t254 < 0 then (some (-1)) else (if ((rd_T39 l2_2 x12_3).f1 = true) then (serinetteref14_Bits.l0 k3 t248 x9_14 x10_14 (wrap64 ((wrap64 (x11_3 + x9_14)) + t254)) (wrap64 (x12_3 + 1)) a2_0 a2_1 l2_2) else (if ((rd_T39 l2_2 x12_3).f0) < 0 then (some (-1)) else (if ((rd_T39 l2_2 x12_3).f0) > x10_14 then (some (-1)) else (serinetteref14_Bits.l0 k3 t248 x9_14 x10_14 (wrap64 ((wrap64 (x11_3 + x9_14)) + t254)) (wrap64 (x12_3 + 1)) a2_0 a2_1 l2_2))))) = some r := H
                      have A23 := Aside0.mk A230
                      clear A230
                      by_cases c24 : t254 < 0
                      · rw [if_pos c24] at H
                        have c24b0 : decide (t254 < 0) = true := decide_eq_true c24
                        clear c24
                        obtain rfl := Option.some.inj H
                        obtain ⟨Ao25, co25, eo25⟩ := Kd.N_slice HO_8.out
                        subst eo25
                        have hcz26_0 : wr.cell? ⟨gb244, 0, none⟩ = some (.bool a2_0) := (blk_cell BK244.out 0).trans rfl
                        have hcz26_1 : wr.cell? ⟨gb244, 1, none⟩ = some (.int .i64 a2_1) := (blk_cell BK244.out 1).trans rfl
                        have hcz26_2 : wr.cell? ⟨gb244, 2, none⟩ = some (.slice A2_2 l2_2.length c2_2) := (blk_cell BK244.out 2).trans rfl
                        have hfz26_0 := blk_frozen BK244.out 0
                        have hfz26_1 := blk_frozen BK244.out 1
                        have hfz26_2 := blk_frozen BK244.out 2
                        have p251 : 0 ≤ (x12_3 : Int) := of_decide_eq_true (by first | (with_reducible assumption) | assumption)
                        have q251 : x12_3 < (l2_2.length : Int) := of_decide_eq_true (by first | (with_reducible assumption) | assumption)
                        obtain ⟨ad251, e251, hx251_0, hx251_1⟩ := at_T39 HR2_2.out x12_3 p251 q251
                        cases e251
                        replace hx251_0 := (HB.out.cell (World.block_lt_of_cell? w _ hx251_0)).trans hx251_0
                        replace hx251_1 := (HB.out.cell (World.block_lt_of_cell? w _ hx251_1)).trans hx251_1
                        replace p251 := eq_true p251
                        replace q251 := eq_true q251
                        try go_wp2_with (first | ((with_reducible refine gate_dst (N := 13) rfl ?_); (try (refine gate_guard (by rfl) ?_; dsimp only)); refine box_event ?hg (N := 13) ?hd (cs := #[.int .i64 0, .bool false]) (t := 39) ?hr ?_; (case hd => rfl); (case hg => rfl); (case hr => first | (go_simp; done) | (go_simp; rfl)); intro gb252 hg w27 hbox hb; have n0_ := Aside0.mk (Kd.N_below (Kd.N_elderB (by (with_reducible repeat (first | apply Kd.N_alloc | apply Kd.N_drewN | apply Kd.N_drew)); exact HO_8.out) gb252 (Nat.le_of_eq hg.symm)) hb); have n1_ := Aside0.mk (blk_below (g := gb244) (o := .cells #[.bool a2_0, .int .i64 a2_1, .slice (some ad251) l2_2.length c2_2] 26 (0, 0)) (by (with_reducible repeat (first | refine blk_drewN ?_ _ | refine blk_drew ?_ | refine blk_alloc ?_ _)); exact BK244.out) hb); have n2_ := Aside0.mk (below_step (by repeat (first | (with_reducible first | exact HB.out | apply below_alloc | apply pw_below_drewN | apply below_drew1 | refine below_set ?_ GE244.out) | exact HB.out)) hb); have n3_ := Aside0.mk (hbox); have n4_ := Aside0.mk ((by rw [hg]; exact (below_size (by repeat (first | (with_reducible first | exact HB.out | apply below_alloc | apply pw_below_drewN | apply below_drew1 | refine below_set ?_ GE244.out) | exact HB.out))) : w.heap.size ≤ gb252)); have n5_ := Aside0.mk ((by rw [hg]; exact (below_size (by repeat (first | (with_reducible first | exact HB.out | apply below_alloc | apply pw_below_drewN | apply below_drew1 | refine below_set ?_ GE244.out) | exact HB.out))) : w.heap.size ≤ gb252)); have n6_ := Aside0.mk ((by rw [hg]; exact Nat.ne_of_lt (blk_lt (g := gb244) (o := .cells #[.bool a2_0, .int .i64 a2_1, .slice (some ad251) l2_2.length c2_2] 26 (0, 0)) (by (with_reducible repeat (first | refine blk_drewN ?_ _ | refine blk_drew ?_ | refine blk_alloc ?_ _)); exact BK244.out)) : gb244 ≠ gb252)); have n7_ := Aside0.mk ((by rw [hg]; exact Nat.ne_of_gt (blk_lt (g := gb244) (o := .cells #[.bool a2_0, .int .i64 a2_1, .slice (some ad251) l2_2.length c2_2] 26 (0, 0)) (by (with_reducible repeat (first | refine blk_drewN ?_ _ | refine blk_drew ?_ | refine blk_alloc ?_ _)); exact BK244.out)) : gb252 ≠ gb244)); clear HO_8; clear BK244; clear HB; have HO_8 := n0_; have BK244 := n1_; have HB := n2_; have BK252 := n3_; have GW252 := n4_; have GE252 := n5_; have NB244_252 := n6_; have NB252_244 := n7_; clear n0_ n1_ n2_ n3_ n4_ n5_ n6_ n7_; clear hb hbox hg; have hnb28 := NB252_244.out; have hnc28 := NB244_252.out; have hcz29_0 : w27.cell? ⟨gb252, 0, none⟩ = some (.int .i64 0) := (blk_cell BK252.out 0).trans rfl; have hcz29_1 : w27.cell? ⟨gb252, 1, none⟩ = some (.bool false) := (blk_cell BK252.out 1).trans rfl; have hfz29_0 := blk_frozen BK252.out 0; have hfz29_1 := blk_frozen BK252.out 1))
                        have n0_ : Aside0 (Kd.N (Kd.slice 3 (Kd.int .i64)) 22 ((w27.setCell ⟨gb252, 0, none⟩ (.int .i64 ((rd_T39 l2_2 x12_3).f0))).setCell ⟨gb252, 1, none⟩ (.bool ((rd_T39 l2_2 x12_3).f1))) w.heap.size (fun k_ => k_ ≠ gb244 ∧ k_ ≠ gb252) (.slice Ao25 t248.length co25) t248) := ⟨by (with_reducible repeat (first | apply Kd.N_alloc | apply Kd.N_drewN | apply Kd.N_drew)); exact Kd.N_mono (Kd.N_far (p := ⟨gb252, 1, none⟩) (Kd.N_far (p := ⟨gb252, 0, none⟩) (Kd.N_mono HO_8.out (fun k_ hk => (⟨hk, hk.2⟩ : _ ∧ k_ ≠ gb252))) (fun _ hk => hk.2) (.int .i64 ((rd_T39 l2_2 x12_3).f0))) (fun _ hk => hk.2) (.bool ((rd_T39 l2_2 x12_3).f1))) (fun _ hk => ⟨hk.1.1, hk.1.2⟩)⟩
                        have n1_ : Aside0 (((w27.setCell ⟨gb252, 0, none⟩ (.int .i64 ((rd_T39 l2_2 x12_3).f0))).setCell ⟨gb252, 1, none⟩ (.bool ((rd_T39 l2_2 x12_3).f1))).heap[gb244]? = some (.cells #[.bool a2_0, .int .i64 a2_1, .slice (some ad251) l2_2.length c2_2] 26 (0, 0))) := ⟨by (with_reducible repeat (first | refine blk_drewN ?_ _ | refine blk_drew ?_ | refine blk_alloc ?_ _)); refine blk_far ?_ NB244_252.out _; (with_reducible repeat (first | refine blk_drewN ?_ _ | refine blk_drew ?_ | refine blk_alloc ?_ _)); refine blk_far ?_ NB244_252.out _; (with_reducible repeat (first | refine blk_drewN ?_ _ | refine blk_drew ?_ | refine blk_alloc ?_ _)); exact BK244.out⟩
                        have n2_ : Aside0 (((w27.setCell ⟨gb252, 0, none⟩ (.int .i64 ((rd_T39 l2_2 x12_3).f0))).setCell ⟨gb252, 1, none⟩ (.bool ((rd_T39 l2_2 x12_3).f1))).heap[gb252]? = some (.cells #[.int .i64 ((rd_T39 l2_2 x12_3).f0), .bool ((rd_T39 l2_2 x12_3).f1)] 39 (0, 0))) := ⟨by (with_reducible repeat (first | refine blk_drewN ?_ _ | refine blk_drew ?_ | refine blk_alloc ?_ _)); refine blk_put (cs := #[.int .i64 ((rd_T39 l2_2 x12_3).f0), .bool false]) ?_ 1 _ rfl; (with_reducible repeat (first | refine blk_drewN ?_ _ | refine blk_drew ?_ | refine blk_alloc ?_ _)); refine blk_put (cs := #[.int .i64 0, .bool false]) ?_ 0 _ rfl; (with_reducible repeat (first | refine blk_drewN ?_ _ | refine blk_drew ?_ | refine blk_alloc ?_ _)); exact BK252.out⟩
                        have n3_ : Aside0 (Below w.heap.size w ((w27.setCell ⟨gb252, 0, none⟩ (.int .i64 ((rd_T39 l2_2 x12_3).f0))).setCell ⟨gb252, 1, none⟩ (.bool ((rd_T39 l2_2 x12_3).f1)))) := ⟨by repeat (first | (with_reducible first | exact HB.out | apply below_alloc | apply pw_below_drewN | apply below_drew1 | refine below_set ?_ GE244.out | refine below_set ?_ GE252.out) | exact HB.out)⟩
                        (try clear HO_8)
                        (try clear BK244)
                        (try clear BK252)
                        (try clear HB)
                        generalize ((w27.setCell ⟨gb252, 0, none⟩ (.int .i64 ((rd_T39 l2_2 x12_3).f0))).setCell ⟨gb252, 1, none⟩ (.bool ((rd_T39 l2_2 x12_3).f1))) = w30 at n0_ n1_ n2_ n3_ ⊢
                        have HO_8 := n0_
                        have BK244 := n1_
                        have BK252 := n2_
                        have HB := n3_
                        clear n0_ n1_ n2_ n3_
                        have n0_ := Aside0.mk (Kd.N_drew HO_8.out)
                        have n1_ := Aside0.mk (blk_drew BK244.out)
                        have n2_ := Aside0.mk (blk_drew BK252.out)
                        have n3_ := Aside0.mk (below_drew1 HB.out)
                        clear HO_8
                        clear BK244
                        clear BK252
                        clear HB
                        have HO_8 := n0_
                        have BK244 := n1_
                        have BK252 := n2_
                        have HB := n3_
                        clear n0_ n1_ n2_ n3_
                        have p253 : 0 ≤ (x12_3 : Int) := of_decide_eq_true (by first | (with_reducible assumption) | assumption)
                        have q253 : x12_3 < (t248.length : Int) := of_decide_eq_true (by first | (with_reducible assumption) | assumption)
                        obtain ⟨ad253, A253_0, c253_0, e253, hx253_0, hl253_0, hi253_0⟩ := at_L3 (Kd.N_reads' HO_8.out).2.2 x12_3 p253 q253
                        cases e253
                        obtain ⟨ce253, hce253, hMe253, hcc253⟩ := Kd.N_get HO_8.out [] x12_3 p253 (by first | exact q253 | exact of_decide_eq_true (by first | (with_reducible assumption) | assumption) | (have e_ := (Kd.N_reads' HO_8.out).1; omega))
                        obtain ⟨ua253_0, uc253_0, rfl, ul253_0, ge253_0⟩ := Kd.FK_slice_open hMe253
                        have hv253_0 := hcc253 0 _ rfl
                        rw [Nat.add_zero, show ((Kd.slice 3 (Kd.int .i64))).sz = 1 from rfl, Nat.mul_one] at hv253_0
                        replace hv253_0 := Option.some.inj (hv253_0.symm.trans hx253_0)
                        injection hv253_0 with hva_ hvn_ hvc_
                        rw [hva_] at ge253_0
                        rw [hvc_] at ul253_0
                        have HL253_0 := Aside0.mk (show Kd.V (Kd.int .i64) 3 _ w.heap.size _ _ (rd_L3 t248 x12_3) from Kd.V_mk ul253_0 ge253_0)
                        clear hva_ hvn_ hvc_ ge253_0 ul253_0
                        clear hcc253 hce253
                        have HR253_0 := Aside0.mk hi253_0
                        have HC253_0 := Aside0.mk hl253_0
                        clear hi253_0 hl253_0
                        replace p253 := eq_true p253
                        replace q253 := eq_true q253
                        refine start_ (n := 7) (S := fun w' => w'.cell? ⟨gb252, 0, none⟩ = some (.int .i64 ((rd_T39 l2_2 x12_3).f0)) ∧ w'.cell? ⟨gb252, 1, none⟩ = some (.bool ((rd_T39 l2_2 x12_3).f1)) ∧ w'.cell? (ad253.add (x12_3).toNat) = some (.slice A253_0 (rd_L3 t248 x12_3).length c253_0)) (ds := []) #[false, false, false, false, false, false, false] (by kernel_rfl) rfl rfl ⟨(blk_cell BK252.out 0).trans rfl, (blk_cell BK252.out 1).trans rfl, hx253_0⟩ (fun hHeld => ?_)
                        generalize w30.drew = w31 at HO_8 BK244 BK252 HB HL253_0 HR253_0 hx253_0 hHeld ⊢
                        refine pure_ (i := 0) (N := some 48) (v := ?_) (a' := ?_) #[true, false, false, false, false, false, false] rfl rfl (by kernel_rfl) (fun _ _ _ h => h) (Or.inl ⟨by rfl, ?_⟩) ?_ ?_
                        rotate_left
                        · intro w'
                          go_simp
                          with_reducible rfl
                        rotate_left
                        · simp only [Act.put, List.setIfInBounds_toArray, List.set_cons_zero, List.set_cons_succ, i64_w, i32_w]
                          rfl
                        refine pure_ (i := 1) (N := some 49) (v := ?_) (a' := ?_) #[true, true, false, false, false, false, false] rfl rfl (by kernel_rfl) (fun _ _ _ h => h) (Or.inl ⟨by rfl, ?_⟩) ?_ ?_
                        rotate_left
                        · intro w'
                          go_simp
                          with_reducible rfl
                        rotate_left
                        · simp only [Act.put, List.setIfInBounds_toArray, List.set_cons_zero, List.set_cons_succ, i64_w, i32_w]
                          rfl
                        refine pure_ (i := 2) (N := some 50) (v := ?_) (a' := ?_) #[true, true, true, false, false, false, false] rfl rfl (by kernel_rfl) (fun _ _ _ h => h) (Or.inl ⟨by rfl, ?_⟩) ?_ ?_
                        rotate_left
                        · intro w'
                          go_simp
                          with_reducible rfl
                        rotate_left
                        · simp only [Act.put, List.setIfInBounds_toArray, List.set_cons_zero, List.set_cons_succ, i64_w, i32_w]
                          rfl
                        refine take_ (i := 3) (N := some 51) (v := ?_) (a' := ?_) #[true, true, true, true, false, false, false] rfl rfl (by kernel_rfl) (fun _ _ _ h => h) (Or.inl ⟨by rfl, ?_⟩) hHeld ?_ ?_
                        rotate_left
                        · rintro w' ⟨s0, s1, s2⟩
                          go_simp
                          with_reducible rfl
                        rotate_left
                        · simp only [Act.put, List.setIfInBounds_toArray, List.set_cons_zero, List.set_cons_succ, i64_w, i32_w]
                          rfl
                        refine take_ (i := 4) (N := some 52) (v := ?_) (a' := ?_) #[true, true, true, true, true, false, false] rfl rfl (by kernel_rfl) (fun _ _ _ h => h) (Or.inl ⟨by rfl, ?_⟩) hHeld ?_ ?_
                        rotate_left
                        · rintro w' ⟨s0, s1, s2⟩
                          go_simp
                          with_reducible rfl
                        rotate_left
                        · simp only [Act.put, List.setIfInBounds_toArray, List.set_cons_zero, List.set_cons_succ, i64_w, i32_w]
                          rfl
                        refine one_ (i := 5) (N := some 53) #[true, true, true, true, true, true, false] rfl rfl (by kernel_rfl) (by decide) (fun K hK => ?_)
                        refine goes_ Try.func35 (by kernel_rfl) rfl #[.slice A253_0 (rd_L3 t248 x12_3).length c253_0, .agg #[.int .i64 ((rd_T39 l2_2 x12_3).f0), .bool ((rd_T39 l2_2 x12_3).f1)]] (by rfl) rfl rfl (by (try simp only [List.map_toArray, List.map_cons, List.map_nil]); first | done | rfl | (simp only [List.length_drop, List.length_take]; rfl)) ?_
                        with_reducible refine (serinetteref13_Each.calls k3 _ _ (rd_L3 t248 x12_3) ((rd_T39 l2_2 x12_3).f0) ((rd_T39 l2_2 x12_3).f1) t254 _ ?side1 ?side2 A23.out).mono ?_
                        (case side1 => repeat (first | exact (by repeat (first | (with_reducible exact HR253_0.out) | (with_reducible refine Kd.C_alloc ?_ _) | (with_reducible refine Kd.C_drewN ?_ _) | (with_reducible refine Kd.C_drew ?_) | exact HR253_0.out)) | (with_reducible refine Kd.C_alloc ?_ _) | (with_reducible refine Kd.C_drewN ?_ _) | (with_reducible refine Kd.C_drew ?_)))
                        (case side2 => exact HC253_0.out)
                        rintro e w32 ⟨rfl, hb⟩
                        have HS2_ := (hb.cell (World.block_lt_of_cell? _ _ (hHeld.2.2))).trans (hHeld.2.2)
                        refine ⟨_, rfl, ?_⟩
                        have n0_ := Aside0.mk (Kd.N_below (by (with_reducible repeat (first | apply Kd.N_alloc | apply Kd.N_drewN | apply Kd.N_drew)); exact HO_8.out) hb)
                        have n1_ := Aside0.mk (Kd.V_below (by (with_reducible repeat (first | apply Kd.V_alloc | apply Kd.V_drewN | apply Kd.V_drew)); exact HL253_0.out) hb)
                        have n2_ := Aside0.mk (blk_below (g := gb244) (o := .cells #[.bool a2_0, .int .i64 a2_1, .slice (some ad251) l2_2.length c2_2] 26 (0, 0)) (by (with_reducible repeat (first | refine blk_drewN ?_ _ | refine blk_drew ?_ | refine blk_alloc ?_ _)); exact BK244.out) hb)
                        have n3_ := Aside0.mk (blk_below (g := gb252) (o := .cells #[.int .i64 ((rd_T39 l2_2 x12_3).f0), .bool ((rd_T39 l2_2 x12_3).f1)] 39 (0, 0)) (by (with_reducible repeat (first | refine blk_drewN ?_ _ | refine blk_drew ?_ | refine blk_alloc ?_ _)); exact BK252.out) hb)
                        have n4_ := Aside0.mk (Kd.C_below (by repeat (first | (with_reducible exact HR253_0.out) | (with_reducible refine Kd.C_alloc ?_ _) | (with_reducible refine Kd.C_drewN ?_ _) | (with_reducible refine Kd.C_drew ?_) | exact HR253_0.out)) hb)
                        have n5_ := Aside0.mk (below_step (by repeat (first | (with_reducible first | exact HB.out | apply below_alloc | apply pw_below_drewN | apply below_drew1 | refine below_set ?_ GE244.out | refine below_set ?_ GE252.out) | exact HB.out)) hb)
                        clear HO_8
                        clear HL253_0
                        clear BK244
                        clear BK252
                        clear HR253_0
                        clear HB
                        have HO_8 := n0_
                        have HL253_0 := n1_
                        have BK244 := n2_
                        have BK252 := n3_
                        have HR253_0 := n4_
                        have HB := n5_
                        clear n0_ n1_ n2_ n3_ n4_ n5_
                        (try clear hb)
                        (try clear hb2)
                        (try clear hk)
                        (try clear hi)
                        refine hK.out _ _ ⟨(blk_cell BK252.out 0).trans rfl, (blk_cell BK252.out 1).trans rfl, HS2_⟩ (fun hHeld => ?_)
                        clear hK K
                        refine norm_ (a' := ?_) ?_ ?_
                        rotate_left
                        · show Act.put _ (some 53) _ = _
                          simp only [Act.put, List.setIfInBounds_toArray, List.set_cons_zero, List.set_cons_succ, i64_w, i32_w]
                          rfl
                        refine pure_ (i := 6) (N := some 14) (v := ?_) (a' := ?_) #[true, true, true, true, true, true, true] rfl rfl (by kernel_rfl) (fun _ _ _ h => h) (Or.inl ⟨by rfl, ?_⟩) ?_ ?_
                        rotate_left
                        · intro w'
                          go_simp
                          with_reducible rfl
                        rotate_left
                        · simp only [Act.put, List.setIfInBounds_toArray, List.set_cons_zero, List.set_cons_succ, i64_w, i32_w]
                          rfl
                        refine done_ (by kernel_rfl) ?_
                        try go_wp2
                        go_ret
                        exact ⟨by first | rfl | (simp [errW_none, errW_some] <;> rfl) | (simp [*, errW_none, errW_some] <;> rfl), by repeat (first | (with_reducible first | exact HB.out | apply below_alloc | apply pw_below_drewN | apply below_drew1 | refine below_set ?_ GE244.out | refine below_set ?_ GE252.out) | exact HB.out)⟩
                      · rw [if_neg c24] at H
                        have c24b0 : decide (t254 < 0) = false := decide_eq_false c24
                        clear c24
                        obtain ⟨bq33, hbq33⟩ : ∃ b_ : Bool, b_ = ((rd_T39 l2_2 x12_3).f1) := ⟨_, rfl⟩
                        replace H : (if (bq33 = true) then (serinetteref14_Bits.l0 k3 t248 x9_14 x10_14 (wrap64 ((wrap64 (x11_3 + x9_14)) + t254)) (wrap64 (x12_3 + 1)) a2_0 a2_1 l2_2) else (if ((rd_T39 l2_2 x12_3).f0) < 0 then (some (-1)) else (if ((rd_T39 l2_2 x12_3).f0) > x10_14 then (some (-1)) else (serinetteref14_Bits.l0 k3 t248 x9_14 x10_14 (wrap64 ((wrap64 (x11_3 + x9_14)) + t254)) (wrap64 (x12_3 + 1)) a2_0 a2_1 l2_2)))) = some r := by rw [← hbq33] at H; exact H
                        have Nbq33 := Aside0.mk hbq33
                        clear hbq33
                        by_cases c34 : (bq33 = true)
                        · subst c34
                          have H1 : (serinetteref14_Bits.l0 k3 t248 x9_14 x10_14 (wrap64 ((wrap64 (x11_3 + x9_14)) + t254)) (wrap64 (x12_3 + 1)) a2_0 a2_1 l2_2) = some r := by rw [if_pos rfl] at H; exact H
                          clear H
                          have H := H1
                          clear H1
                          have H' := Aside0.mk H
                          clear H
                          obtain ⟨Ao35, co35, eo35⟩ := Kd.N_slice HO_8.out
                          subst eo35
                          have hcz36_0 : wr.cell? ⟨gb244, 0, none⟩ = some (.bool a2_0) := (blk_cell BK244.out 0).trans rfl
                          have hcz36_1 : wr.cell? ⟨gb244, 1, none⟩ = some (.int .i64 a2_1) := (blk_cell BK244.out 1).trans rfl
                          have hcz36_2 : wr.cell? ⟨gb244, 2, none⟩ = some (.slice A2_2 l2_2.length c2_2) := (blk_cell BK244.out 2).trans rfl
                          have hfz36_0 := blk_frozen BK244.out 0
                          have hfz36_1 := blk_frozen BK244.out 1
                          have hfz36_2 := blk_frozen BK244.out 2
                          have p251 : 0 ≤ (x12_3 : Int) := of_decide_eq_true (by first | (with_reducible assumption) | assumption)
                          have q251 : x12_3 < (l2_2.length : Int) := of_decide_eq_true (by first | (with_reducible assumption) | assumption)
                          obtain ⟨ad251, e251, hx251_0, hx251_1⟩ := at_T39 HR2_2.out x12_3 p251 q251
                          (try rw [← Nbq33.out] at hx251_1)
                          cases e251
                          replace hx251_0 := (HB.out.cell (World.block_lt_of_cell? w _ hx251_0)).trans hx251_0
                          replace hx251_1 := (HB.out.cell (World.block_lt_of_cell? w _ hx251_1)).trans hx251_1
                          replace p251 := eq_true p251
                          replace q251 := eq_true q251
                          try go_wp2_with (first | ((with_reducible refine gate_dst (N := 13) rfl ?_); (try (refine gate_guard (by rfl) ?_; dsimp only)); refine box_event ?hg (N := 13) ?hd (cs := #[.int .i64 0, .bool false]) (t := 39) ?hr ?_; (case hd => rfl); (case hg => rfl); (case hr => first | (go_simp; done) | (go_simp; rfl)); intro gb252 hg w37 hbox hb; have n0_ := Aside0.mk (Kd.N_below (Kd.N_elderB (by (with_reducible repeat (first | apply Kd.N_alloc | apply Kd.N_drewN | apply Kd.N_drew)); exact HO_8.out) gb252 (Nat.le_of_eq hg.symm)) hb); have n1_ := Aside0.mk (blk_below (g := gb244) (o := .cells #[.bool a2_0, .int .i64 a2_1, .slice (some ad251) l2_2.length c2_2] 26 (0, 0)) (by (with_reducible repeat (first | refine blk_drewN ?_ _ | refine blk_drew ?_ | refine blk_alloc ?_ _)); exact BK244.out) hb); have n2_ := Aside0.mk (below_step (by repeat (first | (with_reducible first | exact HB.out | apply below_alloc | apply pw_below_drewN | apply below_drew1 | refine below_set ?_ GE244.out) | exact HB.out)) hb); have n3_ := Aside0.mk (hbox); have n4_ := Aside0.mk ((by rw [hg]; exact (below_size (by repeat (first | (with_reducible first | exact HB.out | apply below_alloc | apply pw_below_drewN | apply below_drew1 | refine below_set ?_ GE244.out) | exact HB.out))) : w.heap.size ≤ gb252)); have n5_ := Aside0.mk ((by rw [hg]; exact (below_size (by repeat (first | (with_reducible first | exact HB.out | apply below_alloc | apply pw_below_drewN | apply below_drew1 | refine below_set ?_ GE244.out) | exact HB.out))) : w.heap.size ≤ gb252)); have n6_ := Aside0.mk ((by rw [hg]; exact Nat.ne_of_lt (blk_lt (g := gb244) (o := .cells #[.bool a2_0, .int .i64 a2_1, .slice (some ad251) l2_2.length c2_2] 26 (0, 0)) (by (with_reducible repeat (first | refine blk_drewN ?_ _ | refine blk_drew ?_ | refine blk_alloc ?_ _)); exact BK244.out)) : gb244 ≠ gb252)); have n7_ := Aside0.mk ((by rw [hg]; exact Nat.ne_of_gt (blk_lt (g := gb244) (o := .cells #[.bool a2_0, .int .i64 a2_1, .slice (some ad251) l2_2.length c2_2] 26 (0, 0)) (by (with_reducible repeat (first | refine blk_drewN ?_ _ | refine blk_drew ?_ | refine blk_alloc ?_ _)); exact BK244.out)) : gb252 ≠ gb244)); clear HO_8; clear BK244; clear HB; have HO_8 := n0_; have BK244 := n1_; have HB := n2_; have BK252 := n3_; have GW252 := n4_; have GE252 := n5_; have NB244_252 := n6_; have NB252_244 := n7_; clear n0_ n1_ n2_ n3_ n4_ n5_ n6_ n7_; clear hb hbox hg; have hnb38 := NB252_244.out; have hnc38 := NB244_252.out; have hcz39_0 : w37.cell? ⟨gb252, 0, none⟩ = some (.int .i64 0) := (blk_cell BK252.out 0).trans rfl; have hcz39_1 : w37.cell? ⟨gb252, 1, none⟩ = some (.bool false) := (blk_cell BK252.out 1).trans rfl; have hfz39_0 := blk_frozen BK252.out 0; have hfz39_1 := blk_frozen BK252.out 1))
                          have n0_ : Aside0 (Kd.N (Kd.slice 3 (Kd.int .i64)) 22 ((w37.setCell ⟨gb252, 0, none⟩ (.int .i64 ((rd_T39 l2_2 x12_3).f0))).setCell ⟨gb252, 1, none⟩ (.bool true)) w.heap.size (fun k_ => k_ ≠ gb244 ∧ k_ ≠ gb252) (.slice Ao35 t248.length co35) t248) := ⟨by (with_reducible repeat (first | apply Kd.N_alloc | apply Kd.N_drewN | apply Kd.N_drew)); exact Kd.N_mono (Kd.N_far (p := ⟨gb252, 1, none⟩) (Kd.N_far (p := ⟨gb252, 0, none⟩) (Kd.N_mono HO_8.out (fun k_ hk => (⟨hk, hk.2⟩ : _ ∧ k_ ≠ gb252))) (fun _ hk => hk.2) (.int .i64 ((rd_T39 l2_2 x12_3).f0))) (fun _ hk => hk.2) (.bool true)) (fun _ hk => ⟨hk.1.1, hk.1.2⟩)⟩
                          have n1_ : Aside0 (((w37.setCell ⟨gb252, 0, none⟩ (.int .i64 ((rd_T39 l2_2 x12_3).f0))).setCell ⟨gb252, 1, none⟩ (.bool true)).heap[gb244]? = some (.cells #[.bool a2_0, .int .i64 a2_1, .slice (some ad251) l2_2.length c2_2] 26 (0, 0))) := ⟨by (with_reducible repeat (first | refine blk_drewN ?_ _ | refine blk_drew ?_ | refine blk_alloc ?_ _)); refine blk_far ?_ NB244_252.out _; (with_reducible repeat (first | refine blk_drewN ?_ _ | refine blk_drew ?_ | refine blk_alloc ?_ _)); refine blk_far ?_ NB244_252.out _; (with_reducible repeat (first | refine blk_drewN ?_ _ | refine blk_drew ?_ | refine blk_alloc ?_ _)); exact BK244.out⟩
                          have n2_ : Aside0 (((w37.setCell ⟨gb252, 0, none⟩ (.int .i64 ((rd_T39 l2_2 x12_3).f0))).setCell ⟨gb252, 1, none⟩ (.bool true)).heap[gb252]? = some (.cells #[.int .i64 ((rd_T39 l2_2 x12_3).f0), .bool true] 39 (0, 0))) := ⟨by (with_reducible repeat (first | refine blk_drewN ?_ _ | refine blk_drew ?_ | refine blk_alloc ?_ _)); refine blk_put (cs := #[.int .i64 ((rd_T39 l2_2 x12_3).f0), .bool false]) ?_ 1 _ rfl; (with_reducible repeat (first | refine blk_drewN ?_ _ | refine blk_drew ?_ | refine blk_alloc ?_ _)); refine blk_put (cs := #[.int .i64 0, .bool false]) ?_ 0 _ rfl; (with_reducible repeat (first | refine blk_drewN ?_ _ | refine blk_drew ?_ | refine blk_alloc ?_ _)); exact BK252.out⟩
                          have n3_ : Aside0 (Below w.heap.size w ((w37.setCell ⟨gb252, 0, none⟩ (.int .i64 ((rd_T39 l2_2 x12_3).f0))).setCell ⟨gb252, 1, none⟩ (.bool true))) := ⟨by repeat (first | (with_reducible first | exact HB.out | apply below_alloc | apply pw_below_drewN | apply below_drew1 | refine below_set ?_ GE244.out | refine below_set ?_ GE252.out) | exact HB.out)⟩
                          (try clear HO_8)
                          (try clear BK244)
                          (try clear BK252)
                          (try clear HB)
                          generalize ((w37.setCell ⟨gb252, 0, none⟩ (.int .i64 ((rd_T39 l2_2 x12_3).f0))).setCell ⟨gb252, 1, none⟩ (.bool true)) = w40 at n0_ n1_ n2_ n3_ ⊢
                          have HO_8 := n0_
                          have BK244 := n1_
                          have BK252 := n2_
                          have HB := n3_
                          clear n0_ n1_ n2_ n3_
                          have n0_ := Aside0.mk (Kd.N_drew HO_8.out)
                          have n1_ := Aside0.mk (blk_drew BK244.out)
                          have n2_ := Aside0.mk (blk_drew BK252.out)
                          have n3_ := Aside0.mk (below_drew1 HB.out)
                          clear HO_8
                          clear BK244
                          clear BK252
                          clear HB
                          have HO_8 := n0_
                          have BK244 := n1_
                          have BK252 := n2_
                          have HB := n3_
                          clear n0_ n1_ n2_ n3_
                          have p253 : 0 ≤ (x12_3 : Int) := of_decide_eq_true (by first | (with_reducible assumption) | assumption)
                          have q253 : x12_3 < (t248.length : Int) := of_decide_eq_true (by first | (with_reducible assumption) | assumption)
                          obtain ⟨ad253, A253_0, c253_0, e253, hx253_0, hl253_0, hi253_0⟩ := at_L3 (Kd.N_reads' HO_8.out).2.2 x12_3 p253 q253
                          cases e253
                          obtain ⟨ce253, hce253, hMe253, hcc253⟩ := Kd.N_get HO_8.out [] x12_3 p253 (by first | exact q253 | exact of_decide_eq_true (by first | (with_reducible assumption) | assumption) | (have e_ := (Kd.N_reads' HO_8.out).1; omega))
                          obtain ⟨ua253_0, uc253_0, rfl, ul253_0, ge253_0⟩ := Kd.FK_slice_open hMe253
                          have hv253_0 := hcc253 0 _ rfl
                          rw [Nat.add_zero, show ((Kd.slice 3 (Kd.int .i64))).sz = 1 from rfl, Nat.mul_one] at hv253_0
                          replace hv253_0 := Option.some.inj (hv253_0.symm.trans hx253_0)
                          injection hv253_0 with hva_ hvn_ hvc_
                          rw [hva_] at ge253_0
                          rw [hvc_] at ul253_0
                          have HL253_0 := Aside0.mk (show Kd.V (Kd.int .i64) 3 _ w.heap.size _ _ (rd_L3 t248 x12_3) from Kd.V_mk ul253_0 ge253_0)
                          clear hva_ hvn_ hvc_ ge253_0 ul253_0
                          clear hcc253 hce253
                          have HR253_0 := Aside0.mk hi253_0
                          have HC253_0 := Aside0.mk hl253_0
                          clear hi253_0 hl253_0
                          replace p253 := eq_true p253
                          replace q253 := eq_true q253
                          refine start_ (n := 7) (S := fun w' => w'.cell? ⟨gb252, 0, none⟩ = some (.int .i64 ((rd_T39 l2_2 x12_3).f0)) ∧ w'.cell? ⟨gb252, 1, none⟩ = some (.bool true) ∧ w'.cell? (ad253.add (x12_3).toNat) = some (.slice A253_0 (rd_L3 t248 x12_3).length c253_0)) (ds := []) #[false, false, false, false, false, false, false] (by kernel_rfl) rfl rfl ⟨(blk_cell BK252.out 0).trans rfl, (blk_cell BK252.out 1).trans rfl, hx253_0⟩ (fun hHeld => ?_)
                          generalize w40.drew = w41 at HO_8 BK244 BK252 HB HL253_0 HR253_0 hx253_0 hHeld ⊢
                          refine pure_ (i := 0) (N := some 48) (v := ?_) (a' := ?_) #[true, false, false, false, false, false, false] rfl rfl (by kernel_rfl) (fun _ _ _ h => h) (Or.inl ⟨by rfl, ?_⟩) ?_ ?_
                          rotate_left
                          · intro w'
                            go_simp
                            with_reducible rfl
                          rotate_left
                          · simp only [Act.put, List.setIfInBounds_toArray, List.set_cons_zero, List.set_cons_succ, i64_w, i32_w]
                            rfl
                          refine pure_ (i := 1) (N := some 49) (v := ?_) (a' := ?_) #[true, true, false, false, false, false, false] rfl rfl (by kernel_rfl) (fun _ _ _ h => h) (Or.inl ⟨by rfl, ?_⟩) ?_ ?_
                          rotate_left
                          · intro w'
                            go_simp
                            with_reducible rfl
                          rotate_left
                          · simp only [Act.put, List.setIfInBounds_toArray, List.set_cons_zero, List.set_cons_succ, i64_w, i32_w]
                            rfl
                          refine pure_ (i := 2) (N := some 50) (v := ?_) (a' := ?_) #[true, true, true, false, false, false, false] rfl rfl (by kernel_rfl) (fun _ _ _ h => h) (Or.inl ⟨by rfl, ?_⟩) ?_ ?_
                          rotate_left
                          · intro w'
                            go_simp
                            with_reducible rfl
                          rotate_left
                          · simp only [Act.put, List.setIfInBounds_toArray, List.set_cons_zero, List.set_cons_succ, i64_w, i32_w]
                            rfl
                          refine take_ (i := 3) (N := some 51) (v := ?_) (a' := ?_) #[true, true, true, true, false, false, false] rfl rfl (by kernel_rfl) (fun _ _ _ h => h) (Or.inl ⟨by rfl, ?_⟩) hHeld ?_ ?_
                          rotate_left
                          · rintro w' ⟨s0, s1, s2⟩
                            go_simp
                            with_reducible rfl
                          rotate_left
                          · simp only [Act.put, List.setIfInBounds_toArray, List.set_cons_zero, List.set_cons_succ, i64_w, i32_w]
                            rfl
                          refine take_ (i := 4) (N := some 52) (v := ?_) (a' := ?_) #[true, true, true, true, true, false, false] rfl rfl (by kernel_rfl) (fun _ _ _ h => h) (Or.inl ⟨by rfl, ?_⟩) hHeld ?_ ?_
                          rotate_left
                          · rintro w' ⟨s0, s1, s2⟩
                            go_simp
                            with_reducible rfl
                          rotate_left
                          · simp only [Act.put, List.setIfInBounds_toArray, List.set_cons_zero, List.set_cons_succ, i64_w, i32_w]
                            rfl
                          refine one_ (i := 5) (N := some 53) #[true, true, true, true, true, true, false] rfl rfl (by kernel_rfl) (by decide) (fun K hK => ?_)
                          refine goes_ Try.func35 (by kernel_rfl) rfl #[.slice A253_0 (rd_L3 t248 x12_3).length c253_0, .agg #[.int .i64 ((rd_T39 l2_2 x12_3).f0), .bool true]] (by rfl) rfl rfl (by (try simp only [List.map_toArray, List.map_cons, List.map_nil]); first | done | rfl | (simp only [List.length_drop, List.length_take]; rfl)) ?_
                          with_reducible refine (serinetteref13_Each.calls k3 _ _ (rd_L3 t248 x12_3) ((rd_T39 l2_2 x12_3).f0) true t254 _ ?side1 ?side2 (by first | exact A23.out | (rw [Nbq33.out]; exact A23.out))).mono ?_
                          (case side1 => repeat (first | exact (by repeat (first | (with_reducible exact HR253_0.out) | (with_reducible refine Kd.C_alloc ?_ _) | (with_reducible refine Kd.C_drewN ?_ _) | (with_reducible refine Kd.C_drew ?_) | exact HR253_0.out)) | (with_reducible refine Kd.C_alloc ?_ _) | (with_reducible refine Kd.C_drewN ?_ _) | (with_reducible refine Kd.C_drew ?_)))
                          (case side2 => exact HC253_0.out)
                          rintro e w42 ⟨rfl, hb⟩
                          have HS2_ := (hb.cell (World.block_lt_of_cell? _ _ (hHeld.2.2))).trans (hHeld.2.2)
                          refine ⟨_, rfl, ?_⟩
                          have n0_ := Aside0.mk (Kd.N_below (by (with_reducible repeat (first | apply Kd.N_alloc | apply Kd.N_drewN | apply Kd.N_drew)); exact HO_8.out) hb)
                          have n1_ := Aside0.mk (Kd.V_below (by (with_reducible repeat (first | apply Kd.V_alloc | apply Kd.V_drewN | apply Kd.V_drew)); exact HL253_0.out) hb)
                          have n2_ := Aside0.mk (blk_below (g := gb244) (o := .cells #[.bool a2_0, .int .i64 a2_1, .slice (some ad251) l2_2.length c2_2] 26 (0, 0)) (by (with_reducible repeat (first | refine blk_drewN ?_ _ | refine blk_drew ?_ | refine blk_alloc ?_ _)); exact BK244.out) hb)
                          have n3_ := Aside0.mk (blk_below (g := gb252) (o := .cells #[.int .i64 ((rd_T39 l2_2 x12_3).f0), .bool true] 39 (0, 0)) (by (with_reducible repeat (first | refine blk_drewN ?_ _ | refine blk_drew ?_ | refine blk_alloc ?_ _)); exact BK252.out) hb)
                          have n4_ := Aside0.mk (Kd.C_below (by repeat (first | (with_reducible exact HR253_0.out) | (with_reducible refine Kd.C_alloc ?_ _) | (with_reducible refine Kd.C_drewN ?_ _) | (with_reducible refine Kd.C_drew ?_) | exact HR253_0.out)) hb)
                          have n5_ := Aside0.mk (below_step (by repeat (first | (with_reducible first | exact HB.out | apply below_alloc | apply pw_below_drewN | apply below_drew1 | refine below_set ?_ GE244.out | refine below_set ?_ GE252.out) | exact HB.out)) hb)
                          clear HO_8
                          clear HL253_0
                          clear BK244
                          clear BK252
                          clear HR253_0
                          clear HB
                          have HO_8 := n0_
                          have HL253_0 := n1_
                          have BK244 := n2_
                          have BK252 := n3_
                          have HR253_0 := n4_
                          have HB := n5_
                          clear n0_ n1_ n2_ n3_ n4_ n5_
                          (try clear hb)
                          (try clear hb2)
                          (try clear hk)
                          (try clear hi)
                          refine hK.out _ _ ⟨(blk_cell BK252.out 0).trans rfl, (blk_cell BK252.out 1).trans rfl, HS2_⟩ (fun hHeld => ?_)
                          clear hK K
                          refine norm_ (a' := ?_) ?_ ?_
                          rotate_left
                          · show Act.put _ (some 53) _ = _
                            simp only [Act.put, List.setIfInBounds_toArray, List.set_cons_zero, List.set_cons_succ, i64_w, i32_w]
                            rfl
                          refine pure_ (i := 6) (N := some 14) (v := ?_) (a' := ?_) #[true, true, true, true, true, true, true] rfl rfl (by kernel_rfl) (fun _ _ _ h => h) (Or.inl ⟨by rfl, ?_⟩) ?_ ?_
                          rotate_left
                          · intro w'
                            go_simp
                            with_reducible rfl
                          rotate_left
                          · simp only [Act.put, List.setIfInBounds_toArray, List.set_cons_zero, List.set_cons_succ, i64_w, i32_w]
                            rfl
                          refine done_ (by kernel_rfl) ?_
                          have hcz43_0 : w42.cell? ⟨gb252, 0, none⟩ = some (.int .i64 ((rd_T39 l2_2 x12_3).f0)) := (blk_cell BK252.out 0).trans rfl
                          have hcz43_1 : w42.cell? ⟨gb252, 1, none⟩ = some (.bool true) := (blk_cell BK252.out 1).trans rfl
                          have hfz43_0 := blk_frozen BK252.out 0
                          have hfz43_1 := blk_frozen BK252.out 1
                          try go_wp2
                          go_roundg k3
                          case measure => have := HJ4.out; have := HJ14.out; have := HK3.out; omega
                          case rel => exact ⟨(wrap64 ((wrap64 (x11_3 + x9_14)) + t254)), (wrap64 (x12_3 + 1)), (by first | rfl | (simp; done) | (simp only [i64_w, i32_w]; done) | (simp [*]; done) | (simp only [i64_w, i32_w]; first | rfl | (simp; done) | (simp [*]; done))), (by first | rfl | (simp; done) | (simp only [i64_w, i32_w]; done) | (simp [*]; done) | (simp only [i64_w, i32_w]; first | rfl | (simp; done) | (simp [*]; done))), H', ⟨by have := HJ4.out; have := HJ14.out; have := HK3.out; omega⟩, ⟨by (with_reducible repeat (first | apply Kd.N_alloc | apply Kd.N_drewN | apply Kd.N_drew)); exact Kd.N_mono HO_8.out (fun _ hk => hk.1)⟩, ⟨by (with_reducible repeat (first | refine blk_drewN ?_ _ | refine blk_drew ?_ | refine blk_alloc ?_ _)); exact BK244.out⟩, ⟨by repeat (first | (with_reducible first | exact HB.out | apply below_alloc | apply pw_below_drewN | apply below_drew1 | refine below_set ?_ GE244.out | refine below_set ?_ GE252.out) | exact HB.out)⟩⟩
                        · replace c34 := Bool.eq_false_iff.mpr c34
                          subst c34
                          have H1 : (if ((rd_T39 l2_2 x12_3).f0) < 0 then (some (-1)) else (if ((rd_T39 l2_2 x12_3).f0) > x10_14 then (some (-1)) else (serinetteref14_Bits.l0 k3 t248 x9_14 x10_14 (wrap64 ((wrap64 (x11_3 + x9_14)) + t254)) (wrap64 (x12_3 + 1)) a2_0 a2_1 l2_2))) = some r := by rw [if_neg (show ¬ (false = true) by decide)] at H; exact H
                          clear H
                          have H := H1
                          clear H1
                          by_cases c44 : ((rd_T39 l2_2 x12_3).f0) < 0
                          · rw [if_pos c44] at H
                            have c44b0 : decide (((rd_T39 l2_2 x12_3).f0) < 0) = true := decide_eq_true c44
                            clear c44
                            obtain rfl := Option.some.inj H
                            obtain ⟨Ao45, co45, eo45⟩ := Kd.N_slice HO_8.out
                            subst eo45
                            have hcz46_0 : wr.cell? ⟨gb244, 0, none⟩ = some (.bool a2_0) := (blk_cell BK244.out 0).trans rfl
                            have hcz46_1 : wr.cell? ⟨gb244, 1, none⟩ = some (.int .i64 a2_1) := (blk_cell BK244.out 1).trans rfl
                            have hcz46_2 : wr.cell? ⟨gb244, 2, none⟩ = some (.slice A2_2 l2_2.length c2_2) := (blk_cell BK244.out 2).trans rfl
                            have hfz46_0 := blk_frozen BK244.out 0
                            have hfz46_1 := blk_frozen BK244.out 1
                            have hfz46_2 := blk_frozen BK244.out 2
                            have p251 : 0 ≤ (x12_3 : Int) := of_decide_eq_true (by first | (with_reducible assumption) | assumption)
                            have q251 : x12_3 < (l2_2.length : Int) := of_decide_eq_true (by first | (with_reducible assumption) | assumption)
                            obtain ⟨ad251, e251, hx251_0, hx251_1⟩ := at_T39 HR2_2.out x12_3 p251 q251
                            (try rw [← Nbq33.out] at hx251_1)
                            cases e251
                            replace hx251_0 := (HB.out.cell (World.block_lt_of_cell? w _ hx251_0)).trans hx251_0
                            replace hx251_1 := (HB.out.cell (World.block_lt_of_cell? w _ hx251_1)).trans hx251_1
                            replace p251 := eq_true p251
                            replace q251 := eq_true q251
                            try go_wp2_with (first | ((with_reducible refine gate_dst (N := 13) rfl ?_); (try (refine gate_guard (by rfl) ?_; dsimp only)); refine box_event ?hg (N := 13) ?hd (cs := #[.int .i64 0, .bool false]) (t := 39) ?hr ?_; (case hd => rfl); (case hg => rfl); (case hr => first | (go_simp; done) | (go_simp; rfl)); intro gb252 hg w47 hbox hb; have n0_ := Aside0.mk (Kd.N_below (Kd.N_elderB (by (with_reducible repeat (first | apply Kd.N_alloc | apply Kd.N_drewN | apply Kd.N_drew)); exact HO_8.out) gb252 (Nat.le_of_eq hg.symm)) hb); have n1_ := Aside0.mk (blk_below (g := gb244) (o := .cells #[.bool a2_0, .int .i64 a2_1, .slice (some ad251) l2_2.length c2_2] 26 (0, 0)) (by (with_reducible repeat (first | refine blk_drewN ?_ _ | refine blk_drew ?_ | refine blk_alloc ?_ _)); exact BK244.out) hb); have n2_ := Aside0.mk (below_step (by repeat (first | (with_reducible first | exact HB.out | apply below_alloc | apply pw_below_drewN | apply below_drew1 | refine below_set ?_ GE244.out) | exact HB.out)) hb); have n3_ := Aside0.mk (hbox); have n4_ := Aside0.mk ((by rw [hg]; exact (below_size (by repeat (first | (with_reducible first | exact HB.out | apply below_alloc | apply pw_below_drewN | apply below_drew1 | refine below_set ?_ GE244.out) | exact HB.out))) : w.heap.size ≤ gb252)); have n5_ := Aside0.mk ((by rw [hg]; exact (below_size (by repeat (first | (with_reducible first | exact HB.out | apply below_alloc | apply pw_below_drewN | apply below_drew1 | refine below_set ?_ GE244.out) | exact HB.out))) : w.heap.size ≤ gb252)); have n6_ := Aside0.mk ((by rw [hg]; exact Nat.ne_of_lt (blk_lt (g := gb244) (o := .cells #[.bool a2_0, .int .i64 a2_1, .slice (some ad251) l2_2.length c2_2] 26 (0, 0)) (by (with_reducible repeat (first | refine blk_drewN ?_ _ | refine blk_drew ?_ | refine blk_alloc ?_ _)); exact BK244.out)) : gb244 ≠ gb252)); have n7_ := Aside0.mk ((by rw [hg]; exact Nat.ne_of_gt (blk_lt (g := gb244) (o := .cells #[.bool a2_0, .int .i64 a2_1, .slice (some ad251) l2_2.length c2_2] 26 (0, 0)) (by (with_reducible repeat (first | refine blk_drewN ?_ _ | refine blk_drew ?_ | refine blk_alloc ?_ _)); exact BK244.out)) : gb252 ≠ gb244)); clear HO_8; clear BK244; clear HB; have HO_8 := n0_; have BK244 := n1_; have HB := n2_; have BK252 := n3_; have GW252 := n4_; have GE252 := n5_; have NB244_252 := n6_; have NB252_244 := n7_; clear n0_ n1_ n2_ n3_ n4_ n5_ n6_ n7_; clear hb hbox hg; have hnb48 := NB252_244.out; have hnc48 := NB244_252.out; have hcz49_0 : w47.cell? ⟨gb252, 0, none⟩ = some (.int .i64 0) := (blk_cell BK252.out 0).trans rfl; have hcz49_1 : w47.cell? ⟨gb252, 1, none⟩ = some (.bool false) := (blk_cell BK252.out 1).trans rfl; have hfz49_0 := blk_frozen BK252.out 0; have hfz49_1 := blk_frozen BK252.out 1))
                            have n0_ : Aside0 (Kd.N (Kd.slice 3 (Kd.int .i64)) 22 ((w47.setCell ⟨gb252, 0, none⟩ (.int .i64 ((rd_T39 l2_2 x12_3).f0))).setCell ⟨gb252, 1, none⟩ (.bool false)) w.heap.size (fun k_ => k_ ≠ gb244 ∧ k_ ≠ gb252) (.slice Ao45 t248.length co45) t248) := ⟨by (with_reducible repeat (first | apply Kd.N_alloc | apply Kd.N_drewN | apply Kd.N_drew)); exact Kd.N_mono (Kd.N_far (p := ⟨gb252, 1, none⟩) (Kd.N_far (p := ⟨gb252, 0, none⟩) (Kd.N_mono HO_8.out (fun k_ hk => (⟨hk, hk.2⟩ : _ ∧ k_ ≠ gb252))) (fun _ hk => hk.2) (.int .i64 ((rd_T39 l2_2 x12_3).f0))) (fun _ hk => hk.2) (.bool false)) (fun _ hk => ⟨hk.1.1, hk.1.2⟩)⟩
                            have n1_ : Aside0 (((w47.setCell ⟨gb252, 0, none⟩ (.int .i64 ((rd_T39 l2_2 x12_3).f0))).setCell ⟨gb252, 1, none⟩ (.bool false)).heap[gb244]? = some (.cells #[.bool a2_0, .int .i64 a2_1, .slice (some ad251) l2_2.length c2_2] 26 (0, 0))) := ⟨by (with_reducible repeat (first | refine blk_drewN ?_ _ | refine blk_drew ?_ | refine blk_alloc ?_ _)); refine blk_far ?_ NB244_252.out _; (with_reducible repeat (first | refine blk_drewN ?_ _ | refine blk_drew ?_ | refine blk_alloc ?_ _)); refine blk_far ?_ NB244_252.out _; (with_reducible repeat (first | refine blk_drewN ?_ _ | refine blk_drew ?_ | refine blk_alloc ?_ _)); exact BK244.out⟩
                            have n2_ : Aside0 (((w47.setCell ⟨gb252, 0, none⟩ (.int .i64 ((rd_T39 l2_2 x12_3).f0))).setCell ⟨gb252, 1, none⟩ (.bool false)).heap[gb252]? = some (.cells #[.int .i64 ((rd_T39 l2_2 x12_3).f0), .bool false] 39 (0, 0))) := ⟨by (with_reducible repeat (first | refine blk_drewN ?_ _ | refine blk_drew ?_ | refine blk_alloc ?_ _)); refine blk_put (cs := #[.int .i64 ((rd_T39 l2_2 x12_3).f0), .bool false]) ?_ 1 _ rfl; (with_reducible repeat (first | refine blk_drewN ?_ _ | refine blk_drew ?_ | refine blk_alloc ?_ _)); refine blk_put (cs := #[.int .i64 0, .bool false]) ?_ 0 _ rfl; (with_reducible repeat (first | refine blk_drewN ?_ _ | refine blk_drew ?_ | refine blk_alloc ?_ _)); exact BK252.out⟩
                            have n3_ : Aside0 (Below w.heap.size w ((w47.setCell ⟨gb252, 0, none⟩ (.int .i64 ((rd_T39 l2_2 x12_3).f0))).setCell ⟨gb252, 1, none⟩ (.bool false))) := ⟨by repeat (first | (with_reducible first | exact HB.out | apply below_alloc | apply pw_below_drewN | apply below_drew1 | refine below_set ?_ GE244.out | refine below_set ?_ GE252.out) | exact HB.out)⟩
                            (try clear HO_8)
                            (try clear BK244)
                            (try clear BK252)
                            (try clear HB)
                            generalize ((w47.setCell ⟨gb252, 0, none⟩ (.int .i64 ((rd_T39 l2_2 x12_3).f0))).setCell ⟨gb252, 1, none⟩ (.bool false)) = w50 at n0_ n1_ n2_ n3_ ⊢
                            have HO_8 := n0_
                            have BK244 := n1_
                            have BK252 := n2_
                            have HB := n3_
                            clear n0_ n1_ n2_ n3_
                            have n0_ := Aside0.mk (Kd.N_drew HO_8.out)
                            have n1_ := Aside0.mk (blk_drew BK244.out)
                            have n2_ := Aside0.mk (blk_drew BK252.out)
                            have n3_ := Aside0.mk (below_drew1 HB.out)
                            clear HO_8
                            clear BK244
                            clear BK252
                            clear HB
                            have HO_8 := n0_
                            have BK244 := n1_
                            have BK252 := n2_
                            have HB := n3_
                            clear n0_ n1_ n2_ n3_
                            have p253 : 0 ≤ (x12_3 : Int) := of_decide_eq_true (by first | (with_reducible assumption) | assumption)
                            have q253 : x12_3 < (t248.length : Int) := of_decide_eq_true (by first | (with_reducible assumption) | assumption)
                            obtain ⟨ad253, A253_0, c253_0, e253, hx253_0, hl253_0, hi253_0⟩ := at_L3 (Kd.N_reads' HO_8.out).2.2 x12_3 p253 q253
                            cases e253
                            obtain ⟨ce253, hce253, hMe253, hcc253⟩ := Kd.N_get HO_8.out [] x12_3 p253 (by first | exact q253 | exact of_decide_eq_true (by first | (with_reducible assumption) | assumption) | (have e_ := (Kd.N_reads' HO_8.out).1; omega))
                            obtain ⟨ua253_0, uc253_0, rfl, ul253_0, ge253_0⟩ := Kd.FK_slice_open hMe253
                            have hv253_0 := hcc253 0 _ rfl
                            rw [Nat.add_zero, show ((Kd.slice 3 (Kd.int .i64))).sz = 1 from rfl, Nat.mul_one] at hv253_0
                            replace hv253_0 := Option.some.inj (hv253_0.symm.trans hx253_0)
                            injection hv253_0 with hva_ hvn_ hvc_
                            rw [hva_] at ge253_0
                            rw [hvc_] at ul253_0
                            have HL253_0 := Aside0.mk (show Kd.V (Kd.int .i64) 3 _ w.heap.size _ _ (rd_L3 t248 x12_3) from Kd.V_mk ul253_0 ge253_0)
                            clear hva_ hvn_ hvc_ ge253_0 ul253_0
                            clear hcc253 hce253
                            have HR253_0 := Aside0.mk hi253_0
                            have HC253_0 := Aside0.mk hl253_0
                            clear hi253_0 hl253_0
                            replace p253 := eq_true p253
                            replace q253 := eq_true q253
                            refine start_ (n := 7) (S := fun w' => w'.cell? ⟨gb252, 0, none⟩ = some (.int .i64 ((rd_T39 l2_2 x12_3).f0)) ∧ w'.cell? ⟨gb252, 1, none⟩ = some (.bool false) ∧ w'.cell? (ad253.add (x12_3).toNat) = some (.slice A253_0 (rd_L3 t248 x12_3).length c253_0)) (ds := []) #[false, false, false, false, false, false, false] (by kernel_rfl) rfl rfl ⟨(blk_cell BK252.out 0).trans rfl, (blk_cell BK252.out 1).trans rfl, hx253_0⟩ (fun hHeld => ?_)
                            generalize w50.drew = w51 at HO_8 BK244 BK252 HB HL253_0 HR253_0 hx253_0 hHeld ⊢
                            refine pure_ (i := 0) (N := some 48) (v := ?_) (a' := ?_) #[true, false, false, false, false, false, false] rfl rfl (by kernel_rfl) (fun _ _ _ h => h) (Or.inl ⟨by rfl, ?_⟩) ?_ ?_
                            rotate_left
                            · intro w'
                              go_simp
                              with_reducible rfl
                            rotate_left
                            · simp only [Act.put, List.setIfInBounds_toArray, List.set_cons_zero, List.set_cons_succ, i64_w, i32_w]
                              rfl
                            refine pure_ (i := 1) (N := some 49) (v := ?_) (a' := ?_) #[true, true, false, false, false, false, false] rfl rfl (by kernel_rfl) (fun _ _ _ h => h) (Or.inl ⟨by rfl, ?_⟩) ?_ ?_
                            rotate_left
                            · intro w'
                              go_simp
                              with_reducible rfl
                            rotate_left
                            · simp only [Act.put, List.setIfInBounds_toArray, List.set_cons_zero, List.set_cons_succ, i64_w, i32_w]
                              rfl
                            refine pure_ (i := 2) (N := some 50) (v := ?_) (a' := ?_) #[true, true, true, false, false, false, false] rfl rfl (by kernel_rfl) (fun _ _ _ h => h) (Or.inl ⟨by rfl, ?_⟩) ?_ ?_
                            rotate_left
                            · intro w'
                              go_simp
                              with_reducible rfl
                            rotate_left
                            · simp only [Act.put, List.setIfInBounds_toArray, List.set_cons_zero, List.set_cons_succ, i64_w, i32_w]
                              rfl
                            refine take_ (i := 3) (N := some 51) (v := ?_) (a' := ?_) #[true, true, true, true, false, false, false] rfl rfl (by kernel_rfl) (fun _ _ _ h => h) (Or.inl ⟨by rfl, ?_⟩) hHeld ?_ ?_
                            rotate_left
                            · rintro w' ⟨s0, s1, s2⟩
                              go_simp
                              with_reducible rfl
                            rotate_left
                            · simp only [Act.put, List.setIfInBounds_toArray, List.set_cons_zero, List.set_cons_succ, i64_w, i32_w]
                              rfl
                            refine take_ (i := 4) (N := some 52) (v := ?_) (a' := ?_) #[true, true, true, true, true, false, false] rfl rfl (by kernel_rfl) (fun _ _ _ h => h) (Or.inl ⟨by rfl, ?_⟩) hHeld ?_ ?_
                            rotate_left
                            · rintro w' ⟨s0, s1, s2⟩
                              go_simp
                              with_reducible rfl
                            rotate_left
                            · simp only [Act.put, List.setIfInBounds_toArray, List.set_cons_zero, List.set_cons_succ, i64_w, i32_w]
                              rfl
                            refine one_ (i := 5) (N := some 53) #[true, true, true, true, true, true, false] rfl rfl (by kernel_rfl) (by decide) (fun K hK => ?_)
                            refine goes_ Try.func35 (by kernel_rfl) rfl #[.slice A253_0 (rd_L3 t248 x12_3).length c253_0, .agg #[.int .i64 ((rd_T39 l2_2 x12_3).f0), .bool false]] (by rfl) rfl rfl (by (try simp only [List.map_toArray, List.map_cons, List.map_nil]); first | done | rfl | (simp only [List.length_drop, List.length_take]; rfl)) ?_
                            with_reducible refine (serinetteref13_Each.calls k3 _ _ (rd_L3 t248 x12_3) ((rd_T39 l2_2 x12_3).f0) false t254 _ ?side1 ?side2 (by first | exact A23.out | (rw [Nbq33.out]; exact A23.out))).mono ?_
                            (case side1 => repeat (first | exact (by repeat (first | (with_reducible exact HR253_0.out) | (with_reducible refine Kd.C_alloc ?_ _) | (with_reducible refine Kd.C_drewN ?_ _) | (with_reducible refine Kd.C_drew ?_) | exact HR253_0.out)) | (with_reducible refine Kd.C_alloc ?_ _) | (with_reducible refine Kd.C_drewN ?_ _) | (with_reducible refine Kd.C_drew ?_)))
                            (case side2 => exact HC253_0.out)
                            rintro e w52 ⟨rfl, hb⟩
                            have HS2_ := (hb.cell (World.block_lt_of_cell? _ _ (hHeld.2.2))).trans (hHeld.2.2)
                            refine ⟨_, rfl, ?_⟩
                            have n0_ := Aside0.mk (Kd.N_below (by (with_reducible repeat (first | apply Kd.N_alloc | apply Kd.N_drewN | apply Kd.N_drew)); exact HO_8.out) hb)
                            have n1_ := Aside0.mk (Kd.V_below (by (with_reducible repeat (first | apply Kd.V_alloc | apply Kd.V_drewN | apply Kd.V_drew)); exact HL253_0.out) hb)
                            have n2_ := Aside0.mk (blk_below (g := gb244) (o := .cells #[.bool a2_0, .int .i64 a2_1, .slice (some ad251) l2_2.length c2_2] 26 (0, 0)) (by (with_reducible repeat (first | refine blk_drewN ?_ _ | refine blk_drew ?_ | refine blk_alloc ?_ _)); exact BK244.out) hb)
                            have n3_ := Aside0.mk (blk_below (g := gb252) (o := .cells #[.int .i64 ((rd_T39 l2_2 x12_3).f0), .bool false] 39 (0, 0)) (by (with_reducible repeat (first | refine blk_drewN ?_ _ | refine blk_drew ?_ | refine blk_alloc ?_ _)); exact BK252.out) hb)
                            have n4_ := Aside0.mk (Kd.C_below (by repeat (first | (with_reducible exact HR253_0.out) | (with_reducible refine Kd.C_alloc ?_ _) | (with_reducible refine Kd.C_drewN ?_ _) | (with_reducible refine Kd.C_drew ?_) | exact HR253_0.out)) hb)
                            have n5_ := Aside0.mk (below_step (by repeat (first | (with_reducible first | exact HB.out | apply below_alloc | apply pw_below_drewN | apply below_drew1 | refine below_set ?_ GE244.out | refine below_set ?_ GE252.out) | exact HB.out)) hb)
                            clear HO_8
                            clear HL253_0
                            clear BK244
                            clear BK252
                            clear HR253_0
                            clear HB
                            have HO_8 := n0_
                            have HL253_0 := n1_
                            have BK244 := n2_
                            have BK252 := n3_
                            have HR253_0 := n4_
                            have HB := n5_
                            clear n0_ n1_ n2_ n3_ n4_ n5_
                            (try clear hb)
                            (try clear hb2)
                            (try clear hk)
                            (try clear hi)
                            refine hK.out _ _ ⟨(blk_cell BK252.out 0).trans rfl, (blk_cell BK252.out 1).trans rfl, HS2_⟩ (fun hHeld => ?_)
                            clear hK K
                            refine norm_ (a' := ?_) ?_ ?_
                            rotate_left
                            · show Act.put _ (some 53) _ = _
                              simp only [Act.put, List.setIfInBounds_toArray, List.set_cons_zero, List.set_cons_succ, i64_w, i32_w]
                              rfl
                            refine pure_ (i := 6) (N := some 14) (v := ?_) (a' := ?_) #[true, true, true, true, true, true, true] rfl rfl (by kernel_rfl) (fun _ _ _ h => h) (Or.inl ⟨by rfl, ?_⟩) ?_ ?_
                            rotate_left
                            · intro w'
                              go_simp
                              with_reducible rfl
                            rotate_left
                            · simp only [Act.put, List.setIfInBounds_toArray, List.set_cons_zero, List.set_cons_succ, i64_w, i32_w]
                              rfl
                            refine done_ (by kernel_rfl) ?_
                            have hcz53_0 : w52.cell? ⟨gb252, 0, none⟩ = some (.int .i64 ((rd_T39 l2_2 x12_3).f0)) := (blk_cell BK252.out 0).trans rfl
                            have hcz53_1 : w52.cell? ⟨gb252, 1, none⟩ = some (.bool false) := (blk_cell BK252.out 1).trans rfl
                            have hfz53_0 := blk_frozen BK252.out 0
                            have hfz53_1 := blk_frozen BK252.out 1
                            try go_wp2
                            go_ret
                            exact ⟨by first | rfl | (simp [errW_none, errW_some] <;> rfl) | (simp [*, errW_none, errW_some] <;> rfl), by repeat (first | (with_reducible first | exact HB.out | apply below_alloc | apply pw_below_drewN | apply below_drew1 | refine below_set ?_ GE244.out | refine below_set ?_ GE252.out) | exact HB.out)⟩
                          · rw [if_neg c44] at H
                            have c44b0 : decide (((rd_T39 l2_2 x12_3).f0) < 0) = false := decide_eq_false c44
                            clear c44
                            by_cases c54 : ((rd_T39 l2_2 x12_3).f0) > x10_14
                            · rw [if_pos c54] at H
                              have c54b0 : decide (x10_14 < ((rd_T39 l2_2 x12_3).f0)) = true := decide_eq_true c54
                              clear c54
                              obtain rfl := Option.some.inj H
                              obtain ⟨Ao55, co55, eo55⟩ := Kd.N_slice HO_8.out
                              subst eo55
                              have hcz56_0 : wr.cell? ⟨gb244, 0, none⟩ = some (.bool a2_0) := (blk_cell BK244.out 0).trans rfl
                              have hcz56_1 : wr.cell? ⟨gb244, 1, none⟩ = some (.int .i64 a2_1) := (blk_cell BK244.out 1).trans rfl
                              have hcz56_2 : wr.cell? ⟨gb244, 2, none⟩ = some (.slice A2_2 l2_2.length c2_2) := (blk_cell BK244.out 2).trans rfl
                              have hfz56_0 := blk_frozen BK244.out 0
                              have hfz56_1 := blk_frozen BK244.out 1
                              have hfz56_2 := blk_frozen BK244.out 2
                              have p251 : 0 ≤ (x12_3 : Int) := of_decide_eq_true (by first | (with_reducible assumption) | assumption)
                              have q251 : x12_3 < (l2_2.length : Int) := of_decide_eq_true (by first | (with_reducible assumption) | assumption)
                              obtain ⟨ad251, e251, hx251_0, hx251_1⟩ := at_T39 HR2_2.out x12_3 p251 q251
                              (try rw [← Nbq33.out] at hx251_1)
                              cases e251
                              replace hx251_0 := (HB.out.cell (World.block_lt_of_cell? w _ hx251_0)).trans hx251_0
                              replace hx251_1 := (HB.out.cell (World.block_lt_of_cell? w _ hx251_1)).trans hx251_1
                              replace p251 := eq_true p251
                              replace q251 := eq_true q251
                              try go_wp2_with (first | ((with_reducible refine gate_dst (N := 13) rfl ?_); (try (refine gate_guard (by rfl) ?_; dsimp only)); refine box_event ?hg (N := 13) ?hd (cs := #[.int .i64 0, .bool false]) (t := 39) ?hr ?_; (case hd => rfl); (case hg => rfl); (case hr => first | (go_simp; done) | (go_simp; rfl)); intro gb252 hg w57 hbox hb; have n0_ := Aside0.mk (Kd.N_below (Kd.N_elderB (by (with_reducible repeat (first | apply Kd.N_alloc | apply Kd.N_drewN | apply Kd.N_drew)); exact HO_8.out) gb252 (Nat.le_of_eq hg.symm)) hb); have n1_ := Aside0.mk (blk_below (g := gb244) (o := .cells #[.bool a2_0, .int .i64 a2_1, .slice (some ad251) l2_2.length c2_2] 26 (0, 0)) (by (with_reducible repeat (first | refine blk_drewN ?_ _ | refine blk_drew ?_ | refine blk_alloc ?_ _)); exact BK244.out) hb); have n2_ := Aside0.mk (below_step (by repeat (first | (with_reducible first | exact HB.out | apply below_alloc | apply pw_below_drewN | apply below_drew1 | refine below_set ?_ GE244.out) | exact HB.out)) hb); have n3_ := Aside0.mk (hbox); have n4_ := Aside0.mk ((by rw [hg]; exact (below_size (by repeat (first | (with_reducible first | exact HB.out | apply below_alloc | apply pw_below_drewN | apply below_drew1 | refine below_set ?_ GE244.out) | exact HB.out))) : w.heap.size ≤ gb252)); have n5_ := Aside0.mk ((by rw [hg]; exact (below_size (by repeat (first | (with_reducible first | exact HB.out | apply below_alloc | apply pw_below_drewN | apply below_drew1 | refine below_set ?_ GE244.out) | exact HB.out))) : w.heap.size ≤ gb252)); have n6_ := Aside0.mk ((by rw [hg]; exact Nat.ne_of_lt (blk_lt (g := gb244) (o := .cells #[.bool a2_0, .int .i64 a2_1, .slice (some ad251) l2_2.length c2_2] 26 (0, 0)) (by (with_reducible repeat (first | refine blk_drewN ?_ _ | refine blk_drew ?_ | refine blk_alloc ?_ _)); exact BK244.out)) : gb244 ≠ gb252)); have n7_ := Aside0.mk ((by rw [hg]; exact Nat.ne_of_gt (blk_lt (g := gb244) (o := .cells #[.bool a2_0, .int .i64 a2_1, .slice (some ad251) l2_2.length c2_2] 26 (0, 0)) (by (with_reducible repeat (first | refine blk_drewN ?_ _ | refine blk_drew ?_ | refine blk_alloc ?_ _)); exact BK244.out)) : gb252 ≠ gb244)); clear HO_8; clear BK244; clear HB; have HO_8 := n0_; have BK244 := n1_; have HB := n2_; have BK252 := n3_; have GW252 := n4_; have GE252 := n5_; have NB244_252 := n6_; have NB252_244 := n7_; clear n0_ n1_ n2_ n3_ n4_ n5_ n6_ n7_; clear hb hbox hg; have hnb58 := NB252_244.out; have hnc58 := NB244_252.out; have hcz59_0 : w57.cell? ⟨gb252, 0, none⟩ = some (.int .i64 0) := (blk_cell BK252.out 0).trans rfl; have hcz59_1 : w57.cell? ⟨gb252, 1, none⟩ = some (.bool false) := (blk_cell BK252.out 1).trans rfl; have hfz59_0 := blk_frozen BK252.out 0; have hfz59_1 := blk_frozen BK252.out 1))
                              have n0_ : Aside0 (Kd.N (Kd.slice 3 (Kd.int .i64)) 22 ((w57.setCell ⟨gb252, 0, none⟩ (.int .i64 ((rd_T39 l2_2 x12_3).f0))).setCell ⟨gb252, 1, none⟩ (.bool false)) w.heap.size (fun k_ => k_ ≠ gb244 ∧ k_ ≠ gb252) (.slice Ao55 t248.length co55) t248) := ⟨by (with_reducible repeat (first | apply Kd.N_alloc | apply Kd.N_drewN | apply Kd.N_drew)); exact Kd.N_mono (Kd.N_far (p := ⟨gb252, 1, none⟩) (Kd.N_far (p := ⟨gb252, 0, none⟩) (Kd.N_mono HO_8.out (fun k_ hk => (⟨hk, hk.2⟩ : _ ∧ k_ ≠ gb252))) (fun _ hk => hk.2) (.int .i64 ((rd_T39 l2_2 x12_3).f0))) (fun _ hk => hk.2) (.bool false)) (fun _ hk => ⟨hk.1.1, hk.1.2⟩)⟩
                              have n1_ : Aside0 (((w57.setCell ⟨gb252, 0, none⟩ (.int .i64 ((rd_T39 l2_2 x12_3).f0))).setCell ⟨gb252, 1, none⟩ (.bool false)).heap[gb244]? = some (.cells #[.bool a2_0, .int .i64 a2_1, .slice (some ad251) l2_2.length c2_2] 26 (0, 0))) := ⟨by (with_reducible repeat (first | refine blk_drewN ?_ _ | refine blk_drew ?_ | refine blk_alloc ?_ _)); refine blk_far ?_ NB244_252.out _; (with_reducible repeat (first | refine blk_drewN ?_ _ | refine blk_drew ?_ | refine blk_alloc ?_ _)); refine blk_far ?_ NB244_252.out _; (with_reducible repeat (first | refine blk_drewN ?_ _ | refine blk_drew ?_ | refine blk_alloc ?_ _)); exact BK244.out⟩
                              have n2_ : Aside0 (((w57.setCell ⟨gb252, 0, none⟩ (.int .i64 ((rd_T39 l2_2 x12_3).f0))).setCell ⟨gb252, 1, none⟩ (.bool false)).heap[gb252]? = some (.cells #[.int .i64 ((rd_T39 l2_2 x12_3).f0), .bool false] 39 (0, 0))) := ⟨by (with_reducible repeat (first | refine blk_drewN ?_ _ | refine blk_drew ?_ | refine blk_alloc ?_ _)); refine blk_put (cs := #[.int .i64 ((rd_T39 l2_2 x12_3).f0), .bool false]) ?_ 1 _ rfl; (with_reducible repeat (first | refine blk_drewN ?_ _ | refine blk_drew ?_ | refine blk_alloc ?_ _)); refine blk_put (cs := #[.int .i64 0, .bool false]) ?_ 0 _ rfl; (with_reducible repeat (first | refine blk_drewN ?_ _ | refine blk_drew ?_ | refine blk_alloc ?_ _)); exact BK252.out⟩
                              have n3_ : Aside0 (Below w.heap.size w ((w57.setCell ⟨gb252, 0, none⟩ (.int .i64 ((rd_T39 l2_2 x12_3).f0))).setCell ⟨gb252, 1, none⟩ (.bool false))) := ⟨by repeat (first | (with_reducible first | exact HB.out | apply below_alloc | apply pw_below_drewN | apply below_drew1 | refine below_set ?_ GE244.out | refine below_set ?_ GE252.out) | exact HB.out)⟩
                              (try clear HO_8)
                              (try clear BK244)
                              (try clear BK252)
                              (try clear HB)
                              generalize ((w57.setCell ⟨gb252, 0, none⟩ (.int .i64 ((rd_T39 l2_2 x12_3).f0))).setCell ⟨gb252, 1, none⟩ (.bool false)) = w60 at n0_ n1_ n2_ n3_ ⊢
                              have HO_8 := n0_
                              have BK244 := n1_
                              have BK252 := n2_
                              have HB := n3_
                              clear n0_ n1_ n2_ n3_
                              have n0_ := Aside0.mk (Kd.N_drew HO_8.out)
                              have n1_ := Aside0.mk (blk_drew BK244.out)
                              have n2_ := Aside0.mk (blk_drew BK252.out)
                              have n3_ := Aside0.mk (below_drew1 HB.out)
                              clear HO_8
                              clear BK244
                              clear BK252
                              clear HB
                              have HO_8 := n0_
                              have BK244 := n1_
                              have BK252 := n2_
                              have HB := n3_
                              clear n0_ n1_ n2_ n3_
                              have p253 : 0 ≤ (x12_3 : Int) := of_decide_eq_true (by first | (with_reducible assumption) | assumption)
                              have q253 : x12_3 < (t248.length : Int) := of_decide_eq_true (by first | (with_reducible assumption) | assumption)
                              obtain ⟨ad253, A253_0, c253_0, e253, hx253_0, hl253_0, hi253_0⟩ := at_L3 (Kd.N_reads' HO_8.out).2.2 x12_3 p253 q253
                              cases e253
                              obtain ⟨ce253, hce253, hMe253, hcc253⟩ := Kd.N_get HO_8.out [] x12_3 p253 (by first | exact q253 | exact of_decide_eq_true (by first | (with_reducible assumption) | assumption) | (have e_ := (Kd.N_reads' HO_8.out).1; omega))
                              obtain ⟨ua253_0, uc253_0, rfl, ul253_0, ge253_0⟩ := Kd.FK_slice_open hMe253
                              have hv253_0 := hcc253 0 _ rfl
                              rw [Nat.add_zero, show ((Kd.slice 3 (Kd.int .i64))).sz = 1 from rfl, Nat.mul_one] at hv253_0
                              replace hv253_0 := Option.some.inj (hv253_0.symm.trans hx253_0)
                              injection hv253_0 with hva_ hvn_ hvc_
                              rw [hva_] at ge253_0
                              rw [hvc_] at ul253_0
                              have HL253_0 := Aside0.mk (show Kd.V (Kd.int .i64) 3 _ w.heap.size _ _ (rd_L3 t248 x12_3) from Kd.V_mk ul253_0 ge253_0)
                              clear hva_ hvn_ hvc_ ge253_0 ul253_0
                              clear hcc253 hce253
                              have HR253_0 := Aside0.mk hi253_0
                              have HC253_0 := Aside0.mk hl253_0
                              clear hi253_0 hl253_0
                              replace p253 := eq_true p253
                              replace q253 := eq_true q253
                              refine start_ (n := 7) (S := fun w' => w'.cell? ⟨gb252, 0, none⟩ = some (.int .i64 ((rd_T39 l2_2 x12_3).f0)) ∧ w'.cell? ⟨gb252, 1, none⟩ = some (.bool false) ∧ w'.cell? (ad253.add (x12_3).toNat) = some (.slice A253_0 (rd_L3 t248 x12_3).length c253_0)) (ds := []) #[false, false, false, false, false, false, false] (by kernel_rfl) rfl rfl ⟨(blk_cell BK252.out 0).trans rfl, (blk_cell BK252.out 1).trans rfl, hx253_0⟩ (fun hHeld => ?_)
                              generalize w60.drew = w61 at HO_8 BK244 BK252 HB HL253_0 HR253_0 hx253_0 hHeld ⊢
                              refine pure_ (i := 0) (N := some 48) (v := ?_) (a' := ?_) #[true, false, false, false, false, false, false] rfl rfl (by kernel_rfl) (fun _ _ _ h => h) (Or.inl ⟨by rfl, ?_⟩) ?_ ?_
                              rotate_left
                              · intro w'
                                go_simp
                                with_reducible rfl
                              rotate_left
                              · simp only [Act.put, List.setIfInBounds_toArray, List.set_cons_zero, List.set_cons_succ, i64_w, i32_w]
                                rfl
                              refine pure_ (i := 1) (N := some 49) (v := ?_) (a' := ?_) #[true, true, false, false, false, false, false] rfl rfl (by kernel_rfl) (fun _ _ _ h => h) (Or.inl ⟨by rfl, ?_⟩) ?_ ?_
                              rotate_left
                              · intro w'
                                go_simp
                                with_reducible rfl
                              rotate_left
                              · simp only [Act.put, List.setIfInBounds_toArray, List.set_cons_zero, List.set_cons_succ, i64_w, i32_w]
                                rfl
                              refine pure_ (i := 2) (N := some 50) (v := ?_) (a' := ?_) #[true, true, true, false, false, false, false] rfl rfl (by kernel_rfl) (fun _ _ _ h => h) (Or.inl ⟨by rfl, ?_⟩) ?_ ?_
                              rotate_left
                              · intro w'
                                go_simp
                                with_reducible rfl
                              rotate_left
                              · simp only [Act.put, List.setIfInBounds_toArray, List.set_cons_zero, List.set_cons_succ, i64_w, i32_w]
                                rfl
                              refine take_ (i := 3) (N := some 51) (v := ?_) (a' := ?_) #[true, true, true, true, false, false, false] rfl rfl (by kernel_rfl) (fun _ _ _ h => h) (Or.inl ⟨by rfl, ?_⟩) hHeld ?_ ?_
                              rotate_left
                              · rintro w' ⟨s0, s1, s2⟩
                                go_simp
                                with_reducible rfl
                              rotate_left
                              · simp only [Act.put, List.setIfInBounds_toArray, List.set_cons_zero, List.set_cons_succ, i64_w, i32_w]
                                rfl
                              refine take_ (i := 4) (N := some 52) (v := ?_) (a' := ?_) #[true, true, true, true, true, false, false] rfl rfl (by kernel_rfl) (fun _ _ _ h => h) (Or.inl ⟨by rfl, ?_⟩) hHeld ?_ ?_
                              rotate_left
                              · rintro w' ⟨s0, s1, s2⟩
                                go_simp
                                with_reducible rfl
                              rotate_left
                              · simp only [Act.put, List.setIfInBounds_toArray, List.set_cons_zero, List.set_cons_succ, i64_w, i32_w]
                                rfl
                              refine one_ (i := 5) (N := some 53) #[true, true, true, true, true, true, false] rfl rfl (by kernel_rfl) (by decide) (fun K hK => ?_)
                              refine goes_ Try.func35 (by kernel_rfl) rfl #[.slice A253_0 (rd_L3 t248 x12_3).length c253_0, .agg #[.int .i64 ((rd_T39 l2_2 x12_3).f0), .bool false]] (by rfl) rfl rfl (by (try simp only [List.map_toArray, List.map_cons, List.map_nil]); first | done | rfl | (simp only [List.length_drop, List.length_take]; rfl)) ?_
                              with_reducible refine (serinetteref13_Each.calls k3 _ _ (rd_L3 t248 x12_3) ((rd_T39 l2_2 x12_3).f0) false t254 _ ?side1 ?side2 (by first | exact A23.out | (rw [Nbq33.out]; exact A23.out))).mono ?_
                              (case side1 => repeat (first | exact (by repeat (first | (with_reducible exact HR253_0.out) | (with_reducible refine Kd.C_alloc ?_ _) | (with_reducible refine Kd.C_drewN ?_ _) | (with_reducible refine Kd.C_drew ?_) | exact HR253_0.out)) | (with_reducible refine Kd.C_alloc ?_ _) | (with_reducible refine Kd.C_drewN ?_ _) | (with_reducible refine Kd.C_drew ?_)))
                              (case side2 => exact HC253_0.out)
                              rintro e w62 ⟨rfl, hb⟩
                              have HS2_ := (hb.cell (World.block_lt_of_cell? _ _ (hHeld.2.2))).trans (hHeld.2.2)
                              refine ⟨_, rfl, ?_⟩
                              have n0_ := Aside0.mk (Kd.N_below (by (with_reducible repeat (first | apply Kd.N_alloc | apply Kd.N_drewN | apply Kd.N_drew)); exact HO_8.out) hb)
                              have n1_ := Aside0.mk (Kd.V_below (by (with_reducible repeat (first | apply Kd.V_alloc | apply Kd.V_drewN | apply Kd.V_drew)); exact HL253_0.out) hb)
                              have n2_ := Aside0.mk (blk_below (g := gb244) (o := .cells #[.bool a2_0, .int .i64 a2_1, .slice (some ad251) l2_2.length c2_2] 26 (0, 0)) (by (with_reducible repeat (first | refine blk_drewN ?_ _ | refine blk_drew ?_ | refine blk_alloc ?_ _)); exact BK244.out) hb)
                              have n3_ := Aside0.mk (blk_below (g := gb252) (o := .cells #[.int .i64 ((rd_T39 l2_2 x12_3).f0), .bool false] 39 (0, 0)) (by (with_reducible repeat (first | refine blk_drewN ?_ _ | refine blk_drew ?_ | refine blk_alloc ?_ _)); exact BK252.out) hb)
                              have n4_ := Aside0.mk (Kd.C_below (by repeat (first | (with_reducible exact HR253_0.out) | (with_reducible refine Kd.C_alloc ?_ _) | (with_reducible refine Kd.C_drewN ?_ _) | (with_reducible refine Kd.C_drew ?_) | exact HR253_0.out)) hb)
                              have n5_ := Aside0.mk (below_step (by repeat (first | (with_reducible first | exact HB.out | apply below_alloc | apply pw_below_drewN | apply below_drew1 | refine below_set ?_ GE244.out | refine below_set ?_ GE252.out) | exact HB.out)) hb)
                              clear HO_8
                              clear HL253_0
                              clear BK244
                              clear BK252
                              clear HR253_0
                              clear HB
                              have HO_8 := n0_
                              have HL253_0 := n1_
                              have BK244 := n2_
                              have BK252 := n3_
                              have HR253_0 := n4_
                              have HB := n5_
                              clear n0_ n1_ n2_ n3_ n4_ n5_
                              (try clear hb)
                              (try clear hb2)
                              (try clear hk)
                              (try clear hi)
                              refine hK.out _ _ ⟨(blk_cell BK252.out 0).trans rfl, (blk_cell BK252.out 1).trans rfl, HS2_⟩ (fun hHeld => ?_)
                              clear hK K
                              refine norm_ (a' := ?_) ?_ ?_
                              rotate_left
                              · show Act.put _ (some 53) _ = _
                                simp only [Act.put, List.setIfInBounds_toArray, List.set_cons_zero, List.set_cons_succ, i64_w, i32_w]
                                rfl
                              refine pure_ (i := 6) (N := some 14) (v := ?_) (a' := ?_) #[true, true, true, true, true, true, true] rfl rfl (by kernel_rfl) (fun _ _ _ h => h) (Or.inl ⟨by rfl, ?_⟩) ?_ ?_
                              rotate_left
                              · intro w'
                                go_simp
                                with_reducible rfl
                              rotate_left
                              · simp only [Act.put, List.setIfInBounds_toArray, List.set_cons_zero, List.set_cons_succ, i64_w, i32_w]
                                rfl
                              refine done_ (by kernel_rfl) ?_
                              have hcz63_0 : w62.cell? ⟨gb252, 0, none⟩ = some (.int .i64 ((rd_T39 l2_2 x12_3).f0)) := (blk_cell BK252.out 0).trans rfl
                              have hcz63_1 : w62.cell? ⟨gb252, 1, none⟩ = some (.bool false) := (blk_cell BK252.out 1).trans rfl
                              have hfz63_0 := blk_frozen BK252.out 0
                              have hfz63_1 := blk_frozen BK252.out 1
                              try go_wp2
                              go_ret
                              exact ⟨by first | rfl | (simp [errW_none, errW_some] <;> rfl) | (simp [*, errW_none, errW_some] <;> rfl), by repeat (first | (with_reducible first | exact HB.out | apply below_alloc | apply pw_below_drewN | apply below_drew1 | refine below_set ?_ GE244.out | refine below_set ?_ GE252.out) | exact HB.out)⟩
                            · rw [if_neg c54] at H
                              have c54b0 : decide (x10_14 < ((rd_T39 l2_2 x12_3).f0)) = false := decide_eq_false c54
                              clear c54
                              have H' := Aside0.mk H
                              clear H
                              obtain ⟨Ao64, co64, eo64⟩ := Kd.N_slice HO_8.out
                              subst eo64
                              have hcz65_0 : wr.cell? ⟨gb244, 0, none⟩ = some (.bool a2_0) := (blk_cell BK244.out 0).trans rfl
                              have hcz65_1 : wr.cell? ⟨gb244, 1, none⟩ = some (.int .i64 a2_1) := (blk_cell BK244.out 1).trans rfl
                              have hcz65_2 : wr.cell? ⟨gb244, 2, none⟩ = some (.slice A2_2 l2_2.length c2_2) := (blk_cell BK244.out 2).trans rfl
                              have hfz65_0 := blk_frozen BK244.out 0
                              have hfz65_1 := blk_frozen BK244.out 1
                              have hfz65_2 := blk_frozen BK244.out 2
                              have p251 : 0 ≤ (x12_3 : Int) := of_decide_eq_true (by first | (with_reducible assumption) | assumption)
                              have q251 : x12_3 < (l2_2.length : Int) := of_decide_eq_true (by first | (with_reducible assumption) | assumption)
                              obtain ⟨ad251, e251, hx251_0, hx251_1⟩ := at_T39 HR2_2.out x12_3 p251 q251
                              (try rw [← Nbq33.out] at hx251_1)
                              cases e251
                              replace hx251_0 := (HB.out.cell (World.block_lt_of_cell? w _ hx251_0)).trans hx251_0
                              replace hx251_1 := (HB.out.cell (World.block_lt_of_cell? w _ hx251_1)).trans hx251_1
                              replace p251 := eq_true p251
                              replace q251 := eq_true q251
                              try go_wp2_with (first | ((with_reducible refine gate_dst (N := 13) rfl ?_); (try (refine gate_guard (by rfl) ?_; dsimp only)); refine box_event ?hg (N := 13) ?hd (cs := #[.int .i64 0, .bool false]) (t := 39) ?hr ?_; (case hd => rfl); (case hg => rfl); (case hr => first | (go_simp; done) | (go_simp; rfl)); intro gb252 hg w66 hbox hb; have n0_ := Aside0.mk (Kd.N_below (Kd.N_elderB (by (with_reducible repeat (first | apply Kd.N_alloc | apply Kd.N_drewN | apply Kd.N_drew)); exact HO_8.out) gb252 (Nat.le_of_eq hg.symm)) hb); have n1_ := Aside0.mk (blk_below (g := gb244) (o := .cells #[.bool a2_0, .int .i64 a2_1, .slice (some ad251) l2_2.length c2_2] 26 (0, 0)) (by (with_reducible repeat (first | refine blk_drewN ?_ _ | refine blk_drew ?_ | refine blk_alloc ?_ _)); exact BK244.out) hb); have n2_ := Aside0.mk (below_step (by repeat (first | (with_reducible first | exact HB.out | apply below_alloc | apply pw_below_drewN | apply below_drew1 | refine below_set ?_ GE244.out) | exact HB.out)) hb); have n3_ := Aside0.mk (hbox); have n4_ := Aside0.mk ((by rw [hg]; exact (below_size (by repeat (first | (with_reducible first | exact HB.out | apply below_alloc | apply pw_below_drewN | apply below_drew1 | refine below_set ?_ GE244.out) | exact HB.out))) : w.heap.size ≤ gb252)); have n5_ := Aside0.mk ((by rw [hg]; exact (below_size (by repeat (first | (with_reducible first | exact HB.out | apply below_alloc | apply pw_below_drewN | apply below_drew1 | refine below_set ?_ GE244.out) | exact HB.out))) : w.heap.size ≤ gb252)); have n6_ := Aside0.mk ((by rw [hg]; exact Nat.ne_of_lt (blk_lt (g := gb244) (o := .cells #[.bool a2_0, .int .i64 a2_1, .slice (some ad251) l2_2.length c2_2] 26 (0, 0)) (by (with_reducible repeat (first | refine blk_drewN ?_ _ | refine blk_drew ?_ | refine blk_alloc ?_ _)); exact BK244.out)) : gb244 ≠ gb252)); have n7_ := Aside0.mk ((by rw [hg]; exact Nat.ne_of_gt (blk_lt (g := gb244) (o := .cells #[.bool a2_0, .int .i64 a2_1, .slice (some ad251) l2_2.length c2_2] 26 (0, 0)) (by (with_reducible repeat (first | refine blk_drewN ?_ _ | refine blk_drew ?_ | refine blk_alloc ?_ _)); exact BK244.out)) : gb252 ≠ gb244)); clear HO_8; clear BK244; clear HB; have HO_8 := n0_; have BK244 := n1_; have HB := n2_; have BK252 := n3_; have GW252 := n4_; have GE252 := n5_; have NB244_252 := n6_; have NB252_244 := n7_; clear n0_ n1_ n2_ n3_ n4_ n5_ n6_ n7_; clear hb hbox hg; have hnb67 := NB252_244.out; have hnc67 := NB244_252.out; have hcz68_0 : w66.cell? ⟨gb252, 0, none⟩ = some (.int .i64 0) := (blk_cell BK252.out 0).trans rfl; have hcz68_1 : w66.cell? ⟨gb252, 1, none⟩ = some (.bool false) := (blk_cell BK252.out 1).trans rfl; have hfz68_0 := blk_frozen BK252.out 0; have hfz68_1 := blk_frozen BK252.out 1))
                              have n0_ : Aside0 (Kd.N (Kd.slice 3 (Kd.int .i64)) 22 ((w66.setCell ⟨gb252, 0, none⟩ (.int .i64 ((rd_T39 l2_2 x12_3).f0))).setCell ⟨gb252, 1, none⟩ (.bool false)) w.heap.size (fun k_ => k_ ≠ gb244 ∧ k_ ≠ gb252) (.slice Ao64 t248.length co64) t248) := ⟨by (with_reducible repeat (first | apply Kd.N_alloc | apply Kd.N_drewN | apply Kd.N_drew)); exact Kd.N_mono (Kd.N_far (p := ⟨gb252, 1, none⟩) (Kd.N_far (p := ⟨gb252, 0, none⟩) (Kd.N_mono HO_8.out (fun k_ hk => (⟨hk, hk.2⟩ : _ ∧ k_ ≠ gb252))) (fun _ hk => hk.2) (.int .i64 ((rd_T39 l2_2 x12_3).f0))) (fun _ hk => hk.2) (.bool false)) (fun _ hk => ⟨hk.1.1, hk.1.2⟩)⟩
                              have n1_ : Aside0 (((w66.setCell ⟨gb252, 0, none⟩ (.int .i64 ((rd_T39 l2_2 x12_3).f0))).setCell ⟨gb252, 1, none⟩ (.bool false)).heap[gb244]? = some (.cells #[.bool a2_0, .int .i64 a2_1, .slice (some ad251) l2_2.length c2_2] 26 (0, 0))) := ⟨by (with_reducible repeat (first | refine blk_drewN ?_ _ | refine blk_drew ?_ | refine blk_alloc ?_ _)); refine blk_far ?_ NB244_252.out _; (with_reducible repeat (first | refine blk_drewN ?_ _ | refine blk_drew ?_ | refine blk_alloc ?_ _)); refine blk_far ?_ NB244_252.out _; (with_reducible repeat (first | refine blk_drewN ?_ _ | refine blk_drew ?_ | refine blk_alloc ?_ _)); exact BK244.out⟩
                              have n2_ : Aside0 (((w66.setCell ⟨gb252, 0, none⟩ (.int .i64 ((rd_T39 l2_2 x12_3).f0))).setCell ⟨gb252, 1, none⟩ (.bool false)).heap[gb252]? = some (.cells #[.int .i64 ((rd_T39 l2_2 x12_3).f0), .bool false] 39 (0, 0))) := ⟨by (with_reducible repeat (first | refine blk_drewN ?_ _ | refine blk_drew ?_ | refine blk_alloc ?_ _)); refine blk_put (cs := #[.int .i64 ((rd_T39 l2_2 x12_3).f0), .bool false]) ?_ 1 _ rfl; (with_reducible repeat (first | refine blk_drewN ?_ _ | refine blk_drew ?_ | refine blk_alloc ?_ _)); refine blk_put (cs := #[.int .i64 0, .bool false]) ?_ 0 _ rfl; (with_reducible repeat (first | refine blk_drewN ?_ _ | refine blk_drew ?_ | refine blk_alloc ?_ _)); exact BK252.out⟩
                              have n3_ : Aside0 (Below w.heap.size w ((w66.setCell ⟨gb252, 0, none⟩ (.int .i64 ((rd_T39 l2_2 x12_3).f0))).setCell ⟨gb252, 1, none⟩ (.bool false))) := ⟨by repeat (first | (with_reducible first | exact HB.out | apply below_alloc | apply pw_below_drewN | apply below_drew1 | refine below_set ?_ GE244.out | refine below_set ?_ GE252.out) | exact HB.out)⟩
                              (try clear HO_8)
                              (try clear BK244)
                              (try clear BK252)
                              (try clear HB)
                              generalize ((w66.setCell ⟨gb252, 0, none⟩ (.int .i64 ((rd_T39 l2_2 x12_3).f0))).setCell ⟨gb252, 1, none⟩ (.bool false)) = w69 at n0_ n1_ n2_ n3_ ⊢
                              have HO_8 := n0_
                              have BK244 := n1_
                              have BK252 := n2_
                              have HB := n3_
                              clear n0_ n1_ n2_ n3_
                              have n0_ := Aside0.mk (Kd.N_drew HO_8.out)
                              have n1_ := Aside0.mk (blk_drew BK244.out)
                              have n2_ := Aside0.mk (blk_drew BK252.out)
                              have n3_ := Aside0.mk (below_drew1 HB.out)
                              clear HO_8
                              clear BK244
                              clear BK252
                              clear HB
                              have HO_8 := n0_
                              have BK244 := n1_
                              have BK252 := n2_
                              have HB := n3_
                              clear n0_ n1_ n2_ n3_
                              have p253 : 0 ≤ (x12_3 : Int) := of_decide_eq_true (by first | (with_reducible assumption) | assumption)
                              have q253 : x12_3 < (t248.length : Int) := of_decide_eq_true (by first | (with_reducible assumption) | assumption)
                              obtain ⟨ad253, A253_0, c253_0, e253, hx253_0, hl253_0, hi253_0⟩ := at_L3 (Kd.N_reads' HO_8.out).2.2 x12_3 p253 q253
                              cases e253
                              obtain ⟨ce253, hce253, hMe253, hcc253⟩ := Kd.N_get HO_8.out [] x12_3 p253 (by first | exact q253 | exact of_decide_eq_true (by first | (with_reducible assumption) | assumption) | (have e_ := (Kd.N_reads' HO_8.out).1; omega))
                              obtain ⟨ua253_0, uc253_0, rfl, ul253_0, ge253_0⟩ := Kd.FK_slice_open hMe253
                              have hv253_0 := hcc253 0 _ rfl
                              rw [Nat.add_zero, show ((Kd.slice 3 (Kd.int .i64))).sz = 1 from rfl, Nat.mul_one] at hv253_0
                              replace hv253_0 := Option.some.inj (hv253_0.symm.trans hx253_0)
                              injection hv253_0 with hva_ hvn_ hvc_
                              rw [hva_] at ge253_0
                              rw [hvc_] at ul253_0
                              have HL253_0 := Aside0.mk (show Kd.V (Kd.int .i64) 3 _ w.heap.size _ _ (rd_L3 t248 x12_3) from Kd.V_mk ul253_0 ge253_0)
                              clear hva_ hvn_ hvc_ ge253_0 ul253_0
                              clear hcc253 hce253
                              have HR253_0 := Aside0.mk hi253_0
                              have HC253_0 := Aside0.mk hl253_0
                              clear hi253_0 hl253_0
                              replace p253 := eq_true p253
                              replace q253 := eq_true q253
                              refine start_ (n := 7) (S := fun w' => w'.cell? ⟨gb252, 0, none⟩ = some (.int .i64 ((rd_T39 l2_2 x12_3).f0)) ∧ w'.cell? ⟨gb252, 1, none⟩ = some (.bool false) ∧ w'.cell? (ad253.add (x12_3).toNat) = some (.slice A253_0 (rd_L3 t248 x12_3).length c253_0)) (ds := []) #[false, false, false, false, false, false, false] (by kernel_rfl) rfl rfl ⟨(blk_cell BK252.out 0).trans rfl, (blk_cell BK252.out 1).trans rfl, hx253_0⟩ (fun hHeld => ?_)
                              generalize w69.drew = w70 at HO_8 BK244 BK252 HB HL253_0 HR253_0 hx253_0 hHeld ⊢
                              refine pure_ (i := 0) (N := some 48) (v := ?_) (a' := ?_) #[true, false, false, false, false, false, false] rfl rfl (by kernel_rfl) (fun _ _ _ h => h) (Or.inl ⟨by rfl, ?_⟩) ?_ ?_
                              rotate_left
                              · intro w'
                                go_simp
                                with_reducible rfl
                              rotate_left
                              · simp only [Act.put, List.setIfInBounds_toArray, List.set_cons_zero, List.set_cons_succ, i64_w, i32_w]
                                rfl
                              refine pure_ (i := 1) (N := some 49) (v := ?_) (a' := ?_) #[true, true, false, false, false, false, false] rfl rfl (by kernel_rfl) (fun _ _ _ h => h) (Or.inl ⟨by rfl, ?_⟩) ?_ ?_
                              rotate_left
                              · intro w'
                                go_simp
                                with_reducible rfl
                              rotate_left
                              · simp only [Act.put, List.setIfInBounds_toArray, List.set_cons_zero, List.set_cons_succ, i64_w, i32_w]
                                rfl
                              refine pure_ (i := 2) (N := some 50) (v := ?_) (a' := ?_) #[true, true, true, false, false, false, false] rfl rfl (by kernel_rfl) (fun _ _ _ h => h) (Or.inl ⟨by rfl, ?_⟩) ?_ ?_
                              rotate_left
                              · intro w'
                                go_simp
                                with_reducible rfl
                              rotate_left
                              · simp only [Act.put, List.setIfInBounds_toArray, List.set_cons_zero, List.set_cons_succ, i64_w, i32_w]
                                rfl
                              refine take_ (i := 3) (N := some 51) (v := ?_) (a' := ?_) #[true, true, true, true, false, false, false] rfl rfl (by kernel_rfl) (fun _ _ _ h => h) (Or.inl ⟨by rfl, ?_⟩) hHeld ?_ ?_
                              rotate_left
                              · rintro w' ⟨s0, s1, s2⟩
                                go_simp
                                with_reducible rfl
                              rotate_left
                              · simp only [Act.put, List.setIfInBounds_toArray, List.set_cons_zero, List.set_cons_succ, i64_w, i32_w]
                                rfl
                              refine take_ (i := 4) (N := some 52) (v := ?_) (a' := ?_) #[true, true, true, true, true, false, false] rfl rfl (by kernel_rfl) (fun _ _ _ h => h) (Or.inl ⟨by rfl, ?_⟩) hHeld ?_ ?_
                              rotate_left
                              · rintro w' ⟨s0, s1, s2⟩
                                go_simp
                                with_reducible rfl
                              rotate_left
                              · simp only [Act.put, List.setIfInBounds_toArray, List.set_cons_zero, List.set_cons_succ, i64_w, i32_w]
                                rfl
                              refine one_ (i := 5) (N := some 53) #[true, true, true, true, true, true, false] rfl rfl (by kernel_rfl) (by decide) (fun K hK => ?_)
                              refine goes_ Try.func35 (by kernel_rfl) rfl #[.slice A253_0 (rd_L3 t248 x12_3).length c253_0, .agg #[.int .i64 ((rd_T39 l2_2 x12_3).f0), .bool false]] (by rfl) rfl rfl (by (try simp only [List.map_toArray, List.map_cons, List.map_nil]); first | done | rfl | (simp only [List.length_drop, List.length_take]; rfl)) ?_
                              with_reducible refine (serinetteref13_Each.calls k3 _ _ (rd_L3 t248 x12_3) ((rd_T39 l2_2 x12_3).f0) false t254 _ ?side1 ?side2 (by first | exact A23.out | (rw [Nbq33.out]; exact A23.out))).mono ?_
                              (case side1 => repeat (first | exact (by repeat (first | (with_reducible exact HR253_0.out) | (with_reducible refine Kd.C_alloc ?_ _) | (with_reducible refine Kd.C_drewN ?_ _) | (with_reducible refine Kd.C_drew ?_) | exact HR253_0.out)) | (with_reducible refine Kd.C_alloc ?_ _) | (with_reducible refine Kd.C_drewN ?_ _) | (with_reducible refine Kd.C_drew ?_)))
                              (case side2 => exact HC253_0.out)
                              rintro e w71 ⟨rfl, hb⟩
                              have HS2_ := (hb.cell (World.block_lt_of_cell? _ _ (hHeld.2.2))).trans (hHeld.2.2)
                              refine ⟨_, rfl, ?_⟩
                              have n0_ := Aside0.mk (Kd.N_below (by (with_reducible repeat (first | apply Kd.N_alloc | apply Kd.N_drewN | apply Kd.N_drew)); exact HO_8.out) hb)
                              have n1_ := Aside0.mk (Kd.V_below (by (with_reducible repeat (first | apply Kd.V_alloc | apply Kd.V_drewN | apply Kd.V_drew)); exact HL253_0.out) hb)
                              have n2_ := Aside0.mk (blk_below (g := gb244) (o := .cells #[.bool a2_0, .int .i64 a2_1, .slice (some ad251) l2_2.length c2_2] 26 (0, 0)) (by (with_reducible repeat (first | refine blk_drewN ?_ _ | refine blk_drew ?_ | refine blk_alloc ?_ _)); exact BK244.out) hb)
                              have n3_ := Aside0.mk (blk_below (g := gb252) (o := .cells #[.int .i64 ((rd_T39 l2_2 x12_3).f0), .bool false] 39 (0, 0)) (by (with_reducible repeat (first | refine blk_drewN ?_ _ | refine blk_drew ?_ | refine blk_alloc ?_ _)); exact BK252.out) hb)
                              have n4_ := Aside0.mk (Kd.C_below (by repeat (first | (with_reducible exact HR253_0.out) | (with_reducible refine Kd.C_alloc ?_ _) | (with_reducible refine Kd.C_drewN ?_ _) | (with_reducible refine Kd.C_drew ?_) | exact HR253_0.out)) hb)
                              have n5_ := Aside0.mk (below_step (by repeat (first | (with_reducible first | exact HB.out | apply below_alloc | apply pw_below_drewN | apply below_drew1 | refine below_set ?_ GE244.out | refine below_set ?_ GE252.out) | exact HB.out)) hb)
                              clear HO_8
                              clear HL253_0
                              clear BK244
                              clear BK252
                              clear HR253_0
                              clear HB
                              have HO_8 := n0_
                              have HL253_0 := n1_
                              have BK244 := n2_
                              have BK252 := n3_
                              have HR253_0 := n4_
                              have HB := n5_
                              clear n0_ n1_ n2_ n3_ n4_ n5_
                              (try clear hb)
                              (try clear hb2)
                              (try clear hk)
                              (try clear hi)
                              refine hK.out _ _ ⟨(blk_cell BK252.out 0).trans rfl, (blk_cell BK252.out 1).trans rfl, HS2_⟩ (fun hHeld => ?_)
                              clear hK K
                              refine norm_ (a' := ?_) ?_ ?_
                              rotate_left
                              · show Act.put _ (some 53) _ = _
                                simp only [Act.put, List.setIfInBounds_toArray, List.set_cons_zero, List.set_cons_succ, i64_w, i32_w]
                                rfl
                              refine pure_ (i := 6) (N := some 14) (v := ?_) (a' := ?_) #[true, true, true, true, true, true, true] rfl rfl (by kernel_rfl) (fun _ _ _ h => h) (Or.inl ⟨by rfl, ?_⟩) ?_ ?_
                              rotate_left
                              · intro w'
                                go_simp
                                with_reducible rfl
                              rotate_left
                              · simp only [Act.put, List.setIfInBounds_toArray, List.set_cons_zero, List.set_cons_succ, i64_w, i32_w]
                                rfl
                              refine done_ (by kernel_rfl) ?_
                              have hcz72_0 : w71.cell? ⟨gb252, 0, none⟩ = some (.int .i64 ((rd_T39 l2_2 x12_3).f0)) := (blk_cell BK252.out 0).trans rfl
                              have hcz72_1 : w71.cell? ⟨gb252, 1, none⟩ = some (.bool false) := (blk_cell BK252.out 1).trans rfl
                              have hfz72_0 := blk_frozen BK252.out 0
                              have hfz72_1 := blk_frozen BK252.out 1
                              try go_wp2
                              go_roundg k3
                              case measure => have := HJ4.out; have := HJ14.out; have := HK3.out; omega
                              case rel => exact ⟨(wrap64 ((wrap64 (x11_3 + x9_14)) + t254)), (wrap64 (x12_3 + 1)), (by first | rfl | (simp; done) | (simp only [i64_w, i32_w]; done) | (simp [*]; done) | (simp only [i64_w, i32_w]; first | rfl | (simp; done) | (simp [*]; done))), (by first | rfl | (simp; done) | (simp only [i64_w, i32_w]; done) | (simp [*]; done) | (simp only [i64_w, i32_w]; first | rfl | (simp; done) | (simp [*]; done))), H', ⟨by have := HJ4.out; have := HJ14.out; have := HK3.out; omega⟩, ⟨by (with_reducible repeat (first | apply Kd.N_alloc | apply Kd.N_drewN | apply Kd.N_drew)); exact Kd.N_mono HO_8.out (fun _ hk => hk.1)⟩, ⟨by (with_reducible repeat (first | refine blk_drewN ?_ _ | refine blk_drew ?_ | refine blk_alloc ?_ _)); exact BK244.out⟩, ⟨by repeat (first | (with_reducible first | exact HB.out | apply below_alloc | apply pw_below_drewN | apply below_drew1 | refine below_set ?_ GE244.out | refine below_set ?_ GE252.out) | exact HB.out)⟩⟩
                    · rw [if_neg c22] at H
                      exact absurd H (by simp)
                  · rw [if_neg c21] at H
                    exact absurd H (by simp)
                · rw [if_neg c20] at H
                  have c20b0 : decide (x12_3 < (t248.length : Int)) = false := decide_eq_false c20
                  clear c20
                  obtain rfl := Option.some.inj H
                  obtain ⟨Ao73, co73, eo73⟩ := Kd.N_slice HO_8.out
                  subst eo73
                  go_wp2
                  go_ret
                  exact ⟨by first | rfl | (simp [errW_none, errW_some] <;> rfl) | (simp [*, errW_none, errW_some] <;> rfl), by repeat (first | (with_reducible first | exact HB.out | apply below_alloc | apply pw_below_drewN | apply below_drew1 | refine below_set ?_ GE244.out) | exact HB.out)⟩

end Go.Proofs.Ytpoigjkkcehpdaa.PA
