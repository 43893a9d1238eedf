/- Each Go function named below comes to what the plain Lean function of its name answers, wherever that answers (rounds enough, no panic, no row too long); texts by a program of this session by way of the kit's print.py, what that does not take by hand. Condition: what is read lies in memory as each theorem says. -/
import Derived.Test.YtpoigjkkcehpdaaPAx0
import Derived.Test.YtpoigjkkcehpdaaPAx9
import Derived.Test.YtpoigjkkcehpdaaPAx17
import Derived.Test.YtpoigjkkcehpdaaPAx18
namespace Go.Proofs.Ytpoigjkkcehpdaa.PA
open Go.RowKit Go.Proofs.YtpoigjkkcehpdaaW.PrintWords Go.Proofs.YtpoigjkkcehpdaaW.PrintLast Go.Proofs.YtpoigjkkcehpdaaW.PrintMore
attribute [local go_sem] max2_int min2_int max_two min_two max_three min_three max_four min_four   -- for this text's walks alone
set_option linter.unusedVariables false
set_option linter.unusedSimpArgs false

/-! ### serinetteref14_Best: function 10 -/
mutual
def serinetteref14_Best.j0 : Nat → List Int → Int → Int → Bool → Bool → Option (Bool × Int × (List (S39)) × Int × Int)
  | 0, _, _, _, _, _ => none
  | k + 1, x0, x1, x2, x3, x28 => if x28 = true then (some (false, 0, ([] : List (S39)), 0, 1)) else (if (x0.length : Int) = 0 then (some (false, 0, ([] : List (S39)), 0, 2)) else ((serinetteref13_Near.f k x0).bind fun t256 => (if t256 = true then ((serinetteref14_Plans.f k x0 x1 x2 x3).bind fun t257 => (serinetteref14_Best.l0 k x0 x1 t257 0 1)) else (some (false, 0, ([] : List (S39)), 0, 6)))))
def serinetteref14_Best.l0 : Nat → List Int → Int → List (S26) → Int → Int → Option (Bool × Int × (List (S39)) × Int × Int)
  | 0, _, _, _, _, _ => none
  | k + 1, x0, x1, x12, x13, x14 => if x14 < (x12.length : Int) then (if 0 ≤ x14 then ((serinetteref14_Bits.f k x0 x1 ((rd_T26 x12 x14).f0) ((rd_T26 x12 x14).f1) ((rd_T26 x12 x14).f2)).bind fun t264 => (if 0 ≤ x13 then (if x13 < (x12.length : Int) then ((serinetteref14_Bits.f k x0 x1 ((rd_T26 x12 x13).f0) ((rd_T26 x12 x13).f1) ((rd_T26 x12 x13).f2)).bind fun t266 => (if t264 < t266 then (serinetteref14_Best.l0 k x0 x1 x12 x14 (wrap64 (x14 + 1))) else (serinetteref14_Best.l0 k x0 x1 x12 x13 (wrap64 (x14 + 1))))) else (none)) else (none))) else (none)) else (if 0 ≤ x13 then (if x13 < (x12.length : Int) then ((serinetteref14_Bits.f k x0 x1 ((rd_T26 x12 x13).f0) ((rd_T26 x12 x13).f1) ((rd_T26 x12 x13).f2)).bind fun t262 => (some ((rd_T26 x12 x13).f0, (rd_T26 x12 x13).f1, (rd_T26 x12 x13).f2, t262, 0))) else (none)) else (none))
end
def serinetteref14_Best.f (k : Nat) (l0 : List Int) (a1 : Int) (a2 : Int) (a3 : Bool) : Option (Bool × Int × (List (S39)) × Int × Int) := if a1 < 0 then (serinetteref14_Best.j0 k l0 a1 a2 a3 true) else (if a1 > 32 then (serinetteref14_Best.j0 k l0 a1 a2 a3 true) else (if a2 < 0 then (serinetteref14_Best.j0 k l0 a1 a2 a3 true) else (serinetteref14_Best.j0 k l0 a1 a2 a3 (decide (a2 > 8)))))
theorem serinetteref14_Best.mono_l : ∀ k, (∀ y0 y1 y2 y3 y4, LeO (serinetteref14_Best.j0 k y0 y1 y2 y3 y4) (serinetteref14_Best.j0 (k + 1) y0 y1 y2 y3 y4)) ∧ (∀ y0 y1 y2 y3 y4, LeO (serinetteref14_Best.l0 k y0 y1 y2 y3 y4) (serinetteref14_Best.l0 (k + 1) y0 y1 y2 y3 y4))
  | 0 => ⟨fun _ _ _ _ _ r h => by simp [serinetteref14_Best.j0] at h, fun _ _ _ _ _ r h => by simp [serinetteref14_Best.l0] at h⟩
  | k + 1 => by
    obtain ⟨ih0, ih1⟩ := serinetteref14_Best.mono_l k
    refine ⟨?_, ?_⟩
    · intro y0 y1 y2 y3 y4
      unfold serinetteref14_Best.j0
      repeat' first
      | (with_reducible exact ih0 _ _ _ _ _)
      | (with_reducible exact ih1 _ _ _ _ _)
      | (with_reducible exact serinetteref13_Near.mono _ _)
      | (with_reducible exact serinetteref14_Bits.mono _ _ _ _ _ _)
      | (with_reducible exact serinetteref14_Plans.mono _ _ _ _ _)
      | (with_reducible exact LeO.refl _)
      | (with_reducible exact LeO.none _)
      | (with_reducible refine LeO.ite ?_ ?_)
      | (with_reducible refine LeO.bind ?_ (fun _ => ?_))
      | exact ih0 _ _ _ _ _
      | exact ih1 _ _ _ _ _
      | exact serinetteref13_Near.mono _ _
      | exact serinetteref14_Bits.mono _ _ _ _ _ _
      | exact serinetteref14_Plans.mono _ _ _ _ _
      | exact LeO.none _
      | refine LeO.ite ?_ ?_
      | refine LeO.bind ?_ (fun _ => ?_)
    · intro y0 y1 y2 y3 y4
      unfold serinetteref14_Best.l0
      repeat' first
      | (with_reducible exact ih0 _ _ _ _ _)
      | (with_reducible exact ih1 _ _ _ _ _)
      | (with_reducible exact serinetteref13_Near.mono _ _)
      | (with_reducible exact serinetteref14_Bits.mono _ _ _ _ _ _)
      | (with_reducible exact serinetteref14_Plans.mono _ _ _ _ _)
      | (with_reducible exact LeO.refl _)
      | (with_reducible exact LeO.none _)
      | (with_reducible refine LeO.ite ?_ ?_)
      | (with_reducible refine LeO.bind ?_ (fun _ => ?_))
      | exact ih0 _ _ _ _ _
      | exact ih1 _ _ _ _ _
      | exact serinetteref13_Near.mono _ _
      | exact serinetteref14_Bits.mono _ _ _ _ _ _
      | exact serinetteref14_Plans.mono _ _ _ _ _
      | exact LeO.none _
      | refine LeO.ite ?_ ?_
      | refine LeO.bind ?_ (fun _ => ?_)
theorem serinetteref14_Best.mono : ∀ a0 a1 a2 a3 k, LeO (serinetteref14_Best.f k a0 a1 a2 a3) (serinetteref14_Best.f (k + 1) a0 a1 a2 a3) := by
  intro a0 a1 a2 a3 k
  obtain ⟨ih0, ih1⟩ := serinetteref14_Best.mono_l k
  unfold serinetteref14_Best.f
  repeat' first
      | (with_reducible exact ih0 _ _ _ _ _)
      | (with_reducible exact ih1 _ _ _ _ _)
      | (with_reducible exact serinetteref13_Near.mono _ _)
      | (with_reducible exact serinetteref14_Bits.mono _ _ _ _ _ _)
      | (with_reducible exact serinetteref14_Plans.mono _ _ _ _ _)
      | (with_reducible exact LeO.refl _)
      | (with_reducible exact LeO.none _)
      | (with_reducible refine LeO.ite ?_ ?_)
      | (with_reducible refine LeO.bind ?_ (fun _ => ?_))
      | exact ih0 _ _ _ _ _
      | exact ih1 _ _ _ _ _
      | exact serinetteref13_Near.mono _ _
      | exact serinetteref14_Bits.mono _ _ _ _ _ _
      | exact serinetteref14_Plans.mono _ _ _ _ _
      | exact LeO.none _
      | refine LeO.ite ?_ ?_
      | refine LeO.bind ?_ (fun _ => ?_)
def serinetteref14_Best.T13 : Bool × List (List Nat × List Nat) := (true, [([], []), ([], []), ([], []), ([], []), ([2, 3], [2, 3]), ([4], [4]), ([0, 1, 5], [0, 1, 5]), ([], []), ([], []), ([], []), ([], []), ([9, 10], [9, 10]), ([11], [11]), ([7, 8, 12, 6], [7, 8, 12]), ([6, 13], [6, 13])])
def serinetteref14_Best.B13 : List Nat := [0, 0, 0, 0, 12, 28, 63, 0, 0, 0, 0, 1536, 3584, 8191, 16383]
theorem serinetteref14_Best.tab13 : rtab .any (opsOf Try.f10 13) = serinetteref14_Best.T13 := by kernel_rfl
theorem serinetteref14_Best.bits13 : waitsOk serinetteref14_Best.T13.2 serinetteref14_Best.B13 = true := by kernel_rfl
def serinetteref14_Best.T15 : Bool × List (List Nat × List Nat) := (true, [([], []), ([], []), ([0, 1], [0, 1]), ([2], [2]), ([], []), ([], []), ([], []), ([], []), ([6, 7], [6, 7]), ([8], [8]), ([4, 5, 9], [4, 5, 9]), ([3, 10, 0, 1, 2, 3], [3]), ([10, 11, 0, 1, 2, 3, 4, 5, 6, 7, 8, 9, 10, 11], [10]), ([12, 0, 1, 2, 3, 4, 5, 6, 7, 8, 9, 10, 11, 12], [])])
def serinetteref14_Best.B15 : List Nat := [0, 0, 3, 7, 0, 0, 0, 0, 192, 448, 1008, 2047, 4095, 8191]
theorem serinetteref14_Best.tab15 : rtab .any (opsOf Try.f10 15) = serinetteref14_Best.T15 := by kernel_rfl
theorem serinetteref14_Best.bits15 : waitsOk serinetteref14_Best.T15.2 serinetteref14_Best.B15 = true := by kernel_rfl
set_option maxHeartbeats 8000000 in
set_option maxRecDepth 100000 in
theorem serinetteref14_Best.calls (k : Nat) (P0_ : Nat → Prop) (A0 : Option Addr) (c0 : Nat) (l0 : List Int) (a1 : Int) (a2 : Int) (a3 : Bool) (r1 : Bool) (r2 : Int) (r3 : List (S39)) (r4 : Int) (r5 : Int) (w : World) (hs0 : Kd.V (Kd.int .i64) 3 w w.heap.size (fun k_ => P0_ k_) (.slice A0 l0.length c0) l0) (h : serinetteref14_Best.f k l0 a1 a2 a3 = some (r1, r2, r3, r4, r5)) :
    Calls Try.prog 10 #[.slice A0 l0.length c0, .int .i64 a1, .int .i64 a2, .bool a3] w fun e w' => ∃ v2_ : Value, e = .returned (.tuple #[.agg #[.bool r1, .int .i64 r2, v2_], .int .i64 r4, .int .i64 r5]) ∧ Kd.V k39 39 w' w.heap.size (fun k_ => (P0_ k_ ∨ w.heap.size ≤ k_)) v2_ r3 ∧ Below w.heap.size w w' := by
  have hu26 := Try.underlying26
  have HO0 := Aside0.mk (show Kd.V (Kd.int .i64) 3 w w.heap.size (fun k_ => (P0_ k_ ∨ w.heap.size ≤ k_)) (.slice A0 l0.length c0) l0 from Kd.V_mono hs0 (fun k_ hk => .inl hk))
  have HB := Aside0.mk (Below.refl w.heap.size w)
  have H : (if a1 < 0 then (serinetteref14_Best.j0 k l0 a1 a2 a3 true) else (if a1 > 32 then (serinetteref14_Best.j0 k l0 a1 a2 a3 true) else (if a2 < 0 then (serinetteref14_Best.j0 k l0 a1 a2 a3 true) else (serinetteref14_Best.j0 k l0 a1 a2 a3 (decide (a2 > 8)))))) = some (r1, r2, r3, r4, r5) := h
  clear h
  have HC5 := Aside0.mk H
  clear H
  go_enter Try.func10, Try.ntmps10
  go_upto_region 1 with (first | ((with_reducible refine gate_dst (N := 8) rfl ?_); refine box_event ?hg (N := 8) ?hd (cs := #[.bool false, .int .i64 0, .slice none 0 0]) (t := 26) ?hr ?_; (case hd => rfl); (case hg => rfl); (case hr => first | (go_simp; done) | (go_simp; rfl)); intro gb255 hg w6 hbox hb; have n0_ := Aside0.mk (Kd.V_below (Kd.V_elderB (by (with_reducible repeat (first | apply Kd.V_alloc | apply Kd.V_drewN | apply Kd.V_drew)); exact HO0.out) gb255 (Nat.le_of_eq hg.symm)) hb); have n1_ := Aside0.mk (below_step (by repeat (first | (with_reducible first | exact HB.out | apply below_alloc | apply pw_below_drewN | apply below_drew1) | exact HB.out)) hb); have n2_ := Aside0.mk (hbox); have n3_ := Aside0.mk ((by rw [hg]; exact (below_size (by repeat (first | (with_reducible first | exact HB.out | apply below_alloc | apply pw_below_drewN | apply below_drew1) | exact HB.out))) : w.heap.size ≤ gb255)); have n4_ := Aside0.mk ((by rw [hg]; exact (below_size (by repeat (first | (with_reducible first | exact HB.out | apply below_alloc | apply pw_below_drewN | apply below_drew1) | exact HB.out))) : w.heap.size ≤ gb255)); clear HO0; clear HB; have HO0 := n0_; have HB := n1_; have BK255 := n2_; have GW255 := n3_; have GE255 := n4_; clear n0_ n1_ n2_ n3_ n4_; clear hb hbox hg))
  (try simp only [Act.put, List.setIfInBounds_toArray, List.set_cons_zero, List.set_cons_succ])
  go_cut [28] (fun v28 wc => ∃ (kq : Nat) (x28_4 : Bool), v28 = .bool x28_4 ∧ Aside0 (serinetteref14_Best.j0 kq l0 a1 a2 a3 x28_4 = some (r1, r2, r3, r4, r5)) ∧ Aside0 (kq ≤ k) ∧ Aside0 (Kd.V (Kd.int .i64) 3 wc w.heap.size (fun k_ => (P0_ k_ ∨ w.heap.size ≤ k_) ∧ k_ ≠ gb255) (.slice A0 l0.length c0) l0) ∧ Aside0 (wc.heap[gb255]? = some (.cells #[.bool false, .int .i64 0, (.slice none 0 0)] 26 (0, 0))) ∧ Aside0 (Below w.heap.size w wc))
  case first =>
    have H := HC5.out
    clear HC5
    by_cases c7 : a1 < 0
    · rw [if_pos c7] at H
      have c7b0 : decide (a1 < 0) = true := decide_eq_true c7
      clear c7
      (first | rw [c7b0] | (simp only [i64_w, i32_w]; rw [c7b0]) | skip)
      have H' := Aside0.mk H
      clear H
      go_wp2
      go_meet
      case rel => exact ⟨_, (true), (by first | rfl | (simp; done) | (simp only [i64_w, i32_w]; done) | (simp [*]; done) | (simp only [i64_w, i32_w]; first | rfl | (simp; done) | (simp [*]; done))), H', ⟨by first | omega | exact Nat.le_refl _⟩, ⟨by (with_reducible repeat (first | apply Kd.V_alloc | apply Kd.V_drewN | apply Kd.V_drew)); exact HO0.out⟩, ⟨by (with_reducible repeat (first | refine blk_drewN ?_ _ | refine blk_drew ?_ | refine blk_alloc ?_ _)); exact BK255.out⟩, ⟨by repeat (first | (with_reducible first | exact HB.out | apply below_alloc | apply pw_below_drewN | apply below_drew1 | refine below_set ?_ GE255.out) | exact HB.out)⟩⟩
    · rw [if_neg c7] at H
      have c7b0 : decide (a1 < 0) = false := decide_eq_false c7
      clear c7
      (first | rw [c7b0] | (simp only [i64_w, i32_w]; rw [c7b0]) | skip)
      by_cases c8 : a1 > 32
      · rw [if_pos c8] at H
        have c8b0 : decide (32 < a1) = true := decide_eq_true c8
        clear c8
        have H' := Aside0.mk H
        clear H
        go_wp2
        go_meet
        case rel => exact ⟨_, (true), (by first | rfl | (simp; done) | (simp only [i64_w, i32_w]; done) | (simp [*]; done) | (simp only [i64_w, i32_w]; first | rfl | (simp; done) | (simp [*]; done))), H', ⟨by first | omega | exact Nat.le_refl _⟩, ⟨by (with_reducible repeat (first | apply Kd.V_alloc | apply Kd.V_drewN | apply Kd.V_drew)); exact HO0.out⟩, ⟨by (with_reducible repeat (first | refine blk_drewN ?_ _ | refine blk_drew ?_ | refine blk_alloc ?_ _)); exact BK255.out⟩, ⟨by repeat (first | (with_reducible first | exact HB.out | apply below_alloc | apply pw_below_drewN | apply below_drew1 | refine below_set ?_ GE255.out) | exact HB.out)⟩⟩
      · rw [if_neg c8] at H
        have c8b0 : decide (32 < a1) = false := decide_eq_false c8
        clear c8
        by_cases c9 : a2 < 0
        · rw [if_pos c9] at H
          have c9b0 : decide (a2 < 0) = true := decide_eq_true c9
          clear c9
          have H' := Aside0.mk H
          clear H
          go_wp2
          go_meet
          case rel => exact ⟨_, (true), (by first | rfl | (simp; done) | (simp only [i64_w, i32_w]; done) | (simp [*]; done) | (simp only [i64_w, i32_w]; first | rfl | (simp; done) | (simp [*]; done))), H', ⟨by first | omega | exact Nat.le_refl _⟩, ⟨by (with_reducible repeat (first | apply Kd.V_alloc | apply Kd.V_drewN | apply Kd.V_drew)); exact HO0.out⟩, ⟨by (with_reducible repeat (first | refine blk_drewN ?_ _ | refine blk_drew ?_ | refine blk_alloc ?_ _)); exact BK255.out⟩, ⟨by repeat (first | (with_reducible first | exact HB.out | apply below_alloc | apply pw_below_drewN | apply below_drew1 | refine below_set ?_ GE255.out) | exact HB.out)⟩⟩
        · rw [if_neg c9] at H
          have c9b0 : decide (a2 < 0) = false := decide_eq_false c9
          clear c9
          have H' := Aside0.mk H
          clear H
          go_wp2
          go_meet
          case rel => exact ⟨_, (decide (a2 > 8)), (by first | rfl | (simp; done) | (simp only [i64_w, i32_w]; done) | (simp [*]; done) | (simp only [i64_w, i32_w]; first | rfl | (simp; done) | (simp [*]; done))), H', ⟨by first | omega | exact Nat.le_refl _⟩, ⟨by (with_reducible repeat (first | apply Kd.V_alloc | apply Kd.V_drewN | apply Kd.V_drew)); exact HO0.out⟩, ⟨by (with_reducible repeat (first | refine blk_drewN ?_ _ | refine blk_drew ?_ | refine blk_alloc ?_ _)); exact BK255.out⟩, ⟨by repeat (first | (with_reducible first | exact HB.out | apply below_alloc | apply pw_below_drewN | apply below_drew1 | refine below_set ?_ GE255.out) | exact HB.out)⟩⟩
  case rest =>
    clear HC5
    try clear c1
    try clear p2
    try clear c7
    try clear c7b0
    try clear c8
    try clear c8b0
    try clear c9
    try clear c9b0
    obtain ⟨kq, x28_4, rfl, HA, HJ4, HO_0, BK255, HB⟩ := hcut
    cases kq with
    | zero => exact absurd HA.out (by simp [serinetteref14_Best.j0])
    | succ kj4 =>
      have H := HA.out
      clear HA
      simp only [serinetteref14_Best.j0] at H
      by_cases c10 : x28_4 = true
      · subst c10
        have H1 : (some (false, 0, ([] : List (S39)), 0, 1)) = some (r1, r2, r3, r4, r5) := by rw [if_pos rfl] at H; exact H
        clear H
        have H := H1
        clear H1
        simp only [Option.some.injEq, Prod.mk.injEq] at H
        obtain ⟨rfl, rfl, rfl, rfl, rfl⟩ := H
        have hcz11_0 : wc.cell? ⟨gb255, 0, none⟩ = some (.bool false) := (blk_cell BK255.out 0).trans rfl
        have hcz11_1 : wc.cell? ⟨gb255, 1, none⟩ = some (.int .i64 0) := (blk_cell BK255.out 1).trans rfl
        have hcz11_2 : wc.cell? ⟨gb255, 2, none⟩ = some (.slice none 0 0) := (blk_cell BK255.out 2).trans rfl
        have hfz11_0 := blk_frozen BK255.out 0
        have hfz11_1 := blk_frozen BK255.out 1
        have hfz11_2 := blk_frozen BK255.out 2
        go_wp2
        refine bodyPost_ret (results_ctt rfl _ _ gb255 26 #[.bool false, .int .i64 0, .slice none 0 0] (0, 0) _ rfl (by (with_reducible repeat (first | refine blk_drewN ?_ _ | refine blk_drew ?_ | refine blk_alloc ?_ _)); refine blk_put (cs := #[.bool false, .int .i64 0, .slice none 0 0]) ?_ 2 _ rfl; (with_reducible repeat (first | refine blk_drewN ?_ _ | refine blk_drew ?_ | refine blk_alloc ?_ _)); refine blk_put (cs := #[.bool false, .int .i64 0, .slice none 0 0]) ?_ 1 _ rfl; (with_reducible repeat (first | refine blk_drewN ?_ _ | refine blk_drew ?_ | refine blk_alloc ?_ _)); refine blk_put (cs := #[.bool false, .int .i64 0, .slice none 0 0]) ?_ 0 _ rfl; (with_reducible repeat (first | refine blk_drewN ?_ _ | refine blk_drew ?_ | refine blk_alloc ?_ _)); exact BK255.out) Try.underlying26 rfl (by kernel_rfl)) rfl ?_
        exact ⟨_, by first | rfl | (simp [errW_none, errW_some] <;> rfl) | (simp [*, errW_none, errW_some] <;> rfl), (by first | exact Kd.V_nil _ _ _ _ _ | exact Kd.V_mono (Kd.R_V (by first | exact Kd.R_nil _ _ _ _ _ | exact Kd.N_nil _ _ _ _ _ | exact Kd.V_nil _ _ _ _ _ | exact Kd.Q_nil _ _ _ _ _ | exact Kd.S_nil _ _ _ _ _)) (fun k_ hk => by first | exact ⟨(.inr (hk.1)), hk.2⟩ | exact (.inr (hk)))), by repeat (first | (with_reducible first | exact HB.out | apply below_alloc | apply pw_below_drewN | apply below_drew1 | refine below_set ?_ GE255.out) | exact HB.out)⟩
      · replace c10 := Bool.eq_false_iff.mpr c10
        subst c10
        have H1 : (if (l0.length : Int) = 0 then (some (false, 0, ([] : List (S39)), 0, 2)) else ((serinetteref13_Near.f kj4 l0).bind fun t256 => (if t256 = true then ((serinetteref14_Plans.f kj4 l0 a1 a2 a3).bind fun t257 => (serinetteref14_Best.l0 kj4 l0 a1 t257 0 1)) else (some (false, 0, ([] : List (S39)), 0, 6))))) = some (r1, r2, r3, r4, r5) := by rw [if_neg (show ¬ (false = true) by decide)] at H; exact H
        clear H
        have H := H1
        clear H1
        by_cases c12 : (l0.length : Int) = 0
        · rw [if_pos c12] at H
          have c12b0 : ((l0.length : Int) == 0) = true := beq_iff_eq.mpr c12
          have c12b1 : ((l0.length : Int) != 0) = false := bne_eq_false_iff_eq.mpr c12
          clear c12
          simp only [Option.some.injEq, Prod.mk.injEq] at H
          obtain ⟨rfl, rfl, rfl, rfl, rfl⟩ := H
          have hcz13_0 : wc.cell? ⟨gb255, 0, none⟩ = some (.bool false) := (blk_cell BK255.out 0).trans rfl
          have hcz13_1 : wc.cell? ⟨gb255, 1, none⟩ = some (.int .i64 0) := (blk_cell BK255.out 1).trans rfl
          have hcz13_2 : wc.cell? ⟨gb255, 2, none⟩ = some (.slice none 0 0) := (blk_cell BK255.out 2).trans rfl
          have hfz13_0 := blk_frozen BK255.out 0
          have hfz13_1 := blk_frozen BK255.out 1
          have hfz13_2 := blk_frozen BK255.out 2
          go_wp2
          refine bodyPost_ret (results_ctt rfl _ _ gb255 26 #[.bool false, .int .i64 0, .slice none 0 0] (0, 0) _ rfl (by (with_reducible repeat (first | refine blk_drewN ?_ _ | refine blk_drew ?_ | refine blk_alloc ?_ _)); refine blk_put (cs := #[.bool false, .int .i64 0, .slice none 0 0]) ?_ 2 _ rfl; (with_reducible repeat (first | refine blk_drewN ?_ _ | refine blk_drew ?_ | refine blk_alloc ?_ _)); refine blk_put (cs := #[.bool false, .int .i64 0, .slice none 0 0]) ?_ 1 _ rfl; (with_reducible repeat (first | refine blk_drewN ?_ _ | refine blk_drew ?_ | refine blk_alloc ?_ _)); refine blk_put (cs := #[.bool false, .int .i64 0, .slice none 0 0]) ?_ 0 _ rfl; (with_reducible repeat (first | refine blk_drewN ?_ _ | refine blk_drew ?_ | refine blk_alloc ?_ _)); exact BK255.out) Try.underlying26 rfl (by kernel_rfl)) rfl ?_
          exact ⟨_, by first | rfl | (simp [errW_none, errW_some] <;> rfl) | (simp [*, errW_none, errW_some] <;> rfl), (by first | exact Kd.V_nil _ _ _ _ _ | exact Kd.V_mono (Kd.R_V (by first | exact Kd.R_nil _ _ _ _ _ | exact Kd.N_nil _ _ _ _ _ | exact Kd.V_nil _ _ _ _ _ | exact Kd.Q_nil _ _ _ _ _ | exact Kd.S_nil _ _ _ _ _)) (fun k_ hk => by first | exact ⟨(.inr (hk.1)), hk.2⟩ | exact (.inr (hk)))), by repeat (first | (with_reducible first | exact HB.out | apply below_alloc | apply pw_below_drewN | apply below_drew1 | refine below_set ?_ GE255.out) | exact HB.out)⟩
        · rw [if_neg c12] at H
          have c12b0 : ((l0.length : Int) == 0) = false := beq_eq_false_iff_ne.mpr c12
          have c12b1 : ((l0.length : Int) != 0) = true := bne_iff_ne.mpr c12
          have c12b2 : ¬ (l0 = []) := fun h_ => c12 (by rw [h_]; rfl)
          replace H := Option.bind_eq_some_iff.mp H
          obtain ⟨t256, A140, H⟩ := H
          replace H : (if t256 = true then ((serinetteref14_Plans.f kj4 l0 a1 a2 a3).bind fun t257 => (serinetteref14_Best.l0 kj4 l0 a1 t257 0 1)) else (some (false, 0, ([] : List (S39)), 0, 6))) = some (r1, r2, r3, r4, r5) := H
          have A14 := Aside0.mk A140
          clear A140
          by_cases c15 : t256 = true
          · subst c15
            have H1 : ((serinetteref14_Plans.f kj4 l0 a1 a2 a3).bind fun t257 => (serinetteref14_Best.l0 kj4 l0 a1 t257 0 1)) = some (r1, r2, r3, r4, r5) := by rw [if_pos rfl] at H; exact H
            clear H
            have H := H1
            clear H1
            replace H := Option.bind_eq_some_iff.mp H
            obtain ⟨t257, A160, H⟩ := H
            replace H : (serinetteref14_Best.l0 kj4 l0 a1 t257 0 1) = some (r1, r2, r3, r4, r5) := H
            have A16 := Aside0.mk A160
            clear A160
            have H' := Aside0.mk H
            clear H
            go_wp2_with (first | ((with_reducible refine gate_callee (f := 13) rfl ?_); refine goesL_ (some 35) rfl rfl Try.func13 (by kernel_rfl) rfl #[.slice A0 l0.length c0] rfl (by (try simp only [List.map_toArray, List.map_cons, List.map_nil]); first | done | rfl | (simp only [List.length_drop, List.length_take]; rfl)) ?_; (with_reducible refine (serinetteref13_Near.calls kj4 _ _ l0 true _ ?side1 ?side2 A14.out).mono ?_); (case side1 => repeat (first | exact (Kd.V_reads' HO_0.out).2.2 | (with_reducible refine Kd.C_alloc ?_ _) | (with_reducible refine Kd.C_drewN ?_ _) | (with_reducible refine Kd.C_drew ?_))); (case side2 => exact (Kd.V_reads' HO_0.out).2.1); rintro e w' ⟨rfl, ⟨nd, rfl⟩⟩; refine ⟨_, rfl, ?_⟩) | ((with_reducible refine gate_callee (f := 20) rfl ?_); refine goesL_ (some 43) rfl rfl Try.func20 (by kernel_rfl) rfl #[.slice A0 l0.length c0, .int .i64 a1, .int .i64 a2, .bool a3] rfl (by (try simp only [List.map_toArray, List.map_cons, List.map_nil]); first | done | rfl | (simp only [List.length_drop, List.length_take]; rfl)) ?_; (with_reducible refine (serinetteref14_Plans.calls kj4 (fun k_ => ((P0_ k_ ∨ w.heap.size ≤ k_) ∧ k_ ≠ gb255)) _ _ l0 a1 a2 a3 t257 _ ?side1 A16.out).mono ?_); (case side1 => exact HO_0.out); rintro e w17 ⟨v258, rfl, ho0, hb⟩; refine ⟨_, rfl, ?_⟩; have n0_ := Aside0.mk (Kd.V_elder' (by (with_reducible repeat (first | apply Kd.V_alloc | apply Kd.V_drewN | apply Kd.V_drew)); exact HO_0.out) (Kd.N_base ho0) hb); have n1_ := Aside0.mk (Kd.N_lower (Kd.N_mono (ok' := fun k_ => (P0_ k_ ∨ w.heap.size ≤ k_) ∧ k_ ≠ gb255) ho0 (fun k_ hk_ => ⟨Or.elim hk_ (fun hs_ => hs_.1) (fun hn_ => (.inr (Nat.le_trans (below_size (by repeat (first | (with_reducible first | exact HB.out | apply below_alloc | apply pw_below_drewN | apply below_drew1 | refine below_set ?_ GE255.out) | exact HB.out))) hn_))), Or.elim hk_ (fun hs_ => hs_.2) (fun hn_ => (Kd.freshB (g := gb255) (o := .cells #[.bool false, .int .i64 0, .slice none 0 0] 26 (0, 0)) (by (with_reducible repeat (first | refine blk_drewN ?_ _ | refine blk_drew ?_ | refine blk_alloc ?_ _)); exact BK255.out) k_ hn_))⟩)) (below_size (by repeat (first | (with_reducible first | exact HB.out | apply below_alloc | apply pw_below_drewN | apply below_drew1 | refine below_set ?_ GE255.out) | exact HB.out)))); have n2_ := Aside0.mk (blk_below (g := gb255) (o := .cells #[.bool false, .int .i64 0, .slice none 0 0] 26 (0, 0)) (by (with_reducible repeat (first | refine blk_drewN ?_ _ | refine blk_drew ?_ | refine blk_alloc ?_ _)); exact BK255.out) hb); have n3_ := Aside0.mk (below_step (by repeat (first | (with_reducible first | exact HB.out | apply below_alloc | apply pw_below_drewN | apply below_drew1 | refine below_set ?_ GE255.out) | exact HB.out)) hb); clear HO_0; clear BK255; clear HB; have HO_0 := n0_; have HO259 := n1_; have BK255 := n2_; have HB := n3_; clear n0_ n1_ n2_ n3_; (try clear hb); (try clear hb2); (try clear hk); (try clear hi); (try clear ho0)))
            go_loopg [13, 14] kj4 (fun kq v13 v14 w' => ∃ (x13_2 : Int) (x14_2 : Int), v13 = .int .i64 x13_2 ∧ v14 = .int .i64 x14_2 ∧ Aside0 (serinetteref14_Best.l0 kq l0 a1 t257 x13_2 x14_2 = some (r1, r2, r3, r4, r5)) ∧ Aside0 (kq ≤ kj4) ∧ Aside0 (Kd.V (Kd.int .i64) 3 w' w.heap.size (fun k_ => (P0_ k_ ∨ w.heap.size ≤ k_) ∧ some k_ ≠ (v258 : Value).ownBlock ∧ k_ ≠ gb255) (.slice A0 l0.length c0) l0) ∧ Aside0 (Kd.N k26 26 w' w.heap.size (fun k_ => (P0_ k_ ∨ w.heap.size ≤ k_) ∧ k_ ≠ gb255) v258 t257) ∧ Aside0 (w'.heap[gb255]? = some (.cells #[.bool false, .int .i64 0, (.slice none 0 0)] 26 (0, 0))) ∧ Aside0 (Below w.heap.size w w'))
            case atStart => exact ⟨(0), (1), (by first | rfl | (simp; done) | (simp only [i64_w, i32_w]; done) | (simp [*]; done) | (simp only [i64_w, i32_w]; first | rfl | (simp; done) | (simp [*]; done))), (by first | rfl | (simp; done) | (simp only [i64_w, i32_w]; done) | (simp [*]; done) | (simp only [i64_w, i32_w]; first | rfl | (simp; done) | (simp [*]; done))), H', ⟨Nat.le_refl _⟩, ⟨by (with_reducible repeat (first | apply Kd.V_alloc | apply Kd.V_drewN | apply Kd.V_drew)); exact Kd.V_mono HO_0.out (fun _ hk => ⟨hk.1.1, ⟨hk.2, hk.1.2⟩⟩)⟩, ⟨by (with_reducible repeat (first | apply Kd.N_alloc | apply Kd.N_drewN | apply Kd.N_drew)); exact HO259.out⟩, ⟨by (with_reducible repeat (first | refine blk_drewN ?_ _ | refine blk_drew ?_ | refine blk_alloc ?_ _)); exact BK255.out⟩, ⟨by repeat (first | (with_reducible first | exact HB.out | apply below_alloc | apply pw_below_drewN | apply below_drew1 | refine below_set ?_ GE255.out) | exact HB.out)⟩⟩
            case round =>
              clear H'
              try clear c1
              try clear c2
              try clear p2
              try clear c7
              try clear c7b0
              try clear c8
              try clear c8b0
              try clear c9
              try clear c9b0
              try clear c10
              try clear c12
              try clear c12b0
              try clear c12b1
              try clear c12b2
              try clear c13
              try clear c15
              try clear hcz11_0
              try clear hcz11_1
              try clear hcz11_2
              try clear hcz13_0
              try clear hcz13_1
              try clear hcz13_2
              try clear hfz11_0
              try clear hfz11_1
              try clear hfz11_2
              try clear hfz13_0
              try clear hfz13_1
              try clear hfz13_2
              try clear p2
              obtain ⟨x13_2, x14_2, rfl, rfl, HA, HK2, HO_0, HO_12, BK255, HB⟩ := hrel
              cases gk with
              | zero => exact absurd HA.out (by simp [serinetteref14_Best.l0])
              | succ k2 =>
                have H := HA.out
                clear HA
                simp only [serinetteref14_Best.l0] at H
                by_cases c18 : x14_2 < (t257.length : Int)
                · rw [if_pos c18] at H
                  have c18b0 : decide (x14_2 < (t257.length : Int)) = true := decide_eq_true c18
                  clear c18
                  by_cases c19 : 0 ≤ x14_2
                  · rw [if_pos c19] at H
                    have c19b0 : decide (0 ≤ x14_2) = true := decide_eq_true c19
                    clear c19
                    replace H := Option.bind_eq_some_iff.mp H
                    obtain ⟨t264, A200, H⟩ := H
                    replace H : (if 0 ≤ x13_2 then (if x13_2 < (t257.length : Int) then ((serinetteref14_Bits.f k2 l0 a1 ((rd_T26 t257 x13_2).f0) ((rd_T26 t257 x13_2).f1) ((rd_T26 t257 x13_2).f2)).bind fun t266 => (if t264 < t266 then (serinetteref14_Best.l0 k2 l0 a1 t257 x14_2 (wrap64 (x14_2 + 1))) else (serinetteref14_Best.l0 k2 l0 a1 t257 x13_2 (wrap64 (x14_2 + 1))))) else (none)) else (none)) = some (r1, r2, r3, r4, r5) := H
                    have A20 := Aside0.mk A200
                    clear A200
                    by_cases c21 : 0 ≤ x13_2
                    · rw [if_pos c21] at H
                      have c21b0 : decide (0 ≤ x13_2) = true := decide_eq_true c21
                      clear c21
                      by_cases c22 : x13_2 < (t257.length : Int)
                      · rw [if_pos c22] at H
                        have c22b0 : decide (x13_2 < (t257.length : Int)) = true := decide_eq_true c22
                        clear c22
                        replace H := Option.bind_eq_some_iff.mp H
                        obtain ⟨t266, A230, H⟩ := H
                        replace H : (if t264 < t266 then (serinetteref14_Best.l0 k2 l0 a1 t257 x14_2 (wrap64 (x14_2 + 1))) else (serinetteref14_Best.l0 k2 l0 a1 t257 x13_2 (wrap64 (x14_2 + 1)))) = some (r1, r2, r3, r4, r5) := H
                        have A23 := Aside0.mk A230
                        clear A230
                        by_cases c24 : t264 < t266
                        · rw [if_pos c24] at H
                          have c24b0 : decide (t264 < t266) = true := decide_eq_true c24
                          clear c24
                          have H' := Aside0.mk H
                          clear H
                          obtain ⟨Ao25, co25, eo25⟩ := Kd.N_slice HO_12.out
                          subst eo25
                          try go_wp2
                          have n0_ := Aside0.mk (Kd.V_drew HO_0.out)
                          have n1_ := Aside0.mk (Kd.N_drew HO_12.out)
                          have n2_ := Aside0.mk (blk_drew BK255.out)
                          have n3_ := Aside0.mk (below_drew1 HB.out)
                          clear HO_0
                          clear HO_12
                          clear BK255
                          clear HB
                          have HO_0 := n0_
                          have HO_12 := n1_
                          have BK255 := n2_
                          have HB := n3_
                          clear n0_ n1_ n2_ n3_
                          have p263 : 0 ≤ (x14_2 : Int) := of_decide_eq_true (by first | (with_reducible assumption) | assumption)
                          have q263 : x14_2 < (t257.length : Int) := of_decide_eq_true (by first | (with_reducible assumption) | assumption)
                          obtain ⟨ad263, A263_2, c263_2, e263, hx263_0, hx263_1, hx263_2, hl263_2, hi263_2⟩ := at_T26 (Kd.N_reads' HO_12.out).2.2 x14_2 p263 q263
                          cases e263
                          obtain ⟨ce263, hce263, hMe263, hcc263⟩ := Kd.N_get HO_12.out z26 x14_2 p263 (by first | exact q263 | exact of_decide_eq_true (by first | (with_reducible assumption) | assumption) | (have e_ := (Kd.N_reads' HO_12.out).1; omega))
                          obtain ⟨ua263_2, uc263_2, rfl, ul263_2, ge263_2⟩ := k26_openF hMe263
                          have hv263_2 := hcc263 2 _ rfl
                          rw [add_field _ _ 2 (by omega)] at hv263_2
                          replace hv263_2 := Option.some.inj (hv263_2.symm.trans hx263_2)
                          injection hv263_2 with hva_ hvn_ hvc_
                          rw [hva_] at ge263_2
                          rw [hvc_] at ul263_2
                          have HL263_2 := Aside0.mk (show Kd.V k39 39 _ w.heap.size _ _ ((rd_T26 t257 x14_2).f2) from Kd.V_mk ul263_2 ge263_2)
                          clear hva_ hvn_ hvc_ ge263_2 ul263_2
                          clear hcc263 hce263
                          have HR263_2 := Aside0.mk hi263_2
                          have HC263_2 := Aside0.mk hl263_2
                          clear hi263_2 hl263_2
                          replace p263 := eq_true p263
                          replace q263 := eq_true q263
                          have p265 : 0 ≤ (x13_2 : Int) := of_decide_eq_true (by first | (with_reducible assumption) | assumption)
                          have q265 : x13_2 < (t257.length : Int) := of_decide_eq_true (by first | (with_reducible assumption) | assumption)
                          obtain ⟨ad265, A265_2, c265_2, e265, hx265_0, hx265_1, hx265_2, hl265_2, hi265_2⟩ := at_T26 (Kd.N_reads' HO_12.out).2.2 x13_2 p265 q265
                          obtain rfl : ad263 = ad265 := (by injection e265)
                          obtain ⟨ce265, hce265, hMe265, hcc265⟩ := Kd.N_get HO_12.out z26 x13_2 p265 (by first | exact q265 | exact of_decide_eq_true (by first | (with_reducible assumption) | assumption) | (have e_ := (Kd.N_reads' HO_12.out).1; omega))
                          obtain ⟨ua265_2, uc265_2, rfl, ul265_2, ge265_2⟩ := k26_openF hMe265
                          have hv265_2 := hcc265 2 _ rfl
                          rw [add_field _ _ 2 (by omega)] at hv265_2
                          replace hv265_2 := Option.some.inj (hv265_2.symm.trans hx265_2)
                          injection hv265_2 with hva_ hvn_ hvc_
                          rw [hva_] at ge265_2
                          rw [hvc_] at ul265_2
                          have HL265_2 := Aside0.mk (show Kd.V k39 39 _ w.heap.size _ _ ((rd_T26 t257 x13_2).f2) from Kd.V_mk ul265_2 ge265_2)
                          clear hva_ hvn_ hvc_ ge265_2 ul265_2
                          clear hcc265 hce265
                          have HR265_2 := Aside0.mk hi265_2
                          have HC265_2 := Aside0.mk hl265_2
                          clear hi265_2 hl265_2
                          replace p265 := eq_true p265
                          replace q265 := eq_true q265
                          refine start_ (n := 15) (S := fun w' => w'.cell? (ad263.add ((x14_2).toNat * 3)) = some (.bool ((rd_T26 t257 x14_2).f0)) ∧ w'.cell? ⟨(ad263.add ((x14_2).toNat * 3)).block, (ad263.add ((x14_2).toNat * 3)).off + 1, none⟩ = some (.int .i64 ((rd_T26 t257 x14_2).f1)) ∧ w'.cell? ⟨(ad263.add ((x14_2).toNat * 3)).block, (ad263.add ((x14_2).toNat * 3)).off + 2, none⟩ = some (.slice A263_2 ((rd_T26 t257 x14_2).f2).length c263_2) ∧ w'.cell? (ad263.add ((x13_2).toNat * 3)) = some (.bool ((rd_T26 t257 x13_2).f0)) ∧ w'.cell? ⟨(ad263.add ((x13_2).toNat * 3)).block, (ad263.add ((x13_2).toNat * 3)).off + 1, none⟩ = some (.int .i64 ((rd_T26 t257 x13_2).f1)) ∧ w'.cell? ⟨(ad263.add ((x13_2).toNat * 3)).block, (ad263.add ((x13_2).toNat * 3)).off + 2, none⟩ = some (.slice A265_2 ((rd_T26 t257 x13_2).f2).length c265_2)) (ds := []) #[false, false, false, false, false, false, false, false, false, false, false, false, false, false, false] (by kernel_rfl) rfl rfl ⟨hx263_0, hx263_1, hx263_2, hx265_0, hx265_1, hx265_2⟩ (fun hHeld => ?_); refine with_tabW serinetteref14_Best.tab13 serinetteref14_Best.bits13 (fun HT_ HW_ => ?_)
                          generalize wr.drew = w26 at HO_0 HO_12 BK255 HB HL263_2 HL265_2 HR263_2 HR265_2 hx263_0 hx263_1 hx263_2 hx265_0 hx265_1 hx265_2 hHeld ⊢
                          refine pure_ (i := 0) (N := some 50) (v := ?_) (a' := ?_) #[true, false, false, false, false, false, false, false, false, false, false, false, false, false, false] rfl rfl (any_of HT_.out (by kernel_rfl)) (fun _ _ _ h => h) (Or.inl ⟨by rfl, ?_⟩) ?_ ?_
                          rotate_left
                          · intro w'
                            go_simp
                            with_reducible rfl
                          rotate_left
                          · simp only [Act.put, List.setIfInBounds_toArray, List.set_cons_zero, List.set_cons_succ, i64_w, i32_w]
                            rfl
                          refine pure_ (i := 1) (N := some 51) (v := ?_) (a' := ?_) #[true, true, false, false, false, false, false, false, false, false, false, false, false, false, false] rfl rfl (any_of HT_.out (by kernel_rfl)) (fun _ _ _ h => h) (Or.inl ⟨by rfl, ?_⟩) ?_ ?_
                          rotate_left
                          · intro w'
                            go_simp
                            with_reducible rfl
                          rotate_left
                          · simp only [Act.put, List.setIfInBounds_toArray, List.set_cons_zero, List.set_cons_succ, i64_w, i32_w]
                            rfl
                          refine pure_ (i := 2) (N := some 52) (v := ?_) (a' := ?_) #[true, true, true, false, false, false, false, false, false, false, false, false, false, false, false] rfl rfl (any_of HT_.out (by kernel_rfl)) (fun _ _ _ h => h) (Or.inl ⟨by rfl, ?_⟩) ?_ ?_
                          rotate_left
                          · intro w'
                            go_simp
                            with_reducible rfl
                          rotate_left
                          · simp only [Act.put, List.setIfInBounds_toArray, List.set_cons_zero, List.set_cons_succ, i64_w, i32_w]
                            rfl
                          refine pure_ (i := 3) (N := some 53) (v := ?_) (a' := ?_) #[true, true, true, true, false, false, false, false, false, false, false, false, false, false, false] rfl rfl (any_of HT_.out (by kernel_rfl)) (fun _ _ _ h => h) (Or.inl ⟨by rfl, ?_⟩) ?_ ?_
                          rotate_left
                          · intro w'
                            go_simp
                            with_reducible rfl
                          rotate_left
                          · simp only [Act.put, List.setIfInBounds_toArray, List.set_cons_zero, List.set_cons_succ, i64_w, i32_w]
                            rfl
                          refine pure_ (i := 4) (N := some 54) (v := ?_) (a' := ?_) #[true, true, true, true, true, false, false, false, false, false, false, false, false, false, false] rfl rfl (any_of HT_.out (by kernel_rfl)) (fun _ _ _ h => h) (Or.inl ⟨by rfl, ?_⟩) ?_ ?_
                          rotate_left
                          · intro w'
                            go_simp
                            with_reducible rfl
                          rotate_left
                          · simp only [Act.put, List.setIfInBounds_toArray, List.set_cons_zero, List.set_cons_succ, i64_w, i32_w]
                            rfl
                          refine pure_ (i := 7) (N := some 57) (v := ?_) (a' := ?_) #[true, true, true, true, true, false, false, true, false, false, false, false, false, false, false] rfl rfl (any_of HT_.out (by kernel_rfl)) (fun _ _ _ h => h) (Or.inl ⟨by rfl, ?_⟩) ?_ ?_
                          rotate_left
                          · intro w'
                            go_simp
                            with_reducible rfl
                          rotate_left
                          · simp only [Act.put, List.setIfInBounds_toArray, List.set_cons_zero, List.set_cons_succ, i64_w, i32_w]
                            rfl
                          refine pure_ (i := 8) (N := some 58) (v := ?_) (a' := ?_) #[true, true, true, true, true, false, false, true, true, false, false, false, false, false, false] rfl rfl (any_of HT_.out (by kernel_rfl)) (fun _ _ _ h => h) (Or.inl ⟨by rfl, ?_⟩) ?_ ?_
                          rotate_left
                          · intro w'
                            go_simp
                            with_reducible rfl
                          rotate_left
                          · simp only [Act.put, List.setIfInBounds_toArray, List.set_cons_zero, List.set_cons_succ, i64_w, i32_w]
                            rfl
                          refine pure_ (i := 9) (N := some 59) (v := ?_) (a' := ?_) #[true, true, true, true, true, false, false, true, true, true, false, false, false, false, false] rfl rfl (any_of HT_.out (by kernel_rfl)) (fun _ _ _ h => h) (Or.inl ⟨by rfl, ?_⟩) ?_ ?_
                          rotate_left
                          · intro w'
                            go_simp
                            with_reducible rfl
                          rotate_left
                          · simp only [Act.put, List.setIfInBounds_toArray, List.set_cons_zero, List.set_cons_succ, i64_w, i32_w]
                            rfl
                          refine pure_ (i := 10) (N := some 60) (v := ?_) (a' := ?_) #[true, true, true, true, true, false, false, true, true, true, true, false, false, false, false] rfl rfl (any_of HT_.out (by kernel_rfl)) (fun _ _ _ h => h) (Or.inl ⟨by rfl, ?_⟩) ?_ ?_
                          rotate_left
                          · intro w'
                            go_simp
                            with_reducible rfl
                          rotate_left
                          · simp only [Act.put, List.setIfInBounds_toArray, List.set_cons_zero, List.set_cons_succ, i64_w, i32_w]
                            rfl
                          refine pure_ (i := 11) (N := some 61) (v := ?_) (a' := ?_) #[true, true, true, true, true, false, false, true, true, true, true, true, false, false, false] rfl rfl (any_of HT_.out (by kernel_rfl)) (fun _ _ _ h => h) (Or.inl ⟨by rfl, ?_⟩) ?_ ?_
                          rotate_left
                          · intro w'
                            go_simp
                            with_reducible rfl
                          rotate_left
                          · simp only [Act.put, List.setIfInBounds_toArray, List.set_cons_zero, List.set_cons_succ, i64_w, i32_w]
                            rfl
                          refine take_ (i := 5) (N := some 55) (v := ?_) (a' := ?_) #[true, true, true, true, true, true, false, true, true, true, true, true, false, false, false] rfl rfl (take_ofW HT_.out HW_.out (by kernel_rfl)) (fun _ _ _ h => h) (Or.inl ⟨by rfl, ?_⟩) hHeld ?_ ?_
                          rotate_left
                          · rintro w' ⟨s0, s1, s2, s3, s4, s5⟩
                            go_simp
                            with_reducible rfl
                          rotate_left
                          · simp only [Act.put, List.setIfInBounds_toArray, List.set_cons_zero, List.set_cons_succ, i64_w, i32_w]
                            rfl
                          refine take_ (i := 12) (N := some 62) (v := ?_) (a' := ?_) #[true, true, true, true, true, true, false, true, true, true, true, true, true, false, false] rfl rfl (take_ofW HT_.out HW_.out (by kernel_rfl)) (fun _ _ _ h => h) (Or.inl ⟨by rfl, ?_⟩) hHeld ?_ ?_
                          rotate_left
                          · rintro w' ⟨s0, s1, s2, s3, s4, s5⟩
                            go_simp
                            with_reducible rfl
                          rotate_left
                          · simp only [Act.put, List.setIfInBounds_toArray, List.set_cons_zero, List.set_cons_succ, i64_w, i32_w]
                            rfl
                          refine one_ (i := 6) (N := some 56) #[true, true, true, true, true, true, true, true, true, true, true, true, true, false, false] rfl rfl (one_of HT_.out (by kernel_rfl)) (by decide) (fun K hK => ?_)
                          refine goes_ Try.func21 (by kernel_rfl) rfl #[.slice A0 l0.length c0, .int .i64 a1, .agg #[.bool ((rd_T26 t257 x14_2).f0), .int .i64 ((rd_T26 t257 x14_2).f1), .slice A263_2 ((rd_T26 t257 x14_2).f2).length c263_2]] (by rfl) rfl rfl (by (try simp only [List.map_toArray, List.map_cons, List.map_nil]); first | done | rfl | (simp only [List.length_drop, List.length_take]; rfl)) ?_
                          with_reducible refine (serinetteref14_Bits.calls k2 _ _ l0 a1 ((rd_T26 t257 x14_2).f0) ((rd_T26 t257 x14_2).f1) _ _ ((rd_T26 t257 x14_2).f2) t264 _ ?side1 ?side2 ?side3 ?side4 A20.out).mono ?_
                          (case side1 => repeat (first | exact (Kd.V_reads' HO_0.out).2.2 | (with_reducible refine Kd.C_alloc ?_ _) | (with_reducible refine Kd.C_drewN ?_ _) | (with_reducible refine Kd.C_drew ?_)))
                          (case side2 => exact (Kd.V_reads' HO_0.out).2.1)
                          (case side3 => repeat (first | exact (by repeat (first | (with_reducible exact HR263_2.out) | (with_reducible refine Kd.C_alloc ?_ _) | (with_reducible refine Kd.C_drewN ?_ _) | (with_reducible refine Kd.C_drew ?_) | exact HR263_2.out)) | (with_reducible refine Kd.C_alloc ?_ _) | (with_reducible refine Kd.C_drewN ?_ _) | (with_reducible refine Kd.C_drew ?_)))
                          (case side4 => exact HC263_2.out)
                          rintro e w27 ⟨rfl, hb⟩
                          have HS0_ := (hb.cell (World.block_lt_of_cell? _ _ (hHeld.1))).trans (hHeld.1)
                          have HS1_ := (hb.cell (World.block_lt_of_cell? _ _ (hHeld.2.1))).trans (hHeld.2.1)
                          have HS2_ := (hb.cell (World.block_lt_of_cell? _ _ (hHeld.2.2.1))).trans (hHeld.2.2.1)
                          have HS3_ := (hb.cell (World.block_lt_of_cell? _ _ (hHeld.2.2.2.1))).trans (hHeld.2.2.2.1)
                          have HS4_ := (hb.cell (World.block_lt_of_cell? _ _ (hHeld.2.2.2.2.1))).trans (hHeld.2.2.2.2.1)
                          have HS5_ := (hb.cell (World.block_lt_of_cell? _ _ (hHeld.2.2.2.2.2))).trans (hHeld.2.2.2.2.2)
                          refine ⟨_, rfl, ?_⟩
                          have n0_ := Aside0.mk (Kd.V_below (by (with_reducible repeat (first | apply Kd.V_alloc | apply Kd.V_drewN | apply Kd.V_drew)); exact HO_0.out) hb)
                          have n1_ := Aside0.mk (Kd.N_below (by (with_reducible repeat (first | apply Kd.N_alloc | apply Kd.N_drewN | apply Kd.N_drew)); exact HO_12.out) hb)
                          have n2_ := Aside0.mk (Kd.V_below (by (with_reducible repeat (first | apply Kd.V_alloc | apply Kd.V_drewN | apply Kd.V_drew)); exact HL263_2.out) hb)
                          have n3_ := Aside0.mk (Kd.V_below (by (with_reducible repeat (first | apply Kd.V_alloc | apply Kd.V_drewN | apply Kd.V_drew)); exact HL265_2.out) hb)
                          have n4_ := Aside0.mk (blk_below (g := gb255) (o := .cells #[.bool false, .int .i64 0, .slice none 0 0] 26 (0, 0)) (by (with_reducible repeat (first | refine blk_drewN ?_ _ | refine blk_drew ?_ | refine blk_alloc ?_ _)); exact BK255.out) hb)
                          have n5_ := Aside0.mk (Kd.C_below (by repeat (first | (with_reducible exact HR263_2.out) | (with_reducible refine Kd.C_alloc ?_ _) | (with_reducible refine Kd.C_drewN ?_ _) | (with_reducible refine Kd.C_drew ?_) | exact HR263_2.out)) hb)
                          have n6_ := Aside0.mk (Kd.C_below (by repeat (first | (with_reducible exact HR265_2.out) | (with_reducible refine Kd.C_alloc ?_ _) | (with_reducible refine Kd.C_drewN ?_ _) | (with_reducible refine Kd.C_drew ?_) | exact HR265_2.out)) hb)
                          have n7_ := Aside0.mk (below_step (by repeat (first | (with_reducible first | exact HB.out | apply below_alloc | apply pw_below_drewN | apply below_drew1 | refine below_set ?_ GE255.out) | exact HB.out)) hb)
                          clear HO_0
                          clear HO_12
                          clear HL263_2
                          clear HL265_2
                          clear BK255
                          clear HR263_2
                          clear HR265_2
                          clear HB
                          have HO_0 := n0_
                          have HO_12 := n1_
                          have HL263_2 := n2_
                          have HL265_2 := n3_
                          have BK255 := n4_
                          have HR263_2 := n5_
                          have HR265_2 := n6_
                          have HB := n7_
                          clear n0_ n1_ n2_ n3_ n4_ n5_ n6_ n7_
                          (try clear hb)
                          (try clear hb2)
                          (try clear hk)
                          (try clear hi)
                          refine hK.out _ _ ⟨HS0_, HS1_, HS2_, HS3_, HS4_, HS5_⟩ (fun hHeld => ?_)
                          clear hK K
                          refine norm_ (a' := ?_) ?_ ?_
                          rotate_left
                          · show Act.put _ (some 56) _ = _
                            simp only [Act.put, List.setIfInBounds_toArray, List.set_cons_zero, List.set_cons_succ, i64_w, i32_w]
                            rfl
                          refine one_ (i := 13) (N := some 63) #[true, true, true, true, true, true, true, true, true, true, true, true, true, true, false] rfl rfl (one_of HT_.out (by kernel_rfl)) (by decide) (fun K hK => ?_)
                          refine goes_ Try.func21 (by kernel_rfl) rfl #[.slice A0 l0.length c0, .int .i64 a1, .agg #[.bool ((rd_T26 t257 x13_2).f0), .int .i64 ((rd_T26 t257 x13_2).f1), .slice A265_2 ((rd_T26 t257 x13_2).f2).length c265_2]] (by rfl) rfl rfl (by (try simp only [List.map_toArray, List.map_cons, List.map_nil]); first | done | rfl | (simp only [List.length_drop, List.length_take]; rfl)) ?_
                          with_reducible refine (serinetteref14_Bits.calls k2 _ _ l0 a1 ((rd_T26 t257 x13_2).f0) ((rd_T26 t257 x13_2).f1) _ _ ((rd_T26 t257 x13_2).f2) t266 _ ?side1 ?side2 ?side3 ?side4 A23.out).mono ?_
                          (case side1 => repeat (first | exact (Kd.V_reads' HO_0.out).2.2 | (with_reducible refine Kd.C_alloc ?_ _) | (with_reducible refine Kd.C_drewN ?_ _) | (with_reducible refine Kd.C_drew ?_)))
                          (case side2 => exact (Kd.V_reads' HO_0.out).2.1)
                          (case side3 => repeat (first | exact (by repeat (first | (with_reducible exact HR265_2.out) | (with_reducible refine Kd.C_alloc ?_ _) | (with_reducible refine Kd.C_drewN ?_ _) | (with_reducible refine Kd.C_drew ?_) | exact HR265_2.out)) | (with_reducible refine Kd.C_alloc ?_ _) | (with_reducible refine Kd.C_drewN ?_ _) | (with_reducible refine Kd.C_drew ?_)))
                          (case side4 => exact HC265_2.out)
                          rintro e w28 ⟨rfl, hb⟩
                          have HS0_ := (hb.cell (World.block_lt_of_cell? _ _ (hHeld.1))).trans (hHeld.1)
                          have HS1_ := (hb.cell (World.block_lt_of_cell? _ _ (hHeld.2.1))).trans (hHeld.2.1)
                          have HS2_ := (hb.cell (World.block_lt_of_cell? _ _ (hHeld.2.2.1))).trans (hHeld.2.2.1)
                          have HS3_ := (hb.cell (World.block_lt_of_cell? _ _ (hHeld.2.2.2.1))).trans (hHeld.2.2.2.1)
                          have HS4_ := (hb.cell (World.block_lt_of_cell? _ _ (hHeld.2.2.2.2.1))).trans (hHeld.2.2.2.2.1)
                          have HS5_ := (hb.cell (World.block_lt_of_cell? _ _ (hHeld.2.2.2.2.2))).trans (hHeld.2.2.2.2.2)
                          refine ⟨_, rfl, ?_⟩
                          have n0_ := Aside0.mk (Kd.V_below (by (with_reducible repeat (first | apply Kd.V_alloc | apply Kd.V_drewN | apply Kd.V_drew)); exact HO_0.out) hb)
                          have n1_ := Aside0.mk (Kd.N_below (by (with_reducible repeat (first | apply Kd.N_alloc | apply Kd.N_drewN | apply Kd.N_drew)); exact HO_12.out) hb)
                          have n2_ := Aside0.mk (Kd.V_below (by (with_reducible repeat (first | apply Kd.V_alloc | apply Kd.V_drewN | apply Kd.V_drew)); exact HL263_2.out) hb)
                          have n3_ := Aside0.mk (Kd.V_below (by (with_reducible repeat (first | apply Kd.V_alloc | apply Kd.V_drewN | apply Kd.V_drew)); exact HL265_2.out) hb)
                          have n4_ := Aside0.mk (blk_below (g := gb255) (o := .cells #[.bool false, .int .i64 0, .slice none 0 0] 26 (0, 0)) (by (with_reducible repeat (first | refine blk_drewN ?_ _ | refine blk_drew ?_ | refine blk_alloc ?_ _)); exact BK255.out) hb)
                          have n5_ := Aside0.mk (Kd.C_below (by repeat (first | (with_reducible exact HR263_2.out) | (with_reducible refine Kd.C_alloc ?_ _) | (with_reducible refine Kd.C_drewN ?_ _) | (with_reducible refine Kd.C_drew ?_) | exact HR263_2.out)) hb)
                          have n6_ := Aside0.mk (Kd.C_below (by repeat (first | (with_reducible exact HR265_2.out) | (with_reducible refine Kd.C_alloc ?_ _) | (with_reducible refine Kd.C_drewN ?_ _) | (with_reducible refine Kd.C_drew ?_) | exact HR265_2.out)) hb)
                          have n7_ := Aside0.mk (below_step (by repeat (first | (with_reducible first | exact HB.out | apply below_alloc | apply pw_below_drewN | apply below_drew1 | refine below_set ?_ GE255.out) | exact HB.out)) hb)
                          clear HO_0
                          clear HO_12
                          clear HL263_2
                          clear HL265_2
                          clear BK255
                          clear HR263_2
                          clear HR265_2
                          clear HB
                          have HO_0 := n0_
                          have HO_12 := n1_
                          have HL263_2 := n2_
                          have HL265_2 := n3_
                          have BK255 := n4_
                          have HR263_2 := n5_
                          have HR265_2 := n6_
                          have HB := n7_
                          clear n0_ n1_ n2_ n3_ n4_ n5_ n6_ n7_
                          (try clear hb)
                          (try clear hb2)
                          (try clear hk)
                          (try clear hi)
                          refine hK.out _ _ ⟨HS0_, HS1_, HS2_, HS3_, HS4_, HS5_⟩ (fun hHeld => ?_)
                          clear hK K
                          refine norm_ (a' := ?_) ?_ ?_
                          rotate_left
                          · show Act.put _ (some 63) _ = _
                            simp only [Act.put, List.setIfInBounds_toArray, List.set_cons_zero, List.set_cons_succ, i64_w, i32_w]
                            rfl
                          refine pure_ (i := 14) (N := some 64) (v := ?_) (a' := ?_) #[true, true, true, true, true, true, true, true, true, true, true, true, true, true, true] rfl rfl (any_of HT_.out (by kernel_rfl)) (fun _ _ _ h => h) (Or.inl ⟨by rfl, ?_⟩) ?_ ?_
                          rotate_left
                          · intro w'
                            go_simp
                            with_reducible rfl
                          rotate_left
                          · simp only [Act.put, List.setIfInBounds_toArray, List.set_cons_zero, List.set_cons_succ, i64_w, i32_w]
                            rfl
                          refine done_ (done_of HT_.out (by kernel_rfl)) ?_
                          try go_wp2
                          go_roundg k2
                          case measure => have := HJ4.out; have := HK2.out; omega
                          case rel => exact ⟨(x14_2), (wrap64 (x14_2 + 1)), (by first | rfl | (simp; done) | (simp only [i64_w, i32_w]; done) | (simp [*]; done) | (simp only [i64_w, i32_w]; first | rfl | (simp; done) | (simp [*]; done))), (by first | rfl | (simp; done) | (simp only [i64_w, i32_w]; done) | (simp [*]; done) | (simp only [i64_w, i32_w]; first | rfl | (simp; done) | (simp [*]; done))), H', ⟨by have := HJ4.out; have := HK2.out; omega⟩, ⟨by (with_reducible repeat (first | apply Kd.V_alloc | apply Kd.V_drewN | apply Kd.V_drew)); exact HO_0.out⟩, ⟨by (with_reducible repeat (first | apply Kd.N_alloc | apply Kd.N_drewN | apply Kd.N_drew)); exact HO_12.out⟩, ⟨by (with_reducible repeat (first | refine blk_drewN ?_ _ | refine blk_drew ?_ | refine blk_alloc ?_ _)); exact BK255.out⟩, ⟨by repeat (first | (with_reducible first | exact HB.out | apply below_alloc | apply pw_below_drewN | apply below_drew1 | refine below_set ?_ GE255.out) | exact HB.out)⟩⟩
                        · rw [if_neg c24] at H
                          have c24b0 : decide (t264 < t266) = false := decide_eq_false c24
                          clear c24
                          have H' := Aside0.mk H
                          clear H
                          obtain ⟨Ao29, co29, eo29⟩ := Kd.N_slice HO_12.out
                          subst eo29
                          try go_wp2
                          have n0_ := Aside0.mk (Kd.V_drew HO_0.out)
                          have n1_ := Aside0.mk (Kd.N_drew HO_12.out)
                          have n2_ := Aside0.mk (blk_drew BK255.out)
                          have n3_ := Aside0.mk (below_drew1 HB.out)
                          clear HO_0
                          clear HO_12
                          clear BK255
                          clear HB
                          have HO_0 := n0_
                          have HO_12 := n1_
                          have BK255 := n2_
                          have HB := n3_
                          clear n0_ n1_ n2_ n3_
                          have p263 : 0 ≤ (x14_2 : Int) := of_decide_eq_true (by first | (with_reducible assumption) | assumption)
                          have q263 : x14_2 < (t257.length : Int) := of_decide_eq_true (by first | (with_reducible assumption) | assumption)
                          obtain ⟨ad263, A263_2, c263_2, e263, hx263_0, hx263_1, hx263_2, hl263_2, hi263_2⟩ := at_T26 (Kd.N_reads' HO_12.out).2.2 x14_2 p263 q263
                          cases e263
                          obtain ⟨ce263, hce263, hMe263, hcc263⟩ := Kd.N_get HO_12.out z26 x14_2 p263 (by first | exact q263 | exact of_decide_eq_true (by first | (with_reducible assumption) | assumption) | (have e_ := (Kd.N_reads' HO_12.out).1; omega))
                          obtain ⟨ua263_2, uc263_2, rfl, ul263_2, ge263_2⟩ := k26_openF hMe263
                          have hv263_2 := hcc263 2 _ rfl
                          rw [add_field _ _ 2 (by omega)] at hv263_2
                          replace hv263_2 := Option.some.inj (hv263_2.symm.trans hx263_2)
                          injection hv263_2 with hva_ hvn_ hvc_
                          rw [hva_] at ge263_2
                          rw [hvc_] at ul263_2
                          have HL263_2 := Aside0.mk (show Kd.V k39 39 _ w.heap.size _ _ ((rd_T26 t257 x14_2).f2) from Kd.V_mk ul263_2 ge263_2)
                          clear hva_ hvn_ hvc_ ge263_2 ul263_2
                          clear hcc263 hce263
                          have HR263_2 := Aside0.mk hi263_2
                          have HC263_2 := Aside0.mk hl263_2
                          clear hi263_2 hl263_2
                          replace p263 := eq_true p263
                          replace q263 := eq_true q263
                          have p265 : 0 ≤ (x13_2 : Int) := of_decide_eq_true (by first | (with_reducible assumption) | assumption)
                          have q265 : x13_2 < (t257.length : Int) := of_decide_eq_true (by first | (with_reducible assumption) | assumption)
                          obtain ⟨ad265, A265_2, c265_2, e265, hx265_0, hx265_1, hx265_2, hl265_2, hi265_2⟩ := at_T26 (Kd.N_reads' HO_12.out).2.2 x13_2 p265 q265
                          obtain rfl : ad263 = ad265 := (by injection e265)
                          obtain ⟨ce265, hce265, hMe265, hcc265⟩ := Kd.N_get HO_12.out z26 x13_2 p265 (by first | exact q265 | exact of_decide_eq_true (by first | (with_reducible assumption) | assumption) | (have e_ := (Kd.N_reads' HO_12.out).1; omega))
                          obtain ⟨ua265_2, uc265_2, rfl, ul265_2, ge265_2⟩ := k26_openF hMe265
                          have hv265_2 := hcc265 2 _ rfl
                          rw [add_field _ _ 2 (by omega)] at hv265_2
                          replace hv265_2 := Option.some.inj (hv265_2.symm.trans hx265_2)
                          injection hv265_2 with hva_ hvn_ hvc_
                          rw [hva_] at ge265_2
                          rw [hvc_] at ul265_2
                          have HL265_2 := Aside0.mk (show Kd.V k39 39 _ w.heap.size _ _ ((rd_T26 t257 x13_2).f2) from Kd.V_mk ul265_2 ge265_2)
                          clear hva_ hvn_ hvc_ ge265_2 ul265_2
                          clear hcc265 hce265
                          have HR265_2 := Aside0.mk hi265_2
                          have HC265_2 := Aside0.mk hl265_2
                          clear hi265_2 hl265_2
                          replace p265 := eq_true p265
                          replace q265 := eq_true q265
                          refine start_ (n := 15) (S := fun w' => w'.cell? (ad263.add ((x14_2).toNat * 3)) = some (.bool ((rd_T26 t257 x14_2).f0)) ∧ w'.cell? ⟨(ad263.add ((x14_2).toNat * 3)).block, (ad263.add ((x14_2).toNat * 3)).off + 1, none⟩ = some (.int .i64 ((rd_T26 t257 x14_2).f1)) ∧ w'.cell? ⟨(ad263.add ((x14_2).toNat * 3)).block, (ad263.add ((x14_2).toNat * 3)).off + 2, none⟩ = some (.slice A263_2 ((rd_T26 t257 x14_2).f2).length c263_2) ∧ w'.cell? (ad263.add ((x13_2).toNat * 3)) = some (.bool ((rd_T26 t257 x13_2).f0)) ∧ w'.cell? ⟨(ad263.add ((x13_2).toNat * 3)).block, (ad263.add ((x13_2).toNat * 3)).off + 1, none⟩ = some (.int .i64 ((rd_T26 t257 x13_2).f1)) ∧ w'.cell? ⟨(ad263.add ((x13_2).toNat * 3)).block, (ad263.add ((x13_2).toNat * 3)).off + 2, none⟩ = some (.slice A265_2 ((rd_T26 t257 x13_2).f2).length c265_2)) (ds := []) #[false, false, false, false, false, false, false, false, false, false, false, false, false, false, false] (by kernel_rfl) rfl rfl ⟨hx263_0, hx263_1, hx263_2, hx265_0, hx265_1, hx265_2⟩ (fun hHeld => ?_); refine with_tabW serinetteref14_Best.tab13 serinetteref14_Best.bits13 (fun HT_ HW_ => ?_)
                          generalize wr.drew = w30 at HO_0 HO_12 BK255 HB HL263_2 HL265_2 HR263_2 HR265_2 hx263_0 hx263_1 hx263_2 hx265_0 hx265_1 hx265_2 hHeld ⊢
                          refine pure_ (i := 0) (N := some 50) (v := ?_) (a' := ?_) #[true, false, false, false, false, false, false, false, false, false, false, false, false, false, false] rfl rfl (any_of HT_.out (by kernel_rfl)) (fun _ _ _ h => h) (Or.inl ⟨by rfl, ?_⟩) ?_ ?_
                          rotate_left
                          · intro w'
                            go_simp
                            with_reducible rfl
                          rotate_left
                          · simp only [Act.put, List.setIfInBounds_toArray, List.set_cons_zero, List.set_cons_succ, i64_w, i32_w]
                            rfl
                          refine pure_ (i := 1) (N := some 51) (v := ?_) (a' := ?_) #[true, true, false, false, false, false, false, false, false, false, false, false, false, false, false] rfl rfl (any_of HT_.out (by kernel_rfl)) (fun _ _ _ h => h) (Or.inl ⟨by rfl, ?_⟩) ?_ ?_
                          rotate_left
                          · intro w'
                            go_simp
                            with_reducible rfl
                          rotate_left
                          · simp only [Act.put, List.setIfInBounds_toArray, List.set_cons_zero, List.set_cons_succ, i64_w, i32_w]
                            rfl
                          refine pure_ (i := 2) (N := some 52) (v := ?_) (a' := ?_) #[true, true, true, false, false, false, false, false, false, false, false, false, false, false, false] rfl rfl (any_of HT_.out (by kernel_rfl)) (fun _ _ _ h => h) (Or.inl ⟨by rfl, ?_⟩) ?_ ?_
                          rotate_left
                          · intro w'
                            go_simp
                            with_reducible rfl
                          rotate_left
                          · simp only [Act.put, List.setIfInBounds_toArray, List.set_cons_zero, List.set_cons_succ, i64_w, i32_w]
                            rfl
                          refine pure_ (i := 3) (N := some 53) (v := ?_) (a' := ?_) #[true, true, true, true, false, false, false, false, false, false, false, false, false, false, false] rfl rfl (any_of HT_.out (by kernel_rfl)) (fun _ _ _ h => h) (Or.inl ⟨by rfl, ?_⟩) ?_ ?_
                          rotate_left
                          · intro w'
                            go_simp
                            with_reducible rfl
                          rotate_left
                          · simp only [Act.put, List.setIfInBounds_toArray, List.set_cons_zero, List.set_cons_succ, i64_w, i32_w]
                            rfl
                          refine pure_ (i := 4) (N := some 54) (v := ?_) (a' := ?_) #[true, true, true, true, true, false, false, false, false, false, false, false, false, false, false] rfl rfl (any_of HT_.out (by kernel_rfl)) (fun _ _ _ h => h) (Or.inl ⟨by rfl, ?_⟩) ?_ ?_
                          rotate_left
                          · intro w'
                            go_simp
                            with_reducible rfl
                          rotate_left
                          · simp only [Act.put, List.setIfInBounds_toArray, List.set_cons_zero, List.set_cons_succ, i64_w, i32_w]
                            rfl
                          refine pure_ (i := 7) (N := some 57) (v := ?_) (a' := ?_) #[true, true, true, true, true, false, false, true, false, false, false, false, false, false, false] rfl rfl (any_of HT_.out (by kernel_rfl)) (fun _ _ _ h => h) (Or.inl ⟨by rfl, ?_⟩) ?_ ?_
                          rotate_left
                          · intro w'
                            go_simp
                            with_reducible rfl
                          rotate_left
                          · simp only [Act.put, List.setIfInBounds_toArray, List.set_cons_zero, List.set_cons_succ, i64_w, i32_w]
                            rfl
                          refine pure_ (i := 8) (N := some 58) (v := ?_) (a' := ?_) #[true, true, true, true, true, false, false, true, true, false, false, false, false, false, false] rfl rfl (any_of HT_.out (by kernel_rfl)) (fun _ _ _ h => h) (Or.inl ⟨by rfl, ?_⟩) ?_ ?_
                          rotate_left
                          · intro w'
                            go_simp
                            with_reducible rfl
                          rotate_left
                          · simp only [Act.put, List.setIfInBounds_toArray, List.set_cons_zero, List.set_cons_succ, i64_w, i32_w]
                            rfl
                          refine pure_ (i := 9) (N := some 59) (v := ?_) (a' := ?_) #[true, true, true, true, true, false, false, true, true, true, false, false, false, false, false] rfl rfl (any_of HT_.out (by kernel_rfl)) (fun _ _ _ h => h) (Or.inl ⟨by rfl, ?_⟩) ?_ ?_
                          rotate_left
                          · intro w'
                            go_simp
                            with_reducible rfl
                          rotate_left
                          · simp only [Act.put, List.setIfInBounds_toArray, List.set_cons_zero, List.set_cons_succ, i64_w, i32_w]
                            rfl
                          refine pure_ (i := 10) (N := some 60) (v := ?_) (a' := ?_) #[true, true, true, true, true, false, false, true, true, true, true, false, false, false, false] rfl rfl (any_of HT_.out (by kernel_rfl)) (fun _ _ _ h => h) (Or.inl ⟨by rfl, ?_⟩) ?_ ?_
                          rotate_left
                          · intro w'
                            go_simp
                            with_reducible rfl
                          rotate_left
                          · simp only [Act.put, List.setIfInBounds_toArray, List.set_cons_zero, List.set_cons_succ, i64_w, i32_w]
                            rfl
                          refine pure_ (i := 11) (N := some 61) (v := ?_) (a' := ?_) #[true, true, true, true, true, false, false, true, true, true, true, true, false, false, false] rfl rfl (any_of HT_.out (by kernel_rfl)) (fun _ _ _ h => h) (Or.inl ⟨by rfl, ?_⟩) ?_ ?_
                          rotate_left
                          · intro w'
                            go_simp
                            with_reducible rfl
                          rotate_left
                          · simp only [Act.put, List.setIfInBounds_toArray, List.set_cons_zero, List.set_cons_succ, i64_w, i32_w]
                            rfl
                          refine take_ (i := 5) (N := some 55) (v := ?_) (a' := ?_) #[true, true, true, true, true, true, false, true, true, true, true, true, false, false, false] rfl rfl (take_ofW HT_.out HW_.out (by kernel_rfl)) (fun _ _ _ h => h) (Or.inl ⟨by rfl, ?_⟩) hHeld ?_ ?_
                          rotate_left
                          · rintro w' ⟨s0, s1, s2, s3, s4, s5⟩
                            go_simp
                            with_reducible rfl
                          rotate_left
                          · simp only [Act.put, List.setIfInBounds_toArray, List.set_cons_zero, List.set_cons_succ, i64_w, i32_w]
                            rfl
                          refine take_ (i := 12) (N := some 62) (v := ?_) (a' := ?_) #[true, true, true, true, true, true, false, true, true, true, true, true, true, false, false] rfl rfl (take_ofW HT_.out HW_.out (by kernel_rfl)) (fun _ _ _ h => h) (Or.inl ⟨by rfl, ?_⟩) hHeld ?_ ?_
                          rotate_left
                          · rintro w' ⟨s0, s1, s2, s3, s4, s5⟩
                            go_simp
                            with_reducible rfl
                          rotate_left
                          · simp only [Act.put, List.setIfInBounds_toArray, List.set_cons_zero, List.set_cons_succ, i64_w, i32_w]
                            rfl
                          refine one_ (i := 6) (N := some 56) #[true, true, true, true, true, true, true, true, true, true, true, true, true, false, false] rfl rfl (one_of HT_.out (by kernel_rfl)) (by decide) (fun K hK => ?_)
                          refine goes_ Try.func21 (by kernel_rfl) rfl #[.slice A0 l0.length c0, .int .i64 a1, .agg #[.bool ((rd_T26 t257 x14_2).f0), .int .i64 ((rd_T26 t257 x14_2).f1), .slice A263_2 ((rd_T26 t257 x14_2).f2).length c263_2]] (by rfl) rfl rfl (by (try simp only [List.map_toArray, List.map_cons, List.map_nil]); first | done | rfl | (simp only [List.length_drop, List.length_take]; rfl)) ?_
                          with_reducible refine (serinetteref14_Bits.calls k2 _ _ l0 a1 ((rd_T26 t257 x14_2).f0) ((rd_T26 t257 x14_2).f1) _ _ ((rd_T26 t257 x14_2).f2) t264 _ ?side1 ?side2 ?side3 ?side4 A20.out).mono ?_
                          (case side1 => repeat (first | exact (Kd.V_reads' HO_0.out).2.2 | (with_reducible refine Kd.C_alloc ?_ _) | (with_reducible refine Kd.C_drewN ?_ _) | (with_reducible refine Kd.C_drew ?_)))
                          (case side2 => exact (Kd.V_reads' HO_0.out).2.1)
                          (case side3 => repeat (first | exact (by repeat (first | (with_reducible exact HR263_2.out) | (with_reducible refine Kd.C_alloc ?_ _) | (with_reducible refine Kd.C_drewN ?_ _) | (with_reducible refine Kd.C_drew ?_) | exact HR263_2.out)) | (with_reducible refine Kd.C_alloc ?_ _) | (with_reducible refine Kd.C_drewN ?_ _) | (with_reducible refine Kd.C_drew ?_)))
                          (case side4 => exact HC263_2.out)
                          rintro e w31 ⟨rfl, hb⟩
                          have HS0_ := (hb.cell (World.block_lt_of_cell? _ _ (hHeld.1))).trans (hHeld.1)
                          have HS1_ := (hb.cell (World.block_lt_of_cell? _ _ (hHeld.2.1))).trans (hHeld.2.1)
                          have HS2_ := (hb.cell (World.block_lt_of_cell? _ _ (hHeld.2.2.1))).trans (hHeld.2.2.1)
                          have HS3_ := (hb.cell (World.block_lt_of_cell? _ _ (hHeld.2.2.2.1))).trans (hHeld.2.2.2.1)
                          have HS4_ := (hb.cell (World.block_lt_of_cell? _ _ (hHeld.2.2.2.2.1))).trans (hHeld.2.2.2.2.1)
                          have HS5_ := (hb.cell (World.block_lt_of_cell? _ _ (hHeld.2.2.2.2.2))).trans (hHeld.2.2.2.2.2)
                          refine ⟨_, rfl, ?_⟩
                          have n0_ := Aside0.mk (Kd.V_below (by (with_reducible repeat (first | apply Kd.V_alloc | apply Kd.V_drewN | apply Kd.V_drew)); exact HO_0.out) hb)
                          have n1_ := Aside0.mk (Kd.N_below (by (with_reducible repeat (first | apply Kd.N_alloc | apply Kd.N_drewN | apply Kd.N_drew)); exact HO_12.out) hb)
                          have n2_ := Aside0.mk (Kd.V_below (by (with_reducible repeat (first | apply Kd.V_alloc | apply Kd.V_drewN | apply Kd.V_drew)); exact HL263_2.out) hb)
                          have n3_ := Aside0.mk (Kd.V_below (by (with_reducible repeat (first | apply Kd.V_alloc | apply Kd.V_drewN | apply Kd.V_drew)); exact HL265_2.out) hb)
                          have n4_ := Aside0.mk (blk_below (g := gb255) (o := .cells #[.bool false, .int .i64 0, .slice none 0 0] 26 (0, 0)) (by (with_reducible repeat (first | refine blk_drewN ?_ _ | refine blk_drew ?_ | refine blk_alloc ?_ _)); exact BK255.out) hb)
                          have n5_ := Aside0.mk (Kd.C_below (by repeat (first | (with_reducible exact HR263_2.out) | (with_reducible refine Kd.C_alloc ?_ _) | (with_reducible refine Kd.C_drewN ?_ _) | (with_reducible refine Kd.C_drew ?_) | exact HR263_2.out)) hb)
                          have n6_ := Aside0.mk (Kd.C_below (by repeat (first | (with_reducible exact HR265_2.out) | (with_reducible refine Kd.C_alloc ?_ _) | (with_reducible refine Kd.C_drewN ?_ _) | (with_reducible refine Kd.C_drew ?_) | exact HR265_2.out)) hb)
                          have n7_ := Aside0.mk (below_step (by repeat (first | (with_reducible first | exact HB.out | apply below_alloc | apply pw_below_drewN | apply below_drew1 | refine below_set ?_ GE255.out) | exact HB.out)) hb)
                          clear HO_0
                          clear HO_12
                          clear HL263_2
                          clear HL265_2
                          clear BK255
                          clear HR263_2
                          clear HR265_2
                          clear HB
                          have HO_0 := n0_
                          have HO_12 := n1_
                          have HL263_2 := n2_
                          have HL265_2 := n3_
                          have BK255 := n4_
                          have HR263_2 := n5_
                          have HR265_2 := n6_
                          have HB := n7_
                          clear n0_ n1_ n2_ n3_ n4_ n5_ n6_ n7_
                          (try clear hb)
                          (try clear hb2)
                          (try clear hk)
                          (try clear hi)
                          refine hK.out _ _ ⟨HS0_, HS1_, HS2_, HS3_, HS4_, HS5_⟩ (fun hHeld => ?_)
                          clear hK K
                          refine norm_ (a' := ?_) ?_ ?_
                          rotate_left
                          · show Act.put _ (some 56) _ = _
                            simp only [Act.put, List.setIfInBounds_toArray, List.set_cons_zero, List.set_cons_succ, i64_w, i32_w]
                            rfl
                          refine one_ (i := 13) (N := some 63) #[true, true, true, true, true, true, true, true, true, true, true, true, true, true, false] rfl rfl (one_of HT_.out (by kernel_rfl)) (by decide) (fun K hK => ?_)
                          refine goes_ Try.func21 (by kernel_rfl) rfl #[.slice A0 l0.length c0, .int .i64 a1, .agg #[.bool ((rd_T26 t257 x13_2).f0), .int .i64 ((rd_T26 t257 x13_2).f1), .slice A265_2 ((rd_T26 t257 x13_2).f2).length c265_2]] (by rfl) rfl rfl (by (try simp only [List.map_toArray, List.map_cons, List.map_nil]); first | done | rfl | (simp only [List.length_drop, List.length_take]; rfl)) ?_
                          with_reducible refine (serinetteref14_Bits.calls k2 _ _ l0 a1 ((rd_T26 t257 x13_2).f0) ((rd_T26 t257 x13_2).f1) _ _ ((rd_T26 t257 x13_2).f2) t266 _ ?side1 ?side2 ?side3 ?side4 A23.out).mono ?_
                          (case side1 => repeat (first | exact (Kd.V_reads' HO_0.out).2.2 | (with_reducible refine Kd.C_alloc ?_ _) | (with_reducible refine Kd.C_drewN ?_ _) | (with_reducible refine Kd.C_drew ?_)))
                          (case side2 => exact (Kd.V_reads' HO_0.out).2.1)
                          (case side3 => repeat (first | exact (by repeat (first | (with_reducible exact HR265_2.out) | (with_reducible refine Kd.C_alloc ?_ _) | (with_reducible refine Kd.C_drewN ?_ _) | (with_reducible refine Kd.C_drew ?_) | exact HR265_2.out)) | (with_reducible refine Kd.C_alloc ?_ _) | (with_reducible refine Kd.C_drewN ?_ _) | (with_reducible refine Kd.C_drew ?_)))
                          (case side4 => exact HC265_2.out)
                          rintro e w32 ⟨rfl, hb⟩
                          have HS0_ := (hb.cell (World.block_lt_of_cell? _ _ (hHeld.1))).trans (hHeld.1)
                          have HS1_ := (hb.cell (World.block_lt_of_cell? _ _ (hHeld.2.1))).trans (hHeld.2.1)
                          have HS2_ := (hb.cell (World.block_lt_of_cell? _ _ (hHeld.2.2.1))).trans (hHeld.2.2.1)
                          have HS3_ := (hb.cell (World.block_lt_of_cell? _ _ (hHeld.2.2.2.1))).trans (hHeld.2.2.2.1)
                          have HS4_ := (hb.cell (World.block_lt_of_cell? _ _ (hHeld.2.2.2.2.1))).trans (hHeld.2.2.2.2.1)
                          have HS5_ := (hb.cell (World.block_lt_of_cell? _ _ (hHeld.2.2.2.2.2))).trans (hHeld.2.2.2.2.2)
                          refine ⟨_, rfl, ?_⟩
                          have n0_ := Aside0.mk (Kd.V_below (by (with_reducible repeat (first | apply Kd.V_alloc | apply Kd.V_drewN | apply Kd.V_drew)); exact HO_0.out) hb)
                          have n1_ := Aside0.mk (Kd.N_below (by (with_reducible repeat (first | apply Kd.N_alloc | apply Kd.N_drewN | apply Kd.N_drew)); exact HO_12.out) hb)
                          have n2_ := Aside0.mk (Kd.V_below (by (with_reducible repeat (first | apply Kd.V_alloc | apply Kd.V_drewN | apply Kd.V_drew)); exact HL263_2.out) hb)
                          have n3_ := Aside0.mk (Kd.V_below (by (with_reducible repeat (first | apply Kd.V_alloc | apply Kd.V_drewN | apply Kd.V_drew)); exact HL265_2.out) hb)
                          have n4_ := Aside0.mk (blk_below (g := gb255) (o := .cells #[.bool false, .int .i64 0, .slice none 0 0] 26 (0, 0)) (by (with_reducible repeat (first | refine blk_drewN ?_ _ | refine blk_drew ?_ | refine blk_alloc ?_ _)); exact BK255.out) hb)
                          have n5_ := Aside0.mk (Kd.C_below (by repeat (first | (with_reducible exact HR263_2.out) | (with_reducible refine Kd.C_alloc ?_ _) | (with_reducible refine Kd.C_drewN ?_ _) | (with_reducible refine Kd.C_drew ?_) | exact HR263_2.out)) hb)
                          have n6_ := Aside0.mk (Kd.C_below (by repeat (first | (with_reducible exact HR265_2.out) | (with_reducible refine Kd.C_alloc ?_ _) | (with_reducible refine Kd.C_drewN ?_ _) | (with_reducible refine Kd.C_drew ?_) | exact HR265_2.out)) hb)
                          have n7_ := Aside0.mk (below_step (by repeat (first | (with_reducible first | exact HB.out | apply below_alloc | apply pw_below_drewN | apply below_drew1 | refine below_set ?_ GE255.out) | exact HB.out)) hb)
                          clear HO_0
                          clear HO_12
                          clear HL263_2
                          clear HL265_2
                          clear BK255
                          clear HR263_2
                          clear HR265_2
                          clear HB
                          have HO_0 := n0_
                          have HO_12 := n1_
                          have HL263_2 := n2_
                          have HL265_2 := n3_
                          have BK255 := n4_
                          have HR263_2 := n5_
                          have HR265_2 := n6_
                          have HB := n7_
                          clear n0_ n1_ n2_ n3_ n4_ n5_ n6_ n7_
                          (try clear hb)
                          (try clear hb2)
                          (try clear hk)
                          (try clear hi)
                          refine hK.out _ _ ⟨HS0_, HS1_, HS2_, HS3_, HS4_, HS5_⟩ (fun hHeld => ?_)
                          clear hK K
                          refine norm_ (a' := ?_) ?_ ?_
                          rotate_left
                          · show Act.put _ (some 63) _ = _
                            simp only [Act.put, List.setIfInBounds_toArray, List.set_cons_zero, List.set_cons_succ, i64_w, i32_w]
                            rfl
                          refine pure_ (i := 14) (N := some 64) (v := ?_) (a' := ?_) #[true, true, true, true, true, true, true, true, true, true, true, true, true, true, true] rfl rfl (any_of HT_.out (by kernel_rfl)) (fun _ _ _ h => h) (Or.inl ⟨by rfl, ?_⟩) ?_ ?_
                          rotate_left
                          · intro w'
                            go_simp
                            with_reducible rfl
                          rotate_left
                          · simp only [Act.put, List.setIfInBounds_toArray, List.set_cons_zero, List.set_cons_succ, i64_w, i32_w]
                            rfl
                          refine done_ (done_of HT_.out (by kernel_rfl)) ?_
                          try go_wp2
                          go_roundg k2
                          case measure => have := HJ4.out; have := HK2.out; omega
                          case rel => exact ⟨(x13_2), (wrap64 (x14_2 + 1)), (by first | rfl | (simp; done) | (simp only [i64_w, i32_w]; done) | (simp [*]; done) | (simp only [i64_w, i32_w]; first | rfl | (simp; done) | (simp [*]; done))), (by first | rfl | (simp; done) | (simp only [i64_w, i32_w]; done) | (simp [*]; done) | (simp only [i64_w, i32_w]; first | rfl | (simp; done) | (simp [*]; done))), H', ⟨by have := HJ4.out; have := HK2.out; omega⟩, ⟨by (with_reducible repeat (first | apply Kd.V_alloc | apply Kd.V_drewN | apply Kd.V_drew)); exact HO_0.out⟩, ⟨by (with_reducible repeat (first | apply Kd.N_alloc | apply Kd.N_drewN | apply Kd.N_drew)); exact HO_12.out⟩, ⟨by (with_reducible repeat (first | refine blk_drewN ?_ _ | refine blk_drew ?_ | refine blk_alloc ?_ _)); exact BK255.out⟩, ⟨by repeat (first | (with_reducible first | exact HB.out | apply below_alloc | apply pw_below_drewN | apply below_drew1 | refine below_set ?_ GE255.out) | exact HB.out)⟩⟩
                      · rw [if_neg c22] at H
                        exact absurd H (by simp)
                    · rw [if_neg c21] at H
                      exact absurd H (by simp)
                  · rw [if_neg c19] at H
                    exact absurd H (by simp)
                · rw [if_neg c18] at H
                  have c18b0 : decide (x14_2 < (t257.length : Int)) = false := decide_eq_false c18
                  clear c18
                  by_cases c33 : 0 ≤ x13_2
                  · rw [if_pos c33] at H
                    have c33b0 : decide (0 ≤ x13_2) = true := decide_eq_true c33
                    clear c33
                    by_cases c34 : x13_2 < (t257.length : Int)
                    · rw [if_pos c34] at H
                      have c34b0 : decide (x13_2 < (t257.length : Int)) = true := decide_eq_true c34
                      clear c34
                      replace H := Option.bind_eq_some_iff.mp H
                      obtain ⟨t262, A350, H⟩ := H
                      replace H : (some ((rd_T26 t257 x13_2).f0, (rd_T26 t257 x13_2).f1, (rd_T26 t257 x13_2).f2, t262, 0)) = some (r1, r2, r3, r4, r5) := H
                      have A35 := Aside0.mk A350
                      clear A350
                      simp only [Option.some.injEq, Prod.mk.injEq] at H
                      obtain ⟨rfl, rfl, rfl, rfl, rfl⟩ := H
                      obtain ⟨Ao36, co36, eo36⟩ := Kd.N_slice HO_12.out
                      subst eo36
                      try go_wp2
                      have n0_ := Aside0.mk (Kd.V_drew HO_0.out)
                      have n1_ := Aside0.mk (Kd.N_drew HO_12.out)
                      have n2_ := Aside0.mk (blk_drew BK255.out)
                      have n3_ := Aside0.mk (below_drew1 HB.out)
                      clear HO_0
                      clear HO_12
                      clear BK255
                      clear HB
                      have HO_0 := n0_
                      have HO_12 := n1_
                      have BK255 := n2_
                      have HB := n3_
                      clear n0_ n1_ n2_ n3_
                      have p260 : 0 ≤ (x13_2 : Int) := of_decide_eq_true (by first | (with_reducible assumption) | assumption)
                      have q260 : x13_2 < (t257.length : Int) := of_decide_eq_true (by first | (with_reducible assumption) | assumption)
                      obtain ⟨ad260, A260_2, c260_2, e260, hx260_0, hx260_1, hx260_2, hl260_2, hi260_2⟩ := at_T26 (Kd.N_reads' HO_12.out).2.2 x13_2 p260 q260
                      cases e260
                      obtain ⟨ce260, hce260, hMe260, hcc260⟩ := Kd.N_get HO_12.out z26 x13_2 p260 (by first | exact q260 | exact of_decide_eq_true (by first | (with_reducible assumption) | assumption) | (have e_ := (Kd.N_reads' HO_12.out).1; omega))
                      obtain ⟨ua260_2, uc260_2, rfl, ul260_2, ge260_2⟩ := k26_openF hMe260
                      have hv260_2 := hcc260 2 _ rfl
                      rw [add_field _ _ 2 (by omega)] at hv260_2
                      replace hv260_2 := Option.some.inj (hv260_2.symm.trans hx260_2)
                      injection hv260_2 with hva_ hvn_ hvc_
                      rw [hva_] at ge260_2
                      rw [hvc_] at ul260_2
                      have HL260_2 := Aside0.mk (show Kd.V k39 39 _ w.heap.size _ _ ((rd_T26 t257 x13_2).f2) from Kd.V_mk ul260_2 ge260_2)
                      clear hva_ hvn_ hvc_ ge260_2 ul260_2
                      clear hcc260 hce260
                      have HR260_2 := Aside0.mk hi260_2
                      have HC260_2 := Aside0.mk hl260_2
                      clear hi260_2 hl260_2
                      replace p260 := eq_true p260
                      replace q260 := eq_true q260
                      have p261 : 0 ≤ (x13_2 : Int) := of_decide_eq_true (by first | (with_reducible assumption) | assumption)
                      have q261 : x13_2 < (t257.length : Int) := of_decide_eq_true (by first | (with_reducible assumption) | assumption)
                      obtain ⟨ad261, A261_2, c261_2, e261, hx261_0, hx261_1, hx261_2, hl261_2, hi261_2⟩ := at_T26 (Kd.N_reads' HO_12.out).2.2 x13_2 p261 q261
                      obtain rfl : ad260 = ad261 := (by injection e261)
                      obtain ⟨ce261, hce261, hMe261, hcc261⟩ := Kd.N_get HO_12.out z26 x13_2 p261 (by first | exact q261 | exact of_decide_eq_true (by first | (with_reducible assumption) | assumption) | (have e_ := (Kd.N_reads' HO_12.out).1; omega))
                      obtain ⟨ua261_2, uc261_2, rfl, ul261_2, ge261_2⟩ := k26_openF hMe261
                      have hv261_2 := hcc261 2 _ rfl
                      rw [add_field _ _ 2 (by omega)] at hv261_2
                      replace hv261_2 := Option.some.inj (hv261_2.symm.trans hx261_2)
                      injection hv261_2 with hva_ hvn_ hvc_
                      rw [hva_] at ge261_2
                      rw [hvc_] at ul261_2
                      have HL261_2 := Aside0.mk (show Kd.V k39 39 _ w.heap.size _ _ ((rd_T26 t257 x13_2).f2) from Kd.V_mk ul261_2 ge261_2)
                      clear hva_ hvn_ hvc_ ge261_2 ul261_2
                      clear hcc261 hce261
                      have HR261_2 := Aside0.mk hi261_2
                      have HC261_2 := Aside0.mk hl261_2
                      clear hi261_2 hl261_2
                      replace p261 := eq_true p261
                      replace q261 := eq_true q261
                      have ea_ := Option.some.inj (hx260_2.symm.trans hx261_2)
                      injection ea_ with ea_ en_ ec_
                      subst ea_
                      subst ec_
                      clear en_
                      refine start_ (n := 14) (S := fun w' => w'.cell? (ad260.add ((x13_2).toNat * 3)) = some (.bool ((rd_T26 t257 x13_2).f0)) ∧ w'.cell? ⟨(ad260.add ((x13_2).toNat * 3)).block, (ad260.add ((x13_2).toNat * 3)).off + 1, none⟩ = some (.int .i64 ((rd_T26 t257 x13_2).f1)) ∧ w'.cell? ⟨(ad260.add ((x13_2).toNat * 3)).block, (ad260.add ((x13_2).toNat * 3)).off + 2, none⟩ = some (.slice A260_2 ((rd_T26 t257 x13_2).f2).length c260_2) ∧ w'.cell? (ad260.add ((x13_2).toNat * 3)) = some (.bool ((rd_T26 t257 x13_2).f0)) ∧ w'.cell? ⟨(ad260.add ((x13_2).toNat * 3)).block, (ad260.add ((x13_2).toNat * 3)).off + 1, none⟩ = some (.int .i64 ((rd_T26 t257 x13_2).f1)) ∧ w'.cell? ⟨(ad260.add ((x13_2).toNat * 3)).block, (ad260.add ((x13_2).toNat * 3)).off + 2, none⟩ = some (.slice A260_2 ((rd_T26 t257 x13_2).f2).length c260_2)) (ds := []) #[false, false, false, false, false, false, false, false, false, false, false, false, false, false] (by kernel_rfl) rfl rfl ⟨hx260_0, hx260_1, hx260_2, hx261_0, hx261_1, hx261_2⟩ (fun hHeld => ?_); refine with_tabW serinetteref14_Best.tab15 serinetteref14_Best.bits15 (fun HT_ HW_ => ?_)
                      generalize wr.drew = w37 at HO_0 HO_12 BK255 HB HL260_2 HL261_2 HR260_2 HR261_2 hx260_0 hx260_1 hx260_2 hx261_0 hx261_1 hx261_2 hHeld ⊢
                      refine pure_ (i := 0) (N := some 66) (v := ?_) (a' := ?_) #[true, false, false, false, false, false, false, false, false, false, false, false, false, false] rfl rfl (any_of HT_.out (by kernel_rfl)) (fun _ _ _ h => h) (Or.inl ⟨by rfl, ?_⟩) ?_ ?_
                      rotate_left
                      · intro w'
                        go_simp
                        with_reducible rfl
                      rotate_left
                      · simp only [Act.put, List.setIfInBounds_toArray, List.set_cons_zero, List.set_cons_succ, i64_w, i32_w]
                        rfl
                      refine pure_ (i := 1) (N := some 67) (v := ?_) (a' := ?_) #[true, true, false, false, false, false, false, false, false, false, false, false, false, false] rfl rfl (any_of HT_.out (by kernel_rfl)) (fun _ _ _ h => h) (Or.inl ⟨by rfl, ?_⟩) ?_ ?_
                      rotate_left
                      · intro w'
                        go_simp
                        with_reducible rfl
                      rotate_left
                      · simp only [Act.put, List.setIfInBounds_toArray, List.set_cons_zero, List.set_cons_succ, i64_w, i32_w]
                        rfl
                      refine pure_ (i := 2) (N := some 68) (v := ?_) (a' := ?_) #[true, true, true, false, false, false, false, false, false, false, false, false, false, false] rfl rfl (any_of HT_.out (by kernel_rfl)) (fun _ _ _ h => h) (Or.inl ⟨by rfl, ?_⟩) ?_ ?_
                      rotate_left
                      · intro w'
                        go_simp
                        with_reducible rfl
                      rotate_left
                      · simp only [Act.put, List.setIfInBounds_toArray, List.set_cons_zero, List.set_cons_succ, i64_w, i32_w]
                        rfl
                      refine pure_ (i := 4) (N := some 70) (v := ?_) (a' := ?_) #[true, true, true, false, true, false, false, false, false, false, false, false, false, false] rfl rfl (any_of HT_.out (by kernel_rfl)) (fun _ _ _ h => h) (Or.inl ⟨by rfl, ?_⟩) ?_ ?_
                      rotate_left
                      · intro w'
                        go_simp
                        with_reducible rfl
                      rotate_left
                      · simp only [Act.put, List.setIfInBounds_toArray, List.set_cons_zero, List.set_cons_succ, i64_w, i32_w]
                        rfl
                      refine pure_ (i := 5) (N := some 71) (v := ?_) (a' := ?_) #[true, true, true, false, true, true, false, false, false, false, false, false, false, false] rfl rfl (any_of HT_.out (by kernel_rfl)) (fun _ _ _ h => h) (Or.inl ⟨by rfl, ?_⟩) ?_ ?_
                      rotate_left
                      · intro w'
                        go_simp
                        with_reducible rfl
                      rotate_left
                      · simp only [Act.put, List.setIfInBounds_toArray, List.set_cons_zero, List.set_cons_succ, i64_w, i32_w]
                        rfl
                      refine pure_ (i := 6) (N := some 72) (v := ?_) (a' := ?_) #[true, true, true, false, true, true, true, false, false, false, false, false, false, false] rfl rfl (any_of HT_.out (by kernel_rfl)) (fun _ _ _ h => h) (Or.inl ⟨by rfl, ?_⟩) ?_ ?_
                      rotate_left
                      · intro w'
                        go_simp
                        with_reducible rfl
                      rotate_left
                      · simp only [Act.put, List.setIfInBounds_toArray, List.set_cons_zero, List.set_cons_succ, i64_w, i32_w]
                        rfl
                      refine pure_ (i := 7) (N := some 73) (v := ?_) (a' := ?_) #[true, true, true, false, true, true, true, true, false, false, false, false, false, false] rfl rfl (any_of HT_.out (by kernel_rfl)) (fun _ _ _ h => h) (Or.inl ⟨by rfl, ?_⟩) ?_ ?_
                      rotate_left
                      · intro w'
                        go_simp
                        with_reducible rfl
                      rotate_left
                      · simp only [Act.put, List.setIfInBounds_toArray, List.set_cons_zero, List.set_cons_succ, i64_w, i32_w]
                        rfl
                      refine pure_ (i := 8) (N := some 74) (v := ?_) (a' := ?_) #[true, true, true, false, true, true, true, true, true, false, false, false, false, false] rfl rfl (any_of HT_.out (by kernel_rfl)) (fun _ _ _ h => h) (Or.inl ⟨by rfl, ?_⟩) ?_ ?_
                      rotate_left
                      · intro w'
                        go_simp
                        with_reducible rfl
                      rotate_left
                      · simp only [Act.put, List.setIfInBounds_toArray, List.set_cons_zero, List.set_cons_succ, i64_w, i32_w]
                        rfl
                      refine take_ (i := 3) (N := some 69) (v := ?_) (a' := ?_) #[true, true, true, true, true, true, true, true, true, false, false, false, false, false] rfl rfl (take_ofW HT_.out HW_.out (by kernel_rfl)) (fun _ _ _ h => h) (Or.inl ⟨by rfl, ?_⟩) hHeld ?_ ?_
                      rotate_left
                      · rintro w' ⟨s0, s1, s2, s3, s4, s5⟩
                        go_simp
                        with_reducible rfl
                      rotate_left
                      · simp only [Act.put, List.setIfInBounds_toArray, List.set_cons_zero, List.set_cons_succ, i64_w, i32_w]
                        rfl
                      refine take_ (i := 9) (N := some 75) (v := ?_) (a' := ?_) #[true, true, true, true, true, true, true, true, true, true, false, false, false, false] rfl rfl (take_ofW HT_.out HW_.out (by kernel_rfl)) (fun _ _ _ h => h) (Or.inl ⟨by rfl, ?_⟩) hHeld ?_ ?_
                      rotate_left
                      · rintro w' ⟨s0, s1, s2, s3, s4, s5⟩
                        go_simp
                        with_reducible rfl
                      rotate_left
                      · simp only [Act.put, List.setIfInBounds_toArray, List.set_cons_zero, List.set_cons_succ, i64_w, i32_w]
                        rfl
                      refine one_ (i := 10) (N := some 76) #[true, true, true, true, true, true, true, true, true, true, true, false, false, false] rfl rfl (one_of HT_.out (by kernel_rfl)) (by decide) (fun K hK => ?_)
                      refine goes_ Try.func21 (by kernel_rfl) rfl #[.slice A0 l0.length c0, .int .i64 a1, .agg #[.bool ((rd_T26 t257 x13_2).f0), .int .i64 ((rd_T26 t257 x13_2).f1), .slice A260_2 ((rd_T26 t257 x13_2).f2).length c260_2]] (by rfl) rfl rfl (by (try simp only [List.map_toArray, List.map_cons, List.map_nil]); first | done | rfl | (simp only [List.length_drop, List.length_take]; rfl)) ?_
                      with_reducible refine (serinetteref14_Bits.calls k2 _ _ l0 a1 ((rd_T26 t257 x13_2).f0) ((rd_T26 t257 x13_2).f1) _ _ ((rd_T26 t257 x13_2).f2) t262 _ ?side1 ?side2 ?side3 ?side4 A35.out).mono ?_
                      (case side1 => repeat (first | exact (Kd.V_reads' HO_0.out).2.2 | (with_reducible refine Kd.C_alloc ?_ _) | (with_reducible refine Kd.C_drewN ?_ _) | (with_reducible refine Kd.C_drew ?_)))
                      (case side2 => exact (Kd.V_reads' HO_0.out).2.1)
                      (case side3 => repeat (first | exact (by repeat (first | (with_reducible exact HR261_2.out) | (with_reducible refine Kd.C_alloc ?_ _) | (with_reducible refine Kd.C_drewN ?_ _) | (with_reducible refine Kd.C_drew ?_) | exact HR261_2.out)) | (with_reducible refine Kd.C_alloc ?_ _) | (with_reducible refine Kd.C_drewN ?_ _) | (with_reducible refine Kd.C_drew ?_)))
                      (case side4 => exact HC261_2.out)
                      rintro e w38 ⟨rfl, hb⟩
                      have HS0_ := (hb.cell (World.block_lt_of_cell? _ _ (hHeld.1))).trans (hHeld.1)
                      have HS1_ := (hb.cell (World.block_lt_of_cell? _ _ (hHeld.2.1))).trans (hHeld.2.1)
                      have HS2_ := (hb.cell (World.block_lt_of_cell? _ _ (hHeld.2.2.1))).trans (hHeld.2.2.1)
                      have HS3_ := (hb.cell (World.block_lt_of_cell? _ _ (hHeld.2.2.2.1))).trans (hHeld.2.2.2.1)
                      have HS4_ := (hb.cell (World.block_lt_of_cell? _ _ (hHeld.2.2.2.2.1))).trans (hHeld.2.2.2.2.1)
                      have HS5_ := (hb.cell (World.block_lt_of_cell? _ _ (hHeld.2.2.2.2.2))).trans (hHeld.2.2.2.2.2)
                      refine ⟨_, rfl, ?_⟩
                      have n0_ := Aside0.mk (Kd.V_below (by (with_reducible repeat (first | apply Kd.V_alloc | apply Kd.V_drewN | apply Kd.V_drew)); exact HO_0.out) hb)
                      have n1_ := Aside0.mk (Kd.N_below (by (with_reducible repeat (first | apply Kd.N_alloc | apply Kd.N_drewN | apply Kd.N_drew)); exact HO_12.out) hb)
                      have n2_ := Aside0.mk (Kd.V_below (by (with_reducible repeat (first | apply Kd.V_alloc | apply Kd.V_drewN | apply Kd.V_drew)); exact HL260_2.out) hb)
                      have n3_ := Aside0.mk (Kd.V_below (by (with_reducible repeat (first | apply Kd.V_alloc | apply Kd.V_drewN | apply Kd.V_drew)); exact HL261_2.out) hb)
                      have n4_ := Aside0.mk (blk_below (g := gb255) (o := .cells #[.bool false, .int .i64 0, .slice none 0 0] 26 (0, 0)) (by (with_reducible repeat (first | refine blk_drewN ?_ _ | refine blk_drew ?_ | refine blk_alloc ?_ _)); exact BK255.out) hb)
                      have n5_ := Aside0.mk (Kd.C_below (by repeat (first | (with_reducible exact HR260_2.out) | (with_reducible refine Kd.C_alloc ?_ _) | (with_reducible refine Kd.C_drewN ?_ _) | (with_reducible refine Kd.C_drew ?_) | exact HR260_2.out)) hb)
                      have n6_ := Aside0.mk (Kd.C_below (by repeat (first | (with_reducible exact HR261_2.out) | (with_reducible refine Kd.C_alloc ?_ _) | (with_reducible refine Kd.C_drewN ?_ _) | (with_reducible refine Kd.C_drew ?_) | exact HR261_2.out)) hb)
                      have n7_ := Aside0.mk (below_step (by repeat (first | (with_reducible first | exact HB.out | apply below_alloc | apply pw_below_drewN | apply below_drew1 | refine below_set ?_ GE255.out) | exact HB.out)) hb)
                      clear HO_0
                      clear HO_12
                      clear HL260_2
                      clear HL261_2
                      clear BK255
                      clear HR260_2
                      clear HR261_2
                      clear HB
                      have HO_0 := n0_
                      have HO_12 := n1_
                      have HL260_2 := n2_
                      have HL261_2 := n3_
                      have BK255 := n4_
                      have HR260_2 := n5_
                      have HR261_2 := n6_
                      have HB := n7_
                      clear n0_ n1_ n2_ n3_ n4_ n5_ n6_ n7_
                      (try clear hb)
                      (try clear hb2)
                      (try clear hk)
                      (try clear hi)
                      refine hK.out _ _ ⟨HS0_, HS1_, HS2_, HS3_, HS4_, HS5_⟩ (fun hHeld => ?_)
                      clear hK K
                      refine norm_ (a' := ?_) ?_ ?_
                      rotate_left
                      · show Act.put _ (some 76) _ = _
                        simp only [Act.put, List.setIfInBounds_toArray, List.set_cons_zero, List.set_cons_succ, i64_w, i32_w]
                        rfl
                      refine one_ (i := 11) (N := none) #[true, true, true, true, true, true, true, true, true, true, true, true, false, false] rfl rfl (one_of HT_.out (by kernel_rfl)) (by decide) (fun K hK => ?_)
                      have hs39 : w38.cell? ⟨gb255, 0, none⟩ = some (.bool false) := (blk_cell BK255.out 0).trans rfl
                      have hfs39 := blk_frozen BK255.out 0
                      have hs40 : w38.cell? ⟨gb255, 1, none⟩ = some (.int .i64 0) := (blk_cell BK255.out 1).trans rfl
                      have hfs40 := blk_frozen BK255.out 1
                      have hs41 : w38.cell? ⟨gb255, 2, none⟩ = some (.slice none 0 0) := (blk_cell BK255.out 2).trans rfl
                      have hfs41 := blk_frozen BK255.out 2
                      refine skip_ (w1 := ?_) (by rfl) rfl ?_ ?_
                      rotate_left
                      · go_simp
                        rfl
                      refine hK.out _ _ ⟨((cell_far (p := ⟨gb255, _, none⟩) (by first | exact Kd.own_blk (Kd.N_away HO_12.out (fun _ hk => hk.2)) | (rw [add_block]; exact Kd.own_blk (Kd.N_away HO_12.out (fun _ hk => hk.2))) | (show (Addr.add _ _).block ≠ _; rw [add_block]; exact Kd.own_blk (Kd.N_away HO_12.out (fun _ hk => hk.2))) | (dsimp only; exact Kd.own_blk (Kd.N_away HO_12.out (fun _ hk => hk.2)))) _).trans (((cell_far (p := ⟨gb255, _, none⟩) (by first | exact Kd.own_blk (Kd.N_away HO_12.out (fun _ hk => hk.2)) | (rw [add_block]; exact Kd.own_blk (Kd.N_away HO_12.out (fun _ hk => hk.2))) | (show (Addr.add _ _).block ≠ _; rw [add_block]; exact Kd.own_blk (Kd.N_away HO_12.out (fun _ hk => hk.2))) | (dsimp only; exact Kd.own_blk (Kd.N_away HO_12.out (fun _ hk => hk.2)))) _).trans (((cell_far (p := ⟨gb255, _, none⟩) (by first | exact Kd.own_blk (Kd.N_away HO_12.out (fun _ hk => hk.2)) | (rw [add_block]; exact Kd.own_blk (Kd.N_away HO_12.out (fun _ hk => hk.2))) | (show (Addr.add _ _).block ≠ _; rw [add_block]; exact Kd.own_blk (Kd.N_away HO_12.out (fun _ hk => hk.2))) | (dsimp only; exact Kd.own_blk (Kd.N_away HO_12.out (fun _ hk => hk.2)))) _).trans (hHeld.1)))))), ((cell_far (p := ⟨gb255, _, none⟩) (by first | exact Kd.own_blk (Kd.N_away HO_12.out (fun _ hk => hk.2)) | (rw [add_block]; exact Kd.own_blk (Kd.N_away HO_12.out (fun _ hk => hk.2))) | (show (Addr.add _ _).block ≠ _; rw [add_block]; exact Kd.own_blk (Kd.N_away HO_12.out (fun _ hk => hk.2))) | (dsimp only; exact Kd.own_blk (Kd.N_away HO_12.out (fun _ hk => hk.2)))) _).trans (((cell_far (p := ⟨gb255, _, none⟩) (by first | exact Kd.own_blk (Kd.N_away HO_12.out (fun _ hk => hk.2)) | (rw [add_block]; exact Kd.own_blk (Kd.N_away HO_12.out (fun _ hk => hk.2))) | (show (Addr.add _ _).block ≠ _; rw [add_block]; exact Kd.own_blk (Kd.N_away HO_12.out (fun _ hk => hk.2))) | (dsimp only; exact Kd.own_blk (Kd.N_away HO_12.out (fun _ hk => hk.2)))) _).trans (((cell_far (p := ⟨gb255, _, none⟩) (by first | exact Kd.own_blk (Kd.N_away HO_12.out (fun _ hk => hk.2)) | (rw [add_block]; exact Kd.own_blk (Kd.N_away HO_12.out (fun _ hk => hk.2))) | (show (Addr.add _ _).block ≠ _; rw [add_block]; exact Kd.own_blk (Kd.N_away HO_12.out (fun _ hk => hk.2))) | (dsimp only; exact Kd.own_blk (Kd.N_away HO_12.out (fun _ hk => hk.2)))) _).trans (hHeld.2.1)))))), ((cell_far (p := ⟨gb255, _, none⟩) (by first | exact Kd.own_blk (Kd.N_away HO_12.out (fun _ hk => hk.2)) | (rw [add_block]; exact Kd.own_blk (Kd.N_away HO_12.out (fun _ hk => hk.2))) | (show (Addr.add _ _).block ≠ _; rw [add_block]; exact Kd.own_blk (Kd.N_away HO_12.out (fun _ hk => hk.2))) | (dsimp only; exact Kd.own_blk (Kd.N_away HO_12.out (fun _ hk => hk.2)))) _).trans (((cell_far (p := ⟨gb255, _, none⟩) (by first | exact Kd.own_blk (Kd.N_away HO_12.out (fun _ hk => hk.2)) | (rw [add_block]; exact Kd.own_blk (Kd.N_away HO_12.out (fun _ hk => hk.2))) | (show (Addr.add _ _).block ≠ _; rw [add_block]; exact Kd.own_blk (Kd.N_away HO_12.out (fun _ hk => hk.2))) | (dsimp only; exact Kd.own_blk (Kd.N_away HO_12.out (fun _ hk => hk.2)))) _).trans (((cell_far (p := ⟨gb255, _, none⟩) (by first | exact Kd.own_blk (Kd.N_away HO_12.out (fun _ hk => hk.2)) | (rw [add_block]; exact Kd.own_blk (Kd.N_away HO_12.out (fun _ hk => hk.2))) | (show (Addr.add _ _).block ≠ _; rw [add_block]; exact Kd.own_blk (Kd.N_away HO_12.out (fun _ hk => hk.2))) | (dsimp only; exact Kd.own_blk (Kd.N_away HO_12.out (fun _ hk => hk.2)))) _).trans (hHeld.2.2.1)))))), ((cell_far (p := ⟨gb255, _, none⟩) (by first | exact Kd.own_blk (Kd.N_away HO_12.out (fun _ hk => hk.2)) | (rw [add_block]; exact Kd.own_blk (Kd.N_away HO_12.out (fun _ hk => hk.2))) | (show (Addr.add _ _).block ≠ _; rw [add_block]; exact Kd.own_blk (Kd.N_away HO_12.out (fun _ hk => hk.2))) | (dsimp only; exact Kd.own_blk (Kd.N_away HO_12.out (fun _ hk => hk.2)))) _).trans (((cell_far (p := ⟨gb255, _, none⟩) (by first | exact Kd.own_blk (Kd.N_away HO_12.out (fun _ hk => hk.2)) | (rw [add_block]; exact Kd.own_blk (Kd.N_away HO_12.out (fun _ hk => hk.2))) | (show (Addr.add _ _).block ≠ _; rw [add_block]; exact Kd.own_blk (Kd.N_away HO_12.out (fun _ hk => hk.2))) | (dsimp only; exact Kd.own_blk (Kd.N_away HO_12.out (fun _ hk => hk.2)))) _).trans (((cell_far (p := ⟨gb255, _, none⟩) (by first | exact Kd.own_blk (Kd.N_away HO_12.out (fun _ hk => hk.2)) | (rw [add_block]; exact Kd.own_blk (Kd.N_away HO_12.out (fun _ hk => hk.2))) | (show (Addr.add _ _).block ≠ _; rw [add_block]; exact Kd.own_blk (Kd.N_away HO_12.out (fun _ hk => hk.2))) | (dsimp only; exact Kd.own_blk (Kd.N_away HO_12.out (fun _ hk => hk.2)))) _).trans (hHeld.2.2.2.1)))))), ((cell_far (p := ⟨gb255, _, none⟩) (by first | exact Kd.own_blk (Kd.N_away HO_12.out (fun _ hk => hk.2)) | (rw [add_block]; exact Kd.own_blk (Kd.N_away HO_12.out (fun _ hk => hk.2))) | (show (Addr.add _ _).block ≠ _; rw [add_block]; exact Kd.own_blk (Kd.N_away HO_12.out (fun _ hk => hk.2))) | (dsimp only; exact Kd.own_blk (Kd.N_away HO_12.out (fun _ hk => hk.2)))) _).trans (((cell_far (p := ⟨gb255, _, none⟩) (by first | exact Kd.own_blk (Kd.N_away HO_12.out (fun _ hk => hk.2)) | (rw [add_block]; exact Kd.own_blk (Kd.N_away HO_12.out (fun _ hk => hk.2))) | (show (Addr.add _ _).block ≠ _; rw [add_block]; exact Kd.own_blk (Kd.N_away HO_12.out (fun _ hk => hk.2))) | (dsimp only; exact Kd.own_blk (Kd.N_away HO_12.out (fun _ hk => hk.2)))) _).trans (((cell_far (p := ⟨gb255, _, none⟩) (by first | exact Kd.own_blk (Kd.N_away HO_12.out (fun _ hk => hk.2)) | (rw [add_block]; exact Kd.own_blk (Kd.N_away HO_12.out (fun _ hk => hk.2))) | (show (Addr.add _ _).block ≠ _; rw [add_block]; exact Kd.own_blk (Kd.N_away HO_12.out (fun _ hk => hk.2))) | (dsimp only; exact Kd.own_blk (Kd.N_away HO_12.out (fun _ hk => hk.2)))) _).trans (hHeld.2.2.2.2.1)))))), ((cell_far (p := ⟨gb255, _, none⟩) (by first | exact Kd.own_blk (Kd.N_away HO_12.out (fun _ hk => hk.2)) | (rw [add_block]; exact Kd.own_blk (Kd.N_away HO_12.out (fun _ hk => hk.2))) | (show (Addr.add _ _).block ≠ _; rw [add_block]; exact Kd.own_blk (Kd.N_away HO_12.out (fun _ hk => hk.2))) | (dsimp only; exact Kd.own_blk (Kd.N_away HO_12.out (fun _ hk => hk.2)))) _).trans (((cell_far (p := ⟨gb255, _, none⟩) (by first | exact Kd.own_blk (Kd.N_away HO_12.out (fun _ hk => hk.2)) | (rw [add_block]; exact Kd.own_blk (Kd.N_away HO_12.out (fun _ hk => hk.2))) | (show (Addr.add _ _).block ≠ _; rw [add_block]; exact Kd.own_blk (Kd.N_away HO_12.out (fun _ hk => hk.2))) | (dsimp only; exact Kd.own_blk (Kd.N_away HO_12.out (fun _ hk => hk.2)))) _).trans (((cell_far (p := ⟨gb255, _, none⟩) (by first | exact Kd.own_blk (Kd.N_away HO_12.out (fun _ hk => hk.2)) | (rw [add_block]; exact Kd.own_blk (Kd.N_away HO_12.out (fun _ hk => hk.2))) | (show (Addr.add _ _).block ≠ _; rw [add_block]; exact Kd.own_blk (Kd.N_away HO_12.out (fun _ hk => hk.2))) | (dsimp only; exact Kd.own_blk (Kd.N_away HO_12.out (fun _ hk => hk.2)))) _).trans (hHeld.2.2.2.2.2))))))⟩ (fun hHeld => ?_)
                      clear hK K
                      refine pure_ (i := 12) (N := some 9) (v := ?_) (a' := ?_) #[true, true, true, true, true, true, true, true, true, true, true, true, true, false] rfl rfl (any_of HT_.out (by kernel_rfl)) (fun _ _ _ h => h) (Or.inl ⟨by rfl, ?_⟩) ?_ ?_
                      rotate_left
                      · intro w'
                        go_simp
                        with_reducible rfl
                      rotate_left
                      · simp only [Act.put, List.setIfInBounds_toArray, List.set_cons_zero, List.set_cons_succ, i64_w, i32_w]
                        rfl
                      refine pure_ (i := 13) (N := some 10) (v := ?_) (a' := ?_) #[true, true, true, true, true, true, true, true, true, true, true, true, true, true] rfl rfl (any_of HT_.out (by kernel_rfl)) (fun _ _ _ h => h) (Or.inl ⟨by rfl, ?_⟩) ?_ ?_
                      rotate_left
                      · intro w'
                        go_simp
                        with_reducible rfl
                      rotate_left
                      · simp only [Act.put, List.setIfInBounds_toArray, List.set_cons_zero, List.set_cons_succ, i64_w, i32_w]
                        rfl
                      refine done_ (done_of HT_.out (by kernel_rfl)) ?_
                      try go_wp2
                      refine bodyPost_ret (results_ctt rfl _ _ gb255 26 #[.bool ((rd_T26 t257 x13_2).f0), .int .i64 ((rd_T26 t257 x13_2).f1), .slice A260_2 ((rd_T26 t257 x13_2).f2).length c260_2] (0, 0) _ rfl (by (with_reducible repeat (first | refine blk_drewN ?_ _ | refine blk_drew ?_ | refine blk_alloc ?_ _)); refine blk_put (cs := #[.bool ((rd_T26 t257 x13_2).f0), .int .i64 ((rd_T26 t257 x13_2).f1), .slice none 0 0]) ?_ 2 _ rfl; (with_reducible repeat (first | refine blk_drewN ?_ _ | refine blk_drew ?_ | refine blk_alloc ?_ _)); refine blk_put (cs := #[.bool ((rd_T26 t257 x13_2).f0), .int .i64 0, .slice none 0 0]) ?_ 1 _ rfl; (with_reducible repeat (first | refine blk_drewN ?_ _ | refine blk_drew ?_ | refine blk_alloc ?_ _)); refine blk_put (cs := #[.bool false, .int .i64 0, .slice none 0 0]) ?_ 0 _ rfl; (with_reducible repeat (first | refine blk_drewN ?_ _ | refine blk_drew ?_ | refine blk_alloc ?_ _)); exact BK255.out) Try.underlying26 rfl (by kernel_rfl)) rfl ?_
                      exact ⟨_, by first | rfl | (simp [errW_none, errW_some] <;> rfl) | (simp [*, errW_none, errW_some] <;> rfl), by (with_reducible repeat (first | apply Kd.V_alloc | apply Kd.V_drewN | apply Kd.V_drew)); exact Kd.V_mono (Kd.V_far (p := ⟨gb255, 2, none⟩) (Kd.V_far (p := ⟨gb255, 1, none⟩) (Kd.V_far (p := ⟨gb255, 0, none⟩) (Kd.V_mono HL260_2.out (fun k_ hk => (⟨hk, hk.1.2⟩ : _ ∧ k_ ≠ gb255))) (fun _ hk => hk.2) (.bool ((rd_T26 t257 x13_2).f0))) (fun _ hk => hk.2) (.int .i64 ((rd_T26 t257 x13_2).f1))) (fun _ hk => hk.2) (.slice A260_2 ((rd_T26 t257 x13_2).f2).length c260_2)) (fun _ hk => hk.1.1.1), by repeat (first | (with_reducible first | exact HB.out | apply below_alloc | apply pw_below_drewN | apply below_drew1 | refine below_set ?_ GE255.out) | exact HB.out)⟩
                    · rw [if_neg c34] at H
                      exact absurd H (by simp)
                  · rw [if_neg c33] at H
                    exact absurd H (by simp)
          · replace c15 := Bool.eq_false_iff.mpr c15
            subst c15
            have H1 : (some (false, 0, ([] : List (S39)), 0, 6)) = some (r1, r2, r3, r4, r5) := by rw [if_neg (show ¬ (false = true) by decide)] at H; exact H
            clear H
            have H := H1
            clear H1
            simp only [Option.some.injEq, Prod.mk.injEq] at H
            obtain ⟨rfl, rfl, rfl, rfl, rfl⟩ := H
            go_wp2_with (first | ((with_reducible refine gate_callee (f := 13) rfl ?_); refine goesL_ (some 35) rfl rfl Try.func13 (by kernel_rfl) rfl #[.slice A0 l0.length c0] rfl (by (try simp only [List.map_toArray, List.map_cons, List.map_nil]); first | done | rfl | (simp only [List.length_drop, List.length_take]; rfl)) ?_; (with_reducible refine (serinetteref13_Near.calls kj4 _ _ l0 false _ ?side1 ?side2 A14.out).mono ?_); (case side1 => repeat (first | exact (Kd.V_reads' HO_0.out).2.2 | (with_reducible refine Kd.C_alloc ?_ _) | (with_reducible refine Kd.C_drewN ?_ _) | (with_reducible refine Kd.C_drew ?_))); (case side2 => exact (Kd.V_reads' HO_0.out).2.1); rintro e w' ⟨rfl, ⟨nd, rfl⟩⟩; refine ⟨_, rfl, ?_⟩; (try (rw [drewN_self wc]; generalize hq_ : World.drewN wc _ = wc; have n0_ : Aside0 (Kd.V (Kd.int .i64) 3 wc w.heap.size (fun k_ => (P0_ k_ ∨ w.heap.size ≤ k_) ∧ k_ ≠ gb255) (.slice A0 l0.length c0) l0) := ⟨by rw [← hq_]; exact (by (with_reducible repeat (first | apply Kd.V_alloc | apply Kd.V_drewN | apply Kd.V_drew)); exact HO_0.out)⟩; have n1_ : Aside0 (wc.heap[gb255]? = some (.cells #[.bool false, .int .i64 0, .slice none 0 0] 26 (0, 0))) := ⟨by rw [← hq_]; exact (by (with_reducible repeat (first | refine blk_drewN ?_ _ | refine blk_drew ?_ | refine blk_alloc ?_ _)); exact BK255.out)⟩; have n2_ : Aside0 (Below w.heap.size w wc) := ⟨by rw [← hq_]; exact (by repeat (first | (with_reducible first | exact HB.out | apply below_alloc | apply pw_below_drewN | apply below_drew1 | refine below_set ?_ GE255.out) | exact HB.out))⟩; clear HO_0 BK255 HB hq_; have HO_0 := n0_; have BK255 := n1_; have HB := n2_; clear n0_ n1_ n2_)); have hcz42_0 : wc.cell? ⟨gb255, 0, none⟩ = some (.bool false) := (blk_cell BK255.out 0).trans rfl; have hcz42_1 : wc.cell? ⟨gb255, 1, none⟩ = some (.int .i64 0) := (blk_cell BK255.out 1).trans rfl; have hcz42_2 : wc.cell? ⟨gb255, 2, none⟩ = some (.slice none 0 0) := (blk_cell BK255.out 2).trans rfl; have hfz42_0 := blk_frozen BK255.out 0; have hfz42_1 := blk_frozen BK255.out 1; have hfz42_2 := blk_frozen BK255.out 2))
            refine bodyPost_ret (results_ctt rfl _ _ gb255 26 #[.bool false, .int .i64 0, .slice none 0 0] (0, 0) _ rfl (by (with_reducible repeat (first | refine blk_drewN ?_ _ | refine blk_drew ?_ | refine blk_alloc ?_ _)); refine blk_put (cs := #[.bool false, .int .i64 0, .slice none 0 0]) ?_ 2 _ rfl; (with_reducible repeat (first | refine blk_drewN ?_ _ | refine blk_drew ?_ | refine blk_alloc ?_ _)); refine blk_put (cs := #[.bool false, .int .i64 0, .slice none 0 0]) ?_ 1 _ rfl; (with_reducible repeat (first | refine blk_drewN ?_ _ | refine blk_drew ?_ | refine blk_alloc ?_ _)); refine blk_put (cs := #[.bool false, .int .i64 0, .slice none 0 0]) ?_ 0 _ rfl; (with_reducible repeat (first | refine blk_drewN ?_ _ | refine blk_drew ?_ | refine blk_alloc ?_ _)); exact BK255.out) Try.underlying26 rfl (by kernel_rfl)) rfl ?_
            exact ⟨_, by first | rfl | (simp [errW_none, errW_some] <;> rfl) | (simp [*, errW_none, errW_some] <;> rfl), (by first | exact Kd.V_nil _ _ _ _ _ | exact Kd.V_mono (Kd.R_V (by first | exact Kd.R_nil _ _ _ _ _ | exact Kd.N_nil _ _ _ _ _ | exact Kd.V_nil _ _ _ _ _ | exact Kd.Q_nil _ _ _ _ _ | exact Kd.S_nil _ _ _ _ _)) (fun k_ hk => by first | exact ⟨(.inr (hk.1)), hk.2⟩ | exact (.inr (hk)))), by repeat (first | (with_reducible first | exact HB.out | apply below_alloc | apply pw_below_drewN | apply below_drew1 | refine below_set ?_ GE255.out) | exact HB.out)⟩

end Go.Proofs.Ytpoigjkkcehpdaa.PA
