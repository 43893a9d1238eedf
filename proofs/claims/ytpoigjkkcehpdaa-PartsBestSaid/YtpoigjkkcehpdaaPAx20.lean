/- Each Go function named below comes to what the plain Lean function of its name answers, wherever that answers (rounds enough, no panic, no row too long); texts by a program of this session by way of the kit's print.py, what that does not take by hand. Condition: what is read lies in memory as each theorem says. -/
import Derived.Test.YtpoigjkkcehpdaaPAx0
import Derived.Test.YtpoigjkkcehpdaaPAx1
namespace Go.Proofs.Ytpoigjkkcehpdaa.PA
open Go.RowKit Go.Proofs.YtpoigjkkcehpdaaW.PrintWords Go.Proofs.YtpoigjkkcehpdaaW.PrintLast Go.Proofs.YtpoigjkkcehpdaaW.PrintMore
attribute [local go_sem] max2_int min2_int max_two min_two max_three min_three max_four min_four   -- for this text's walks alone
set_option linter.unusedVariables false
set_option linter.unusedSimpArgs false

attribute [local go_sem high] eqA39
/-! ### serinetteref14_Same: function 11 -/
mutual
def serinetteref14_Same.j0 : Nat → Bool → Bool → Int → List (S39) → Bool → Int → List (S39) → Option (Bool)
  | 0, _, _, _, _, _, _, _ => none
  | k + 1, x26, x268000, x268001, x268002, x269000, x269001, x269002 => if x26 = true then (some false) else (serinetteref14_Same.l0 k 0 x268000 x268001 x268002 x269000 x269001 x269002)
def serinetteref14_Same.l0 : Nat → Int → Bool → Int → List (S39) → Bool → Int → List (S39) → Option (Bool)
  | 0, _, _, _, _, _, _, _ => none
  | k + 1, x5, x268000, x268001, x268002, x269000, x269001, x269002 => if x5 < (x268002.length : Int) then (if 0 ≤ x5 then (if x5 < (x269002.length : Int) then (if (!(((rd_T39 x268002 x5).f0) == ((rd_T39 x269002 x5).f0)) || (!(((rd_T39 x268002 x5).f1) == ((rd_T39 x269002 x5).f1)))) = true then (some false) else (serinetteref14_Same.l0 k (wrap64 (x5 + 1)) x268000 x268001 x268002 x269000 x269001 x269002)) else (none)) else (none)) else (some true)
end
def serinetteref14_Same.f (k : Nat) (a0_0 : Bool) (a0_1 : Int) (l0_2 : List (S39)) (a1_0 : Bool) (a1_1 : Int) (l1_2 : List (S39)) : Option (Bool) := if (a0_0 != a1_0) = true then (serinetteref14_Same.j0 k true a0_0 a0_1 l0_2 a1_0 a1_1 l1_2) else (if a0_1 = a1_1 then (serinetteref14_Same.j0 k ((l0_2.length : Int) != (l1_2.length : Int)) a0_0 a0_1 l0_2 a1_0 a1_1 l1_2) else (serinetteref14_Same.j0 k true a0_0 a0_1 l0_2 a1_0 a1_1 l1_2))
theorem serinetteref14_Same.mono_l : ∀ k, (∀ y0 y1 y2 y3 y4 y5 y6, LeO (serinetteref14_Same.j0 k y0 y1 y2 y3 y4 y5 y6) (serinetteref14_Same.j0 (k + 1) y0 y1 y2 y3 y4 y5 y6)) ∧ (∀ y0 y1 y2 y3 y4 y5 y6, LeO (serinetteref14_Same.l0 k y0 y1 y2 y3 y4 y5 y6) (serinetteref14_Same.l0 (k + 1) y0 y1 y2 y3 y4 y5 y6))
  | 0 => ⟨fun _ _ _ _ _ _ _ r h => by simp [serinetteref14_Same.j0] at h, fun _ _ _ _ _ _ _ r h => by simp [serinetteref14_Same.l0] at h⟩
  | k + 1 => by
    obtain ⟨ih0, ih1⟩ := serinetteref14_Same.mono_l k
    refine ⟨?_, ?_⟩
    · intro y0 y1 y2 y3 y4 y5 y6
      unfold serinetteref14_Same.j0
      repeat' first
      | (with_reducible exact ih0 _ _ _ _ _ _ _)
      | (with_reducible exact ih1 _ _ _ _ _ _ _)
      | (with_reducible exact LeO.refl _)
      | (with_reducible exact LeO.none _)
      | (with_reducible refine LeO.ite ?_ ?_)
      | (with_reducible refine LeO.bind ?_ (fun _ => ?_))
      | exact ih0 _ _ _ _ _ _ _
      | exact ih1 _ _ _ _ _ _ _
      | exact LeO.none _
      | refine LeO.ite ?_ ?_
      | refine LeO.bind ?_ (fun _ => ?_)
    · intro y0 y1 y2 y3 y4 y5 y6
      unfold serinetteref14_Same.l0
      repeat' first
      | (with_reducible exact ih0 _ _ _ _ _ _ _)
      | (with_reducible exact ih1 _ _ _ _ _ _ _)
      | (with_reducible exact LeO.refl _)
      | (with_reducible exact LeO.none _)
      | (with_reducible refine LeO.ite ?_ ?_)
      | (with_reducible refine LeO.bind ?_ (fun _ => ?_))
      | exact ih0 _ _ _ _ _ _ _
      | exact ih1 _ _ _ _ _ _ _
      | exact LeO.none _
      | refine LeO.ite ?_ ?_
      | refine LeO.bind ?_ (fun _ => ?_)
theorem serinetteref14_Same.mono : ∀ a0 a1 a2 a3 a4 a5 k, LeO (serinetteref14_Same.f k a0 a1 a2 a3 a4 a5) (serinetteref14_Same.f (k + 1) a0 a1 a2 a3 a4 a5) := by
  intro a0 a1 a2 a3 a4 a5 k
  obtain ⟨ih0, ih1⟩ := serinetteref14_Same.mono_l k
  unfold serinetteref14_Same.f
  repeat' first
      | (with_reducible exact ih0 _ _ _ _ _ _ _)
      | (with_reducible exact ih1 _ _ _ _ _ _ _)
      | (with_reducible exact LeO.refl _)
      | (with_reducible exact LeO.none _)
      | (with_reducible refine LeO.ite ?_ ?_)
      | (with_reducible refine LeO.bind ?_ (fun _ => ?_))
      | exact ih0 _ _ _ _ _ _ _
      | exact ih1 _ _ _ _ _ _ _
      | exact LeO.none _
      | refine LeO.ite ?_ ?_
      | refine LeO.bind ?_ (fun _ => ?_)
set_option maxHeartbeats 8000000 in
set_option maxRecDepth 100000 in
theorem serinetteref14_Same.calls (k : Nat) (a0_0 : Bool) (a0_1 : Int) (A0_2 : Option Addr) (c0_2 : Nat) (l0_2 : List (S39)) (a1_0 : Bool) (a1_1 : Int) (A1_2 : Option Addr) (c1_2 : Nat) (l1_2 : List (S39)) (r : Bool) (w : World) (hr0_2 : Kd.C k39 w A0_2 l0_2.length l0_2) (hc0_2 : l0_2.length ≤ c0_2) (hr1_2 : Kd.C k39 w A1_2 l1_2.length l1_2) (hc1_2 : l1_2.length ≤ c1_2) (h : serinetteref14_Same.f k a0_0 a0_1 l0_2 a1_0 a1_1 l1_2 = some r) :
    Calls Try.prog 11 #[.agg #[.bool a0_0, .int .i64 a0_1, .slice A0_2 l0_2.length c0_2], .agg #[.bool a1_0, .int .i64 a1_1, .slice A1_2 l1_2.length c1_2]] w fun e w' => e = .returned (.bool r) ∧ Below w.heap.size w w' := by
  have hu26 := Try.underlying26
  have hu39 := Try.underlying39
  have HR0_2 := Aside0.mk hr0_2
  have HC0_2 := Aside0.mk hc0_2
  clear hr0_2 hc0_2
  have HR1_2 := Aside0.mk hr1_2
  have HC1_2 := Aside0.mk hc1_2
  clear hr1_2 hc1_2
  have HB := Aside0.mk (Below.refl w.heap.size w)
  have H : (if (a0_0 != a1_0) = true then (serinetteref14_Same.j0 k true a0_0 a0_1 l0_2 a1_0 a1_1 l1_2) else (if a0_1 = a1_1 then (serinetteref14_Same.j0 k ((l0_2.length : Int) != (l1_2.length : Int)) a0_0 a0_1 l0_2 a1_0 a1_1 l1_2) else (serinetteref14_Same.j0 k true a0_0 a0_1 l0_2 a1_0 a1_1 l1_2))) = some r := h
  clear h
  have HC3 := Aside0.mk H
  clear H
  go_enter Try.func11, Try.ntmps11
  go_upto_region 1 with (first | ((with_reducible refine gate_dst (N := 2) rfl ?_); (try (refine gate_guard (by rfl) ?_; dsimp only)); refine box_event ?hg (N := 2) ?hd (cs := #[.bool a0_0, .int .i64 a0_1, .slice A0_2 l0_2.length c0_2]) (t := 26) ?hr ?_; (case hd => rfl); (case hg => rfl); (case hr => first | (go_simp; done) | (go_simp; rfl)); intro gb267 hg w4 hbox hb; have n0_ := Aside0.mk (below_step (by repeat (first | (with_reducible first | exact HB.out | apply below_alloc | apply pw_below_drewN | apply below_drew1) | exact HB.out)) hb); have n1_ := Aside0.mk (hbox); have n2_ := Aside0.mk ((by rw [hg]; exact (below_size (by repeat (first | (with_reducible first | exact HB.out | apply below_alloc | apply pw_below_drewN | apply below_drew1) | exact HB.out))) : w.heap.size ≤ gb267)); have n3_ := Aside0.mk ((by rw [hg]; exact (below_size (by repeat (first | (with_reducible first | exact HB.out | apply below_alloc | apply pw_below_drewN | apply below_drew1) | exact HB.out))) : w.heap.size ≤ gb267)); clear HB; have HB := n0_; have BK267 := n1_; have GW267 := n2_; have GE267 := n3_; clear n0_ n1_ n2_ n3_; clear hb hbox hg) | ((with_reducible refine gate_dst (N := 3) rfl ?_); (try (refine gate_guard (by rfl) ?_; dsimp only)); refine box_event ?hg (N := 3) ?hd (cs := #[.bool a1_0, .int .i64 a1_1, .slice A1_2 l1_2.length c1_2]) (t := 26) ?hr ?_; (case hd => rfl); (case hg => rfl); (case hr => first | (go_simp; done) | (go_simp; rfl)); intro gb268 hg w5 hbox hb; have n0_ := Aside0.mk (blk_below (g := gb267) (o := .cells #[.bool a0_0, .int .i64 a0_1, .slice A0_2 l0_2.length c0_2] 26 (0, 0)) (by (with_reducible repeat (first | refine blk_drewN ?_ _ | refine blk_drew ?_ | refine blk_alloc ?_ _)); exact BK267.out) hb); have n1_ := Aside0.mk (below_step (by repeat (first | (with_reducible first | exact HB.out | apply below_alloc | apply pw_below_drewN | apply below_drew1 | refine below_set ?_ GE267.out) | exact HB.out)) hb); have n2_ := Aside0.mk (hbox); have n3_ := Aside0.mk ((by rw [hg]; exact (below_size (by repeat (first | (with_reducible first | exact HB.out | apply below_alloc | apply pw_below_drewN | apply below_drew1 | refine below_set ?_ GE267.out) | exact HB.out))) : w.heap.size ≤ gb268)); have n4_ := Aside0.mk ((by rw [hg]; exact (below_size (by repeat (first | (with_reducible first | exact HB.out | apply below_alloc | apply pw_below_drewN | apply below_drew1 | refine below_set ?_ GE267.out) | exact HB.out))) : w.heap.size ≤ gb268)); have n5_ := Aside0.mk ((by rw [hg]; exact Nat.ne_of_lt (blk_lt (g := gb267) (o := .cells #[.bool a0_0, .int .i64 a0_1, .slice A0_2 l0_2.length c0_2] 26 (0, 0)) (by (with_reducible repeat (first | refine blk_drewN ?_ _ | refine blk_drew ?_ | refine blk_alloc ?_ _)); exact BK267.out)) : gb267 ≠ gb268)); have n6_ := Aside0.mk ((by rw [hg]; exact Nat.ne_of_gt (blk_lt (g := gb267) (o := .cells #[.bool a0_0, .int .i64 a0_1, .slice A0_2 l0_2.length c0_2] 26 (0, 0)) (by (with_reducible repeat (first | refine blk_drewN ?_ _ | refine blk_drew ?_ | refine blk_alloc ?_ _)); exact BK267.out)) : gb268 ≠ gb267)); clear BK267; clear HB; have BK267 := n0_; have HB := n1_; have BK268 := n2_; have GW268 := n3_; have GE268 := n4_; have NB267_268 := n5_; have NB268_267 := n6_; clear n0_ n1_ n2_ n3_ n4_ n5_ n6_; clear hb hbox hg))
  repeat (go_quiet (first | ((with_reducible refine gate_dst (N := 2) rfl ?_); (try (refine gate_guard (by rfl) ?_; dsimp only)); refine box_event ?hg (N := 2) ?hd (cs := #[.bool a0_0, .int .i64 a0_1, .slice A0_2 l0_2.length c0_2]) (t := 26) ?hr ?_; (case hd => rfl); (case hg => rfl); (case hr => first | (go_simp; done) | (go_simp; rfl)); intro gb267 hg w4 hbox hb; have n0_ := Aside0.mk (below_step (by repeat (first | (with_reducible first | exact HB.out | apply below_alloc | apply pw_below_drewN | apply below_drew1) | exact HB.out)) hb); have n1_ := Aside0.mk (hbox); have n2_ := Aside0.mk ((by rw [hg]; exact (below_size (by repeat (first | (with_reducible first | exact HB.out | apply below_alloc | apply pw_below_drewN | apply below_drew1) | exact HB.out))) : w.heap.size ≤ gb267)); have n3_ := Aside0.mk ((by rw [hg]; exact (below_size (by repeat (first | (with_reducible first | exact HB.out | apply below_alloc | apply pw_below_drewN | apply below_drew1) | exact HB.out))) : w.heap.size ≤ gb267)); clear HB; have HB := n0_; have BK267 := n1_; have GW267 := n2_; have GE267 := n3_; clear n0_ n1_ n2_ n3_; clear hb hbox hg) | ((with_reducible refine gate_dst (N := 3) rfl ?_); (try (refine gate_guard (by rfl) ?_; dsimp only)); refine box_event ?hg (N := 3) ?hd (cs := #[.bool a1_0, .int .i64 a1_1, .slice A1_2 l1_2.length c1_2]) (t := 26) ?hr ?_; (case hd => rfl); (case hg => rfl); (case hr => first | (go_simp; done) | (go_simp; rfl)); intro gb268 hg w5 hbox hb; have n0_ := Aside0.mk (blk_below (g := gb267) (o := .cells #[.bool a0_0, .int .i64 a0_1, .slice A0_2 l0_2.length c0_2] 26 (0, 0)) (by (with_reducible repeat (first | refine blk_drewN ?_ _ | refine blk_drew ?_ | refine blk_alloc ?_ _)); exact BK267.out) hb); have n1_ := Aside0.mk (below_step (by repeat (first | (with_reducible first | exact HB.out | apply below_alloc | apply pw_below_drewN | apply below_drew1 | refine below_set ?_ GE267.out) | exact HB.out)) hb); have n2_ := Aside0.mk (hbox); have n3_ := Aside0.mk ((by rw [hg]; exact (below_size (by repeat (first | (with_reducible first | exact HB.out | apply below_alloc | apply pw_below_drewN | apply below_drew1 | refine below_set ?_ GE267.out) | exact HB.out))) : w.heap.size ≤ gb268)); have n4_ := Aside0.mk ((by rw [hg]; exact (below_size (by repeat (first | (with_reducible first | exact HB.out | apply below_alloc | apply pw_below_drewN | apply below_drew1 | refine below_set ?_ GE267.out) | exact HB.out))) : w.heap.size ≤ gb268)); have n5_ := Aside0.mk ((by rw [hg]; exact Nat.ne_of_lt (blk_lt (g := gb267) (o := .cells #[.bool a0_0, .int .i64 a0_1, .slice A0_2 l0_2.length c0_2] 26 (0, 0)) (by (with_reducible repeat (first | refine blk_drewN ?_ _ | refine blk_drew ?_ | refine blk_alloc ?_ _)); exact BK267.out)) : gb267 ≠ gb268)); have n6_ := Aside0.mk ((by rw [hg]; exact Nat.ne_of_gt (blk_lt (g := gb267) (o := .cells #[.bool a0_0, .int .i64 a0_1, .slice A0_2 l0_2.length c0_2] 26 (0, 0)) (by (with_reducible repeat (first | refine blk_drewN ?_ _ | refine blk_drew ?_ | refine blk_alloc ?_ _)); exact BK267.out)) : gb268 ≠ gb267)); clear BK267; clear HB; have BK267 := n0_; have HB := n1_; have BK268 := n2_; have GW268 := n3_; have GE268 := n4_; have NB267_268 := n5_; have NB268_267 := n6_; clear n0_ n1_ n2_ n3_ n4_ n5_ n6_; clear hb hbox hg)); go_upto_region 1 with (first | ((with_reducible refine gate_dst (N := 2) rfl ?_); (try (refine gate_guard (by rfl) ?_; dsimp only)); refine box_event ?hg (N := 2) ?hd (cs := #[.bool a0_0, .int .i64 a0_1, .slice A0_2 l0_2.length c0_2]) (t := 26) ?hr ?_; (case hd => rfl); (case hg => rfl); (case hr => first | (go_simp; done) | (go_simp; rfl)); intro gb267 hg w4 hbox hb; have n0_ := Aside0.mk (below_step (by repeat (first | (with_reducible first | exact HB.out | apply below_alloc | apply pw_below_drewN | apply below_drew1) | exact HB.out)) hb); have n1_ := Aside0.mk (hbox); have n2_ := Aside0.mk ((by rw [hg]; exact (below_size (by repeat (first | (with_reducible first | exact HB.out | apply below_alloc | apply pw_below_drewN | apply below_drew1) | exact HB.out))) : w.heap.size ≤ gb267)); have n3_ := Aside0.mk ((by rw [hg]; exact (below_size (by repeat (first | (with_reducible first | exact HB.out | apply below_alloc | apply pw_below_drewN | apply below_drew1) | exact HB.out))) : w.heap.size ≤ gb267)); clear HB; have HB := n0_; have BK267 := n1_; have GW267 := n2_; have GE267 := n3_; clear n0_ n1_ n2_ n3_; clear hb hbox hg) | ((with_reducible refine gate_dst (N := 3) rfl ?_); (try (refine gate_guard (by rfl) ?_; dsimp only)); refine box_event ?hg (N := 3) ?hd (cs := #[.bool a1_0, .int .i64 a1_1, .slice A1_2 l1_2.length c1_2]) (t := 26) ?hr ?_; (case hd => rfl); (case hg => rfl); (case hr => first | (go_simp; done) | (go_simp; rfl)); intro gb268 hg w5 hbox hb; have n0_ := Aside0.mk (blk_below (g := gb267) (o := .cells #[.bool a0_0, .int .i64 a0_1, .slice A0_2 l0_2.length c0_2] 26 (0, 0)) (by (with_reducible repeat (first | refine blk_drewN ?_ _ | refine blk_drew ?_ | refine blk_alloc ?_ _)); exact BK267.out) hb); have n1_ := Aside0.mk (below_step (by repeat (first | (with_reducible first | exact HB.out | apply below_alloc | apply pw_below_drewN | apply below_drew1 | refine below_set ?_ GE267.out) | exact HB.out)) hb); have n2_ := Aside0.mk (hbox); have n3_ := Aside0.mk ((by rw [hg]; exact (below_size (by repeat (first | (with_reducible first | exact HB.out | apply below_alloc | apply pw_below_drewN | apply below_drew1 | refine below_set ?_ GE267.out) | exact HB.out))) : w.heap.size ≤ gb268)); have n4_ := Aside0.mk ((by rw [hg]; exact (below_size (by repeat (first | (with_reducible first | exact HB.out | apply below_alloc | apply pw_below_drewN | apply below_drew1 | refine below_set ?_ GE267.out) | exact HB.out))) : w.heap.size ≤ gb268)); have n5_ := Aside0.mk ((by rw [hg]; exact Nat.ne_of_lt (blk_lt (g := gb267) (o := .cells #[.bool a0_0, .int .i64 a0_1, .slice A0_2 l0_2.length c0_2] 26 (0, 0)) (by (with_reducible repeat (first | refine blk_drewN ?_ _ | refine blk_drew ?_ | refine blk_alloc ?_ _)); exact BK267.out)) : gb267 ≠ gb268)); have n6_ := Aside0.mk ((by rw [hg]; exact Nat.ne_of_gt (blk_lt (g := gb267) (o := .cells #[.bool a0_0, .int .i64 a0_1, .slice A0_2 l0_2.length c0_2] 26 (0, 0)) (by (with_reducible repeat (first | refine blk_drewN ?_ _ | refine blk_drew ?_ | refine blk_alloc ?_ _)); exact BK267.out)) : gb268 ≠ gb267)); clear BK267; clear HB; have BK267 := n0_; have HB := n1_; have BK268 := n2_; have GW268 := n3_; have GE268 := n4_; have NB267_268 := n5_; have NB268_267 := n6_; clear n0_ n1_ n2_ n3_ n4_ n5_ n6_; clear hb hbox hg)))
  (try simp only [Act.put, List.setIfInBounds_toArray, List.set_cons_zero, List.set_cons_succ])
  go_cut [26] (fun v26 wc => ∃ (kq : Nat) (x26_2 : Bool), v26 = .bool x26_2 ∧ Aside0 (serinetteref14_Same.j0 kq x26_2 a0_0 a0_1 l0_2 a1_0 a1_1 l1_2 = some r) ∧ Aside0 (kq ≤ k) ∧ Aside0 (wc.heap[gb267]? = some (.cells #[.bool a0_0, .int .i64 a0_1, (.slice A0_2 l0_2.length c0_2)] 26 (0, 0))) ∧ Aside0 (wc.heap[gb268]? = some (.cells #[.bool a1_0, .int .i64 a1_1, (.slice A1_2 l1_2.length c1_2)] 26 (0, 0))) ∧ Aside0 (Below w.heap.size w wc))
  case first =>
    have H := HC3.out
    clear HC3
    by_cases c6 : (a0_0 != a1_0) = true
    · rw [if_pos c6] at H
      have c6b0 : (a0_0 != a1_0) = true := c6
      (try (have c6b1 : decide (a0_0 = a1_0) = false := by simpa using c6))
      (try (have c6b2 : (a0_0 == a1_0) = false := by simpa using c6))
      (try (have c6b3 : ¬ (a0_0 = a1_0) := by simpa using c6))
      clear c6
      (first | rw [c6b0] | (simp only [i64_w, i32_w]; rw [c6b0]) | skip)
      have H' := Aside0.mk H
      clear H
      have hnb7 := NB267_268.out
      have hnc7 := NB268_267.out
      have hcz8_0 : w5.cell? ⟨gb267, 0, none⟩ = some (.bool a0_0) := (blk_cell BK267.out 0).trans rfl
      have hcz8_1 : w5.cell? ⟨gb267, 1, none⟩ = some (.int .i64 a0_1) := (blk_cell BK267.out 1).trans rfl
      have hcz8_2 : w5.cell? ⟨gb267, 2, none⟩ = some (.slice A0_2 l0_2.length c0_2) := (blk_cell BK267.out 2).trans rfl
      have hfz8_0 := blk_frozen BK267.out 0
      have hfz8_1 := blk_frozen BK267.out 1
      have hfz8_2 := blk_frozen BK267.out 2
      have hcz9_0 : w5.cell? ⟨gb268, 0, none⟩ = some (.bool a1_0) := (blk_cell BK268.out 0).trans rfl
      have hcz9_1 : w5.cell? ⟨gb268, 1, none⟩ = some (.int .i64 a1_1) := (blk_cell BK268.out 1).trans rfl
      have hcz9_2 : w5.cell? ⟨gb268, 2, none⟩ = some (.slice A1_2 l1_2.length c1_2) := (blk_cell BK268.out 2).trans rfl
      have hfz9_0 := blk_frozen BK268.out 0
      have hfz9_1 := blk_frozen BK268.out 1
      have hfz9_2 := blk_frozen BK268.out 2
      go_wp2
      repeat (go_quiet (fail); try go_wp2)
      go_meet
      case rel => exact ⟨_, (true), (by first | rfl | (simp; done) | (simp only [i64_w, i32_w]; done) | (simp [*]; done) | (simp only [i64_w, i32_w]; first | rfl | (simp; done) | (simp [*]; done))), H', ⟨by first | omega | exact Nat.le_refl _⟩, ⟨by (with_reducible repeat (first | refine blk_drewN ?_ _ | refine blk_drew ?_ | refine blk_alloc ?_ _)); exact BK267.out⟩, ⟨by (with_reducible repeat (first | refine blk_drewN ?_ _ | refine blk_drew ?_ | refine blk_alloc ?_ _)); exact BK268.out⟩, ⟨by repeat (first | (with_reducible first | exact HB.out | apply below_alloc | apply pw_below_drewN | apply below_drew1 | refine below_set ?_ GE267.out | refine below_set ?_ GE268.out) | exact HB.out)⟩⟩
    · rw [if_neg c6] at H
      have c6b0 : (a0_0 != a1_0) = false := by simpa using c6
      (try (have c6b1 : decide (a0_0 = a1_0) = true := by simpa using c6))
      (try (have c6b2 : (a0_0 == a1_0) = true := by simpa using c6))
      clear c6
      (first | rw [c6b0] | (simp only [i64_w, i32_w]; rw [c6b0]) | skip)
      by_cases c10 : a0_1 = a1_1
      · rw [if_pos c10] at H
        have c10b0 : (a0_1 == a1_1) = true := beq_iff_eq.mpr c10
        have c10b1 : (a0_1 != a1_1) = false := bne_eq_false_iff_eq.mpr c10
        clear c10
        have H' := Aside0.mk H
        clear H
        have hnb11 := NB267_268.out
        have hnc11 := NB268_267.out
        have hcz12_0 : w5.cell? ⟨gb267, 0, none⟩ = some (.bool a0_0) := (blk_cell BK267.out 0).trans rfl
        have hcz12_1 : w5.cell? ⟨gb267, 1, none⟩ = some (.int .i64 a0_1) := (blk_cell BK267.out 1).trans rfl
        have hcz12_2 : w5.cell? ⟨gb267, 2, none⟩ = some (.slice A0_2 l0_2.length c0_2) := (blk_cell BK267.out 2).trans rfl
        have hfz12_0 := blk_frozen BK267.out 0
        have hfz12_1 := blk_frozen BK267.out 1
        have hfz12_2 := blk_frozen BK267.out 2
        have hcz13_0 : w5.cell? ⟨gb268, 0, none⟩ = some (.bool a1_0) := (blk_cell BK268.out 0).trans rfl
        have hcz13_1 : w5.cell? ⟨gb268, 1, none⟩ = some (.int .i64 a1_1) := (blk_cell BK268.out 1).trans rfl
        have hcz13_2 : w5.cell? ⟨gb268, 2, none⟩ = some (.slice A1_2 l1_2.length c1_2) := (blk_cell BK268.out 2).trans rfl
        have hfz13_0 := blk_frozen BK268.out 0
        have hfz13_1 := blk_frozen BK268.out 1
        have hfz13_2 := blk_frozen BK268.out 2
        go_wp2
        repeat (go_quiet (fail); try go_wp2)
        go_meet
        case rel => exact ⟨_, (((l0_2.length : Int) != (l1_2.length : Int))), (by first | rfl | (simp; done) | (simp only [i64_w, i32_w]; done) | (simp [*]; done) | (simp only [i64_w, i32_w]; first | rfl | (simp; done) | (simp [*]; done))), H', ⟨by first | omega | exact Nat.le_refl _⟩, ⟨by (with_reducible repeat (first | refine blk_drewN ?_ _ | refine blk_drew ?_ | refine blk_alloc ?_ _)); exact BK267.out⟩, ⟨by (with_reducible repeat (first | refine blk_drewN ?_ _ | refine blk_drew ?_ | refine blk_alloc ?_ _)); exact BK268.out⟩, ⟨by repeat (first | (with_reducible first | exact HB.out | apply below_alloc | apply pw_below_drewN | apply below_drew1 | refine below_set ?_ GE267.out | refine below_set ?_ GE268.out) | exact HB.out)⟩⟩
      · rw [if_neg c10] at H
        have c10b0 : (a0_1 == a1_1) = false := beq_eq_false_iff_ne.mpr c10
        have c10b1 : (a0_1 != a1_1) = true := bne_iff_ne.mpr c10
        have H' := Aside0.mk H
        clear H
        have hnb14 := NB267_268.out
        have hnc14 := NB268_267.out
        have hcz15_0 : w5.cell? ⟨gb267, 0, none⟩ = some (.bool a0_0) := (blk_cell BK267.out 0).trans rfl
        have hcz15_1 : w5.cell? ⟨gb267, 1, none⟩ = some (.int .i64 a0_1) := (blk_cell BK267.out 1).trans rfl
        have hcz15_2 : w5.cell? ⟨gb267, 2, none⟩ = some (.slice A0_2 l0_2.length c0_2) := (blk_cell BK267.out 2).trans rfl
        have hfz15_0 := blk_frozen BK267.out 0
        have hfz15_1 := blk_frozen BK267.out 1
        have hfz15_2 := blk_frozen BK267.out 2
        have hcz16_0 : w5.cell? ⟨gb268, 0, none⟩ = some (.bool a1_0) := (blk_cell BK268.out 0).trans rfl
        have hcz16_1 : w5.cell? ⟨gb268, 1, none⟩ = some (.int .i64 a1_1) := (blk_cell BK268.out 1).trans rfl
        have hcz16_2 : w5.cell? ⟨gb268, 2, none⟩ = some (.slice A1_2 l1_2.length c1_2) := (blk_cell BK268.out 2).trans rfl
        have hfz16_0 := blk_frozen BK268.out 0
        have hfz16_1 := blk_frozen BK268.out 1
        have hfz16_2 := blk_frozen BK268.out 2
        go_wp2
        repeat (go_quiet (fail); try go_wp2)
        go_meet
        case rel => exact ⟨_, (true), (by first | rfl | (simp; done) | (simp only [i64_w, i32_w]; done) | (simp [*]; done) | (simp only [i64_w, i32_w]; first | rfl | (simp; done) | (simp [*]; done))), H', ⟨by first | omega | exact Nat.le_refl _⟩, ⟨by (with_reducible repeat (first | refine blk_drewN ?_ _ | refine blk_drew ?_ | refine blk_alloc ?_ _)); exact BK267.out⟩, ⟨by (with_reducible repeat (first | refine blk_drewN ?_ _ | refine blk_drew ?_ | refine blk_alloc ?_ _)); exact BK268.out⟩, ⟨by repeat (first | (with_reducible first | exact HB.out | apply below_alloc | apply pw_below_drewN | apply below_drew1 | refine below_set ?_ GE267.out | refine below_set ?_ GE268.out) | exact HB.out)⟩⟩
  case rest =>
    clear HC3
    try clear c1
    try clear p2
    try clear c6
    try clear c6b0
    try clear c6b1
    try clear c6b2
    try clear c7
    try clear c10
    try clear c10b0
    try clear c10b1
    try clear c11
    try clear c14
    try clear hcz12_0
    try clear hcz12_1
    try clear hcz12_2
    try clear hcz13_0
    try clear hcz13_1
    try clear hcz13_2
    try clear hcz15_0
    try clear hcz15_1
    try clear hcz15_2
    try clear hcz16_0
    try clear hcz16_1
    try clear hcz16_2
    try clear hcz8_0
    try clear hcz8_1
    try clear hcz8_2
    try clear hcz9_0
    try clear hcz9_1
    try clear hcz9_2
    try clear hfz12_0
    try clear hfz12_1
    try clear hfz12_2
    try clear hfz13_0
    try clear hfz13_1
    try clear hfz13_2
    try clear hfz15_0
    try clear hfz15_1
    try clear hfz15_2
    try clear hfz16_0
    try clear hfz16_1
    try clear hfz16_2
    try clear hfz8_0
    try clear hfz8_1
    try clear hfz8_2
    try clear hfz9_0
    try clear hfz9_1
    try clear hfz9_2
    obtain ⟨kq, x26_2, rfl, HA, HJ2, BK267, BK268, HB⟩ := hcut
    cases kq with
    | zero => exact absurd HA.out (by simp [serinetteref14_Same.j0])
    | succ kj2 =>
      have H := HA.out
      clear HA
      simp only [serinetteref14_Same.j0] at H
      by_cases c17 : x26_2 = true
      · subst c17
        have H1 : (some false) = some r := by rw [if_pos rfl] at H; exact H
        clear H
        have H := H1
        clear H1
        obtain rfl := Option.some.inj H
        go_wp2
        repeat (go_quiet (fail); try go_wp2)
        go_ret
        exact ⟨by first | rfl | (simp [errW_none, errW_some] <;> rfl) | (simp [*, errW_none, errW_some] <;> rfl), by repeat (first | (with_reducible first | exact HB.out | apply below_alloc | apply pw_below_drewN | apply below_drew1 | refine below_set ?_ GE267.out | refine below_set ?_ GE268.out) | exact HB.out)⟩
      · replace c17 := Bool.eq_false_iff.mpr c17
        subst c17
        have H1 : (serinetteref14_Same.l0 kj2 0 a0_0 a0_1 l0_2 a1_0 a1_1 l1_2) = some r := by rw [if_neg (show ¬ (false = true) by decide)] at H; exact H
        clear H
        have H := H1
        clear H1
        have H' := Aside0.mk H
        clear H
        go_wp2
        repeat (go_quiet (fail); try go_wp2)
        go_loopg [5] kj2 (fun kq v5 w' => ∃ (x5_2 : Int), v5 = .int .i64 x5_2 ∧ Aside0 (serinetteref14_Same.l0 kq x5_2 a0_0 a0_1 l0_2 a1_0 a1_1 l1_2 = some r) ∧ Aside0 (kq ≤ kj2) ∧ Aside0 (w'.heap[gb267]? = some (.cells #[.bool a0_0, .int .i64 a0_1, (.slice A0_2 l0_2.length c0_2)] 26 (0, 0))) ∧ Aside0 (w'.heap[gb268]? = some (.cells #[.bool a1_0, .int .i64 a1_1, (.slice A1_2 l1_2.length c1_2)] 26 (0, 0))) ∧ Aside0 (Below w.heap.size w w'))
        case atStart => exact ⟨(0), (by first | rfl | (simp; done) | (simp only [i64_w, i32_w]; done) | (simp [*]; done) | (simp only [i64_w, i32_w]; first | rfl | (simp; done) | (simp [*]; done))), H', ⟨Nat.le_refl _⟩, ⟨by (with_reducible repeat (first | refine blk_drewN ?_ _ | refine blk_drew ?_ | refine blk_alloc ?_ _)); exact BK267.out⟩, ⟨by (with_reducible repeat (first | refine blk_drewN ?_ _ | refine blk_drew ?_ | refine blk_alloc ?_ _)); exact BK268.out⟩, ⟨by repeat (first | (with_reducible first | exact HB.out | apply below_alloc | apply pw_below_drewN | apply below_drew1 | refine below_set ?_ GE267.out | refine below_set ?_ GE268.out) | exact HB.out)⟩⟩
        case round =>
          clear H'
          try clear c1
          try clear p2
          try clear c6
          try clear c6b0
          try clear c6b1
          try clear c6b2
          try clear c7
          try clear c10
          try clear c10b0
          try clear c10b1
          try clear c11
          try clear c14
          try clear c17
          try clear hcz12_0
          try clear hcz12_1
          try clear hcz12_2
          try clear hcz13_0
          try clear hcz13_1
          try clear hcz13_2
          try clear hcz15_0
          try clear hcz15_1
          try clear hcz15_2
          try clear hcz16_0
          try clear hcz16_1
          try clear hcz16_2
          try clear hcz8_0
          try clear hcz8_1
          try clear hcz8_2
          try clear hcz9_0
          try clear hcz9_1
          try clear hcz9_2
          try clear hfz12_0
          try clear hfz12_1
          try clear hfz12_2
          try clear hfz13_0
          try clear hfz13_1
          try clear hfz13_2
          try clear hfz15_0
          try clear hfz15_1
          try clear hfz15_2
          try clear hfz16_0
          try clear hfz16_1
          try clear hfz16_2
          try clear hfz8_0
          try clear hfz8_1
          try clear hfz8_2
          try clear hfz9_0
          try clear hfz9_1
          try clear hfz9_2
          try clear p2
          obtain ⟨x5_2, rfl, HA, HK2, BK267, BK268, HB⟩ := hrel
          cases gk with
          | zero => exact absurd HA.out (by simp [serinetteref14_Same.l0])
          | succ k2 =>
            have H := HA.out
            clear HA
            simp only [serinetteref14_Same.l0] at H
            by_cases c18 : x5_2 < (l0_2.length : Int)
            · rw [if_pos c18] at H
              have c18b0 : decide (x5_2 < (l0_2.length : Int)) = true := decide_eq_true c18
              clear c18
              by_cases c19 : 0 ≤ x5_2
              · rw [if_pos c19] at H
                have c19b0 : decide (0 ≤ x5_2) = true := decide_eq_true c19
                clear c19
                by_cases c20 : x5_2 < (l1_2.length : Int)
                · rw [if_pos c20] at H
                  have c20b0 : decide (x5_2 < (l1_2.length : Int)) = true := decide_eq_true c20
                  clear c20
                  by_cases c21 : (!(((rd_T39 l0_2 x5_2).f0) == ((rd_T39 l1_2 x5_2).f0)) || (!(((rd_T39 l0_2 x5_2).f1) == ((rd_T39 l1_2 x5_2).f1)))) = true
                  · rw [if_pos c21] at H
                    have c21b0 : (!(((rd_T39 l0_2 x5_2).f0) == ((rd_T39 l1_2 x5_2).f0)) || (!(((rd_T39 l0_2 x5_2).f1) == ((rd_T39 l1_2 x5_2).f1)))) = true := c21
                    clear c21
                    obtain rfl := Option.some.inj H
                    have hnb22 := NB267_268.out
                    have hnc22 := NB268_267.out
                    have hcz23_0 : wr.cell? ⟨gb267, 0, none⟩ = some (.bool a0_0) := (blk_cell BK267.out 0).trans rfl
                    have hcz23_1 : wr.cell? ⟨gb267, 1, none⟩ = some (.int .i64 a0_1) := (blk_cell BK267.out 1).trans rfl
                    have hcz23_2 : wr.cell? ⟨gb267, 2, none⟩ = some (.slice A0_2 l0_2.length c0_2) := (blk_cell BK267.out 2).trans rfl
                    have hfz23_0 := blk_frozen BK267.out 0
                    have hfz23_1 := blk_frozen BK267.out 1
                    have hfz23_2 := blk_frozen BK267.out 2
                    have p269 : 0 ≤ (x5_2 : Int) := of_decide_eq_true (by first | (with_reducible assumption) | assumption)
                    have q269 : x5_2 < (l0_2.length : Int) := of_decide_eq_true (by first | (with_reducible assumption) | assumption)
                    obtain ⟨ad269, e269, hx269_0, hx269_1⟩ := at_T39 HR0_2.out x5_2 p269 q269
                    cases e269
                    replace hx269_0 := (HB.out.cell (World.block_lt_of_cell? w _ hx269_0)).trans hx269_0
                    replace hx269_1 := (HB.out.cell (World.block_lt_of_cell? w _ hx269_1)).trans hx269_1
                    replace p269 := eq_true p269
                    replace q269 := eq_true q269
                    have hcz24_0 : wr.cell? ⟨gb268, 0, none⟩ = some (.bool a1_0) := (blk_cell BK268.out 0).trans rfl
                    have hcz24_1 : wr.cell? ⟨gb268, 1, none⟩ = some (.int .i64 a1_1) := (blk_cell BK268.out 1).trans rfl
                    have hcz24_2 : wr.cell? ⟨gb268, 2, none⟩ = some (.slice A1_2 l1_2.length c1_2) := (blk_cell BK268.out 2).trans rfl
                    have hfz24_0 := blk_frozen BK268.out 0
                    have hfz24_1 := blk_frozen BK268.out 1
                    have hfz24_2 := blk_frozen BK268.out 2
                    have p270 : 0 ≤ (x5_2 : Int) := of_decide_eq_true (by first | (with_reducible assumption) | assumption)
                    have q270 : x5_2 < (l1_2.length : Int) := of_decide_eq_true (by first | (with_reducible assumption) | assumption)
                    obtain ⟨ad270, e270, hx270_0, hx270_1⟩ := at_T39 HR1_2.out x5_2 p270 q270
                    cases e270
                    replace hx270_0 := (HB.out.cell (World.block_lt_of_cell? w _ hx270_0)).trans hx270_0
                    replace hx270_1 := (HB.out.cell (World.block_lt_of_cell? w _ hx270_1)).trans hx270_1
                    replace p270 := eq_true p270
                    replace q270 := eq_true q270
                    go_wp2
                    repeat (go_quiet (fail); try go_wp2)
                    go_ret
                    exact ⟨by first | rfl | (simp [errW_none, errW_some] <;> rfl) | (simp [*, errW_none, errW_some] <;> rfl), by repeat (first | (with_reducible first | exact HB.out | apply below_alloc | apply pw_below_drewN | apply below_drew1 | refine below_set ?_ GE267.out | refine below_set ?_ GE268.out) | exact HB.out)⟩
                  · rw [if_neg c21] at H
                    have c21b0 : (!(((rd_T39 l0_2 x5_2).f0) == ((rd_T39 l1_2 x5_2).f0)) || (!(((rd_T39 l0_2 x5_2).f1) == ((rd_T39 l1_2 x5_2).f1)))) = false := by simpa using c21
                    clear c21
                    have H' := Aside0.mk H
                    clear H
                    have hnb25 := NB267_268.out
                    have hnc25 := NB268_267.out
                    have hcz26_0 : wr.cell? ⟨gb267, 0, none⟩ = some (.bool a0_0) := (blk_cell BK267.out 0).trans rfl
                    have hcz26_1 : wr.cell? ⟨gb267, 1, none⟩ = some (.int .i64 a0_1) := (blk_cell BK267.out 1).trans rfl
                    have hcz26_2 : wr.cell? ⟨gb267, 2, none⟩ = some (.slice A0_2 l0_2.length c0_2) := (blk_cell BK267.out 2).trans rfl
                    have hfz26_0 := blk_frozen BK267.out 0
                    have hfz26_1 := blk_frozen BK267.out 1
                    have hfz26_2 := blk_frozen BK267.out 2
                    have p269 : 0 ≤ (x5_2 : Int) := of_decide_eq_true (by first | (with_reducible assumption) | assumption)
                    have q269 : x5_2 < (l0_2.length : Int) := of_decide_eq_true (by first | (with_reducible assumption) | assumption)
                    obtain ⟨ad269, e269, hx269_0, hx269_1⟩ := at_T39 HR0_2.out x5_2 p269 q269
                    cases e269
                    replace hx269_0 := (HB.out.cell (World.block_lt_of_cell? w _ hx269_0)).trans hx269_0
                    replace hx269_1 := (HB.out.cell (World.block_lt_of_cell? w _ hx269_1)).trans hx269_1
                    replace p269 := eq_true p269
                    replace q269 := eq_true q269
                    have hcz27_0 : wr.cell? ⟨gb268, 0, none⟩ = some (.bool a1_0) := (blk_cell BK268.out 0).trans rfl
                    have hcz27_1 : wr.cell? ⟨gb268, 1, none⟩ = some (.int .i64 a1_1) := (blk_cell BK268.out 1).trans rfl
                    have hcz27_2 : wr.cell? ⟨gb268, 2, none⟩ = some (.slice A1_2 l1_2.length c1_2) := (blk_cell BK268.out 2).trans rfl
                    have hfz27_0 := blk_frozen BK268.out 0
                    have hfz27_1 := blk_frozen BK268.out 1
                    have hfz27_2 := blk_frozen BK268.out 2
                    have p270 : 0 ≤ (x5_2 : Int) := of_decide_eq_true (by first | (with_reducible assumption) | assumption)
                    have q270 : x5_2 < (l1_2.length : Int) := of_decide_eq_true (by first | (with_reducible assumption) | assumption)
                    obtain ⟨ad270, e270, hx270_0, hx270_1⟩ := at_T39 HR1_2.out x5_2 p270 q270
                    cases e270
                    replace hx270_0 := (HB.out.cell (World.block_lt_of_cell? w _ hx270_0)).trans hx270_0
                    replace hx270_1 := (HB.out.cell (World.block_lt_of_cell? w _ hx270_1)).trans hx270_1
                    replace p270 := eq_true p270
                    replace q270 := eq_true q270
                    go_wp2
                    repeat (go_quiet (fail); try go_wp2)
                    go_roundg k2
                    case measure => have := HJ2.out; have := HK2.out; omega
                    case rel => exact ⟨(wrap64 (x5_2 + 1)), (by first | rfl | (simp; done) | (simp only [i64_w, i32_w]; done) | (simp [*]; done) | (simp only [i64_w, i32_w]; first | rfl | (simp; done) | (simp [*]; done))), H', ⟨by have := HJ2.out; have := HK2.out; omega⟩, ⟨by (with_reducible repeat (first | refine blk_drewN ?_ _ | refine blk_drew ?_ | refine blk_alloc ?_ _)); exact BK267.out⟩, ⟨by (with_reducible repeat (first | refine blk_drewN ?_ _ | refine blk_drew ?_ | refine blk_alloc ?_ _)); exact BK268.out⟩, ⟨by repeat (first | (with_reducible first | exact HB.out | apply below_alloc | apply pw_below_drewN | apply below_drew1 | refine below_set ?_ GE267.out | refine below_set ?_ GE268.out) | exact HB.out)⟩⟩
                · rw [if_neg c20] at H
                  exact absurd H (by simp)
              · rw [if_neg c19] at H
                exact absurd H (by simp)
            · rw [if_neg c18] at H
              have c18b0 : decide (x5_2 < (l0_2.length : Int)) = false := decide_eq_false c18
              clear c18
              obtain rfl := Option.some.inj H
              have hnb28 := NB267_268.out
              have hnc28 := NB268_267.out
              have hcz29_0 : wr.cell? ⟨gb267, 0, none⟩ = some (.bool a0_0) := (blk_cell BK267.out 0).trans rfl
              have hcz29_1 : wr.cell? ⟨gb267, 1, none⟩ = some (.int .i64 a0_1) := (blk_cell BK267.out 1).trans rfl
              have hcz29_2 : wr.cell? ⟨gb267, 2, none⟩ = some (.slice A0_2 l0_2.length c0_2) := (blk_cell BK267.out 2).trans rfl
              have hfz29_0 := blk_frozen BK267.out 0
              have hfz29_1 := blk_frozen BK267.out 1
              have hfz29_2 := blk_frozen BK267.out 2
              go_wp2
              repeat (go_quiet (fail); try go_wp2)
              go_ret
              exact ⟨by first | rfl | (simp [errW_none, errW_some] <;> rfl) | (simp [*, errW_none, errW_some] <;> rfl), by repeat (first | (with_reducible first | exact HB.out | apply below_alloc | apply pw_below_drewN | apply below_drew1 | refine below_set ?_ GE267.out | refine below_set ?_ GE268.out) | exact HB.out)⟩

end Go.Proofs.Ytpoigjkkcehpdaa.PA
