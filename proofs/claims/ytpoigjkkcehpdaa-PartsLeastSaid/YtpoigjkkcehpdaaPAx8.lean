/- Each Go function named below comes to what the plain Lean function of its name answers, wherever that answers (rounds enough, no panic, no row too long); texts by a program of this session by way of the kit's print.py, what that does not take by hand. Condition: what is read lies in memory as each theorem says. -/
import Derived.Test.YtpoigjkkcehpdaaPAx0
import Derived.Test.YtpoigjkkcehpdaaPAx4
import Derived.Test.YtpoigjkkcehpdaaPAx5
import Derived.Test.YtpoigjkkcehpdaaPAx7
namespace Go.Proofs.Ytpoigjkkcehpdaa.PA
open Go.RowKit Go.Proofs.YtpoigjkkcehpdaaW.PrintWords Go.Proofs.YtpoigjkkcehpdaaW.PrintLast Go.Proofs.YtpoigjkkcehpdaaW.PrintMore
attribute [local go_sem] max2_int min2_int max_two min_two max_three min_three max_four min_four   -- for this text's walks alone
set_option linter.unusedVariables false
set_option linter.unusedSimpArgs false

/-! ### parts_Bits: function 14 -/
mutual
def parts_Bits.j0 : Nat → List Int → List Int → Bool → Bool → Int → List (S39) → Option (Int)
  | 0, _, _, _, _, _, _ => none
  | k + 1, x0, x7, x31, x124000, x124001, x124002 => if x31 = true then (some (-1)) else ((parts_top.f x124000).bind fun bt127 => (parts_Bits.l0 k x0 bt127.1 bt127.2 6 x7 (x7.length : Int) 0 x124000 x124001 x124002))
def parts_Bits.l0 : Nat → List Int → Int → Int → Int → List Int → Int → Int → Bool → Int → List (S39) → Option (Int)
  | 0, _, _, _, _, _, _, _, _, _, _ => none
  | k + 1, x0, x8, x9, x10, x38, x39, x40, x124000, x124001, x124002 => if x40 < x39 then (if 0 ≤ x40 then (if x40 < (x38.length : Int) then (if x40 < (x124002.length : Int) then (if 0 ≤ (rd x38 x40) then (if (rd x38 x40) ≤ (x0.length : Int) then ((cost_Each.f k (x0.take ((rd x38 x40) : Int).toNat) ((rd_T39 x124002 x40).f0) ((rd_T39 x124002 x40).f1)).bind fun t137 => (if t137 < 0 then (some (-1)) else (if ((rd_T39 x124002 x40).f1 = true) then (parts_Bits.l0 k (x0.drop ((rd x38 x40) : Int).toNat) x8 x9 (wrap64 (x10 + (wrap64 (x9 + t137)))) x38 x39 (wrap64 (x40 + 1)) x124000 x124001 x124002) else (if ((rd_T39 x124002 x40).f0) < 0 then (some (-1)) else (if ((rd_T39 x124002 x40).f0) > x8 then (some (-1)) else (parts_Bits.l0 k (x0.drop ((rd x38 x40) : Int).toNat) x8 x9 (wrap64 (x10 + (wrap64 (x9 + t137)))) x38 x39 (wrap64 (x40 + 1)) x124000 x124001 x124002)))))) else (none)) else (none)) else (none)) else (none)) else (none)) else (some x10)
end
def parts_Bits.f (k : Nat) (l0 : List Int) (a1 : Int) (a2_0 : Bool) (a2_1 : Int) (l2_2 : List (S39)) : Option (Int) := (parts_Cuts.f k (l0.length : Int) a1 a2_1).bind fun t124 => (if (t124.length : Int) = 0 then (parts_Bits.j0 k l0 t124 true a2_0 a2_1 l2_2) else (parts_Bits.j0 k l0 t124 ((t124.length : Int) != (l2_2.length : Int)) a2_0 a2_1 l2_2))
theorem parts_Bits.mono_l : ∀ k, (∀ y0 y1 y2 y3 y4 y5, LeO (parts_Bits.j0 k y0 y1 y2 y3 y4 y5) (parts_Bits.j0 (k + 1) y0 y1 y2 y3 y4 y5)) ∧ (∀ y0 y1 y2 y3 y4 y5 y6 y7 y8 y9, LeO (parts_Bits.l0 k y0 y1 y2 y3 y4 y5 y6 y7 y8 y9) (parts_Bits.l0 (k + 1) y0 y1 y2 y3 y4 y5 y6 y7 y8 y9))
  | 0 => ⟨fun _ _ _ _ _ _ r h => by simp [parts_Bits.j0] at h, fun _ _ _ _ _ _ _ _ _ _ r h => by simp [parts_Bits.l0] at h⟩
  | k + 1 => by
    obtain ⟨ih0, ih1⟩ := parts_Bits.mono_l k
    refine ⟨?_, ?_⟩
    · intro y0 y1 y2 y3 y4 y5
      unfold parts_Bits.j0
      repeat' first
      | (with_reducible exact ih0 _ _ _ _ _ _)
      | (with_reducible exact ih1 _ _ _ _ _ _ _ _ _ _)
      | (with_reducible exact cost_Each.mono _ _ _ _)
      | (with_reducible exact parts_Cuts.mono _ _ _ _)
      | (with_reducible exact LeO.refl _)
      | (with_reducible exact LeO.none _)
      | (with_reducible refine LeO.ite ?_ ?_)
      | (with_reducible refine LeO.bind ?_ (fun _ => ?_))
      | exact ih0 _ _ _ _ _ _
      | exact ih1 _ _ _ _ _ _ _ _ _ _
      | exact cost_Each.mono _ _ _ _
      | exact parts_Cuts.mono _ _ _ _
      | exact LeO.none _
      | refine LeO.ite ?_ ?_
      | refine LeO.bind ?_ (fun _ => ?_)
    · intro y0 y1 y2 y3 y4 y5 y6 y7 y8 y9
      unfold parts_Bits.l0
      repeat' first
      | (with_reducible exact ih0 _ _ _ _ _ _)
      | (with_reducible exact ih1 _ _ _ _ _ _ _ _ _ _)
      | (with_reducible exact cost_Each.mono _ _ _ _)
      | (with_reducible exact parts_Cuts.mono _ _ _ _)
      | (with_reducible exact LeO.refl _)
      | (with_reducible exact LeO.none _)
      | (with_reducible refine LeO.ite ?_ ?_)
      | (with_reducible refine LeO.bind ?_ (fun _ => ?_))
      | exact ih0 _ _ _ _ _ _
      | exact ih1 _ _ _ _ _ _ _ _ _ _
      | exact cost_Each.mono _ _ _ _
      | exact parts_Cuts.mono _ _ _ _
      | exact LeO.none _
      | refine LeO.ite ?_ ?_
      | refine LeO.bind ?_ (fun _ => ?_)
theorem parts_Bits.mono : ∀ a0 a1 a2 a3 a4 k, LeO (parts_Bits.f k a0 a1 a2 a3 a4) (parts_Bits.f (k + 1) a0 a1 a2 a3 a4) := by
  intro a0 a1 a2 a3 a4 k
  obtain ⟨ih0, ih1⟩ := parts_Bits.mono_l k
  unfold parts_Bits.f
  repeat' first
      | (with_reducible exact ih0 _ _ _ _ _ _)
      | (with_reducible exact ih1 _ _ _ _ _ _ _ _ _ _)
      | (with_reducible exact cost_Each.mono _ _ _ _)
      | (with_reducible exact parts_Cuts.mono _ _ _ _)
      | (with_reducible exact LeO.refl _)
      | (with_reducible exact LeO.none _)
      | (with_reducible refine LeO.ite ?_ ?_)
      | (with_reducible refine LeO.bind ?_ (fun _ => ?_))
      | exact ih0 _ _ _ _ _ _
      | exact ih1 _ _ _ _ _ _ _ _ _ _
      | exact cost_Each.mono _ _ _ _
      | exact parts_Cuts.mono _ _ _ _
      | exact LeO.none _
      | refine LeO.ite ?_ ?_
      | refine LeO.bind ?_ (fun _ => ?_)
set_option maxHeartbeats 8000000 in
set_option maxRecDepth 100000 in
theorem parts_Bits.calls (k : Nat) (P0_ : Nat → Prop) (A0 : Option Addr) (c0 : Nat) (l0 : List Int) (a1 : Int) (a2_0 : Bool) (a2_1 : Int) (A2_2 : Option Addr) (c2_2 : Nat) (l2_2 : List (S39)) (r : Int) (w : World) (hs0 : Kd.V (Kd.int .i64) 3 w w.heap.size (fun k_ => P0_ k_) (.slice A0 l0.length c0) l0) (hr2_2 : Kd.C k39 w A2_2 l2_2.length l2_2) (hc2_2 : l2_2.length ≤ c2_2) (h : parts_Bits.f k l0 a1 a2_0 a2_1 l2_2 = some r) :
    Calls Try.prog 14 #[.slice A0 l0.length c0, .int .i64 a1, .agg #[.bool a2_0, .int .i64 a2_1, .slice A2_2 l2_2.length c2_2]] w fun e w' => e = .returned (.int .i64 r) ∧ Below w.heap.size w w' := by
  have hu26 := Try.underlying26
  have hu39 := Try.underlying39
  have HO0 := Aside0.mk (show Kd.V (Kd.int .i64) 3 w w.heap.size (fun k_ => (P0_ k_ ∨ w.heap.size ≤ k_)) (.slice A0 l0.length c0) l0 from Kd.V_mono hs0 (fun k_ hk => .inl hk))
  have HR2_2 := Aside0.mk hr2_2
  have HC2_2 := Aside0.mk hc2_2
  clear hr2_2 hc2_2
  have HB := Aside0.mk (Below.refl w.heap.size w)
  have H : ((parts_Cuts.f k (l0.length : Int) a1 a2_1).bind fun t124 => (if (t124.length : Int) = 0 then (parts_Bits.j0 k l0 t124 true a2_0 a2_1 l2_2) else (parts_Bits.j0 k l0 t124 ((t124.length : Int) != (l2_2.length : Int)) a2_0 a2_1 l2_2))) = some r := h
  clear h
  replace H := Option.bind_eq_some_iff.mp H
  obtain ⟨t124, A40, H⟩ := H
  replace H : (if (t124.length : Int) = 0 then (parts_Bits.j0 k l0 t124 true a2_0 a2_1 l2_2) else (parts_Bits.j0 k l0 t124 ((t124.length : Int) != (l2_2.length : Int)) a2_0 a2_1 l2_2)) = some r := H
  have A4 := Aside0.mk A40
  clear A40
  have HC5 := Aside0.mk H
  clear H
  go_enter Try.func14, Try.ntmps14
  go_upto_region 2 with (first | ((with_reducible refine gate_dst (N := 5) rfl ?_); (try (refine gate_guard (by rfl) ?_; dsimp only)); refine box_event ?hg (N := 5) ?hd (cs := #[.bool a2_0, .int .i64 a2_1, .slice A2_2 l2_2.length c2_2]) (t := 26) ?hr ?_; (case hd => rfl); (case hg => rfl); (case hr => first | (go_simp; done) | (go_simp; rfl)); intro gb123 hg w6 hbox hb; have n0_ := Aside0.mk (Kd.V_below (Kd.V_elderB (by (with_reducible repeat (first | apply Kd.V_alloc | apply Kd.V_drewN | apply Kd.V_drew)); exact HO0.out) gb123 (Nat.le_of_eq hg.symm)) hb); have n1_ := Aside0.mk (below_step (by repeat (first | (with_reducible first | exact HB.out | apply below_alloc | apply pw_below_drewN | apply below_drew1) | exact HB.out)) hb); have n2_ := Aside0.mk (hbox); have n3_ := Aside0.mk ((by rw [hg]; exact (below_size (by repeat (first | (with_reducible first | exact HB.out | apply below_alloc | apply pw_below_drewN | apply below_drew1) | exact HB.out))) : w.heap.size ≤ gb123)); have n4_ := Aside0.mk ((by rw [hg]; exact (below_size (by repeat (first | (with_reducible first | exact HB.out | apply below_alloc | apply pw_below_drewN | apply below_drew1) | exact HB.out))) : w.heap.size ≤ gb123)); clear HO0; clear HB; have HO0 := n0_; have HB := n1_; have BK123 := n2_; have GW123 := n3_; have GE123 := n4_; clear n0_ n1_ n2_ n3_ n4_; clear hb hbox hg; have hcz7_0 : w6.cell? ⟨gb123, 0, none⟩ = some (.bool a2_0) := (blk_cell BK123.out 0).trans rfl; have hcz7_1 : w6.cell? ⟨gb123, 1, none⟩ = some (.int .i64 a2_1) := (blk_cell BK123.out 1).trans rfl; have hcz7_2 : w6.cell? ⟨gb123, 2, none⟩ = some (.slice A2_2 l2_2.length c2_2) := (blk_cell BK123.out 2).trans rfl; have hfz7_0 := blk_frozen BK123.out 0; have hfz7_1 := blk_frozen BK123.out 1; have hfz7_2 := blk_frozen BK123.out 2) | ((with_reducible refine gate_callee (f := 12) rfl ?_); refine goesL_ (some 20) rfl rfl Try.func12 (by kernel_rfl) rfl #[.int .i64 (l0.length : Int), .int .i64 a1, .int .i64 a2_1] rfl (by (try simp only [List.map_toArray, List.map_cons, List.map_nil]); first | done | rfl | (simp only [List.length_drop, List.length_take]; rfl)) ?_; (with_reducible refine (parts_Cuts.calls k (l0.length : Int) a1 a2_1 t124 _ A4.out).mono ?_); rintro e w8 ⟨v125, rfl, ho0, hb⟩; refine ⟨_, rfl, ?_⟩; have n0_ := Aside0.mk (Kd.V_elder' (by (with_reducible repeat (first | apply Kd.V_alloc | apply Kd.V_drewN | apply Kd.V_drew)); exact HO0.out) (Kd.R_base ho0) hb); have n1_ := Aside0.mk (Kd.R_lower (Kd.R_newM (M := fun k_ => (w.heap.size ≤ k_)) ho0 (below_size (by repeat (first | (with_reducible first | exact HB.out | apply below_alloc | apply pw_below_drewN | apply below_drew1 | refine below_set ?_ GE123.out) | exact HB.out))) (fun k_ h_ => h_)) (below_size (by repeat (first | (with_reducible first | exact HB.out | apply below_alloc | apply pw_below_drewN | apply below_drew1 | refine below_set ?_ GE123.out) | exact HB.out)))); have n2_ := Aside0.mk (blk_below (g := gb123) (o := .cells #[.bool a2_0, .int .i64 a2_1, .slice A2_2 l2_2.length c2_2] 26 (0, 0)) (by (with_reducible repeat (first | refine blk_drewN ?_ _ | refine blk_drew ?_ | refine blk_alloc ?_ _)); exact BK123.out) hb); have n3_ := Aside0.mk (below_step (by repeat (first | (with_reducible first | exact HB.out | apply below_alloc | apply pw_below_drewN | apply below_drew1 | refine below_set ?_ GE123.out) | exact HB.out)) hb); clear HO0; clear BK123; clear HB; have HO0 := n0_; have HO126 := n1_; have BK123 := n2_; have HB := n3_; clear n0_ n1_ n2_ n3_; (try clear hb); (try clear hb2); (try clear hk); (try clear hi); (try clear ho0)))
  (try simp only [Act.put, List.setIfInBounds_toArray, List.set_cons_zero, List.set_cons_succ])
  go_cut [31] (fun v31 wc => ∃ (kq : Nat) (x31_4 : Bool), v31 = .bool x31_4 ∧ Aside0 (parts_Bits.j0 kq l0 t124 x31_4 a2_0 a2_1 l2_2 = some r) ∧ Aside0 (kq ≤ k) ∧ Aside0 (Kd.V (Kd.int .i64) 3 wc w.heap.size (fun k_ => (P0_ k_ ∨ w.heap.size ≤ k_) ∧ some k_ ≠ (v125 : Value).ownBlock ∧ k_ ≠ gb123) (.slice A0 l0.length c0) l0) ∧ Aside0 (Kd.R (Kd.int .i64) 3 wc w.heap.size (fun k_ => (w.heap.size ≤ k_)) v125 t124) ∧ Aside0 (wc.heap[gb123]? = some (.cells #[.bool a2_0, .int .i64 a2_1, (.slice A2_2 l2_2.length c2_2)] 26 (0, 0))) ∧ Aside0 (Below w.heap.size w wc))
  case first =>
    have H := HC5.out
    clear HC5
    by_cases c9 : (t124.length : Int) = 0
    · rw [if_pos c9] at H
      have c9b0 : ((t124.length : Int) == 0) = true := beq_iff_eq.mpr c9
      have c9b1 : ((t124.length : Int) != 0) = false := bne_eq_false_iff_eq.mpr c9
      clear c9
      (first | rw [c9b0] | (simp only [i64_w, i32_w]; rw [c9b0]) | skip)
      have H' := Aside0.mk H
      clear H
      obtain ⟨Ao10, co10, eo10⟩ := Kd.R_slice HO126.out
      subst eo10
      go_wp2
      go_meet
      case rel => exact ⟨_, (true), (by first | rfl | (simp; done) | (simp only [i64_w, i32_w]; done) | (simp [*]; done) | (simp only [i64_w, i32_w]; first | rfl | (simp; done) | (simp [*]; done))), H', ⟨by first | omega | exact Nat.le_refl _⟩, ⟨by (with_reducible repeat (first | apply Kd.V_alloc | apply Kd.V_drewN | apply Kd.V_drew)); exact Kd.V_mono HO0.out (fun _ hk => ⟨hk.1.1, ⟨hk.2, hk.1.2⟩⟩)⟩, ⟨by (with_reducible repeat (first | apply Kd.R_alloc | apply Kd.R_drewN | apply Kd.R_drew)); exact Kd.R_mono HO126.out (fun _ hk => hk.1)⟩, ⟨by (with_reducible repeat (first | refine blk_drewN ?_ _ | refine blk_drew ?_ | refine blk_alloc ?_ _)); exact BK123.out⟩, ⟨by repeat (first | (with_reducible first | exact HB.out | apply below_alloc | apply pw_below_drewN | apply below_drew1 | refine below_set ?_ GE123.out) | exact HB.out)⟩⟩
    · rw [if_neg c9] at H
      have c9b0 : ((t124.length : Int) == 0) = false := beq_eq_false_iff_ne.mpr c9
      have c9b1 : ((t124.length : Int) != 0) = true := bne_iff_ne.mpr c9
      have c9b2 : ¬ (t124 = []) := fun h_ => c9 (by rw [h_]; rfl)
      (first | rw [c9b0] | (simp only [i64_w, i32_w]; rw [c9b0]) | skip)
      have H' := Aside0.mk H
      clear H
      obtain ⟨Ao11, co11, eo11⟩ := Kd.R_slice HO126.out
      subst eo11
      have hcz12_0 : w8.cell? ⟨gb123, 0, none⟩ = some (.bool a2_0) := (blk_cell BK123.out 0).trans rfl
      have hcz12_1 : w8.cell? ⟨gb123, 1, none⟩ = some (.int .i64 a2_1) := (blk_cell BK123.out 1).trans rfl
      have hcz12_2 : w8.cell? ⟨gb123, 2, none⟩ = some (.slice A2_2 l2_2.length c2_2) := (blk_cell BK123.out 2).trans rfl
      have hfz12_0 := blk_frozen BK123.out 0
      have hfz12_1 := blk_frozen BK123.out 1
      have hfz12_2 := blk_frozen BK123.out 2
      go_wp2
      go_meet
      case rel => exact ⟨_, (((t124.length : Int) != (l2_2.length : Int))), (by first | rfl | (simp; done) | (simp only [i64_w, i32_w]; done) | (simp [*]; done) | (simp only [i64_w, i32_w]; first | rfl | (simp; done) | (simp [*]; done))), H', ⟨by first | omega | exact Nat.le_refl _⟩, ⟨by (with_reducible repeat (first | apply Kd.V_alloc | apply Kd.V_drewN | apply Kd.V_drew)); exact Kd.V_mono HO0.out (fun _ hk => ⟨hk.1.1, ⟨hk.2, hk.1.2⟩⟩)⟩, ⟨by (with_reducible repeat (first | apply Kd.R_alloc | apply Kd.R_drewN | apply Kd.R_drew)); exact Kd.R_mono HO126.out (fun _ hk => hk.1)⟩, ⟨by (with_reducible repeat (first | refine blk_drewN ?_ _ | refine blk_drew ?_ | refine blk_alloc ?_ _)); exact BK123.out⟩, ⟨by repeat (first | (with_reducible first | exact HB.out | apply below_alloc | apply pw_below_drewN | apply below_drew1 | refine below_set ?_ GE123.out) | exact HB.out)⟩⟩
  case rest =>
    clear HC5
    try clear c1
    try clear c2
    try clear p2
    try clear c9
    try clear c9b0
    try clear c9b1
    try clear c9b2
    try clear c12
    try clear hcz12_0
    try clear hcz12_1
    try clear hcz12_2
    try clear hcz7_0
    try clear hcz7_1
    try clear hcz7_2
    try clear hfz12_0
    try clear hfz12_1
    try clear hfz12_2
    try clear hfz7_0
    try clear hfz7_1
    try clear hfz7_2
    obtain ⟨kq, x31_4, rfl, HA, HJ4, HO_0, HO_7, BK123, HB⟩ := hcut
    cases kq with
    | zero => exact absurd HA.out (by simp [parts_Bits.j0])
    | succ kj4 =>
      have H := HA.out
      clear HA
      simp only [parts_Bits.j0] at H
      by_cases c13 : x31_4 = true
      · subst c13
        have H1 : (some (-1)) = some r := by rw [if_pos rfl] at H; exact H
        clear H
        have H := H1
        clear H1
        obtain rfl := Option.some.inj H
        go_wp2
        go_ret
        exact ⟨by first | rfl | (simp [errW_none, errW_some] <;> rfl) | (simp [*, errW_none, errW_some] <;> rfl), by repeat (first | (with_reducible first | exact HB.out | apply below_alloc | apply pw_below_drewN | apply below_drew1 | refine below_set ?_ GE123.out) | exact HB.out)⟩
      · replace c13 := Bool.eq_false_iff.mpr c13
        subst c13
        have H1 : ((parts_top.f a2_0).bind fun bt127 => (parts_Bits.l0 kj4 l0 bt127.1 bt127.2 6 t124 (t124.length : Int) 0 a2_0 a2_1 l2_2)) = some r := by rw [if_neg (show ¬ (false = true) by decide)] at H; exact H
        clear H
        have H := H1
        clear H1
        replace H := Option.bind_eq_some_iff.mp H
        obtain ⟨⟨t127, t128⟩, A140, H⟩ := H
        replace H : (parts_Bits.l0 kj4 l0 t127 t128 6 t124 (t124.length : Int) 0 a2_0 a2_1 l2_2) = some r := H
        have A14 := Aside0.mk A140
        clear A140
        have H' := Aside0.mk H
        clear H
        have hcz15_0 : wc.cell? ⟨gb123, 0, none⟩ = some (.bool a2_0) := (blk_cell BK123.out 0).trans rfl
        have hcz15_1 : wc.cell? ⟨gb123, 1, none⟩ = some (.int .i64 a2_1) := (blk_cell BK123.out 1).trans rfl
        have hcz15_2 : wc.cell? ⟨gb123, 2, none⟩ = some (.slice A2_2 l2_2.length c2_2) := (blk_cell BK123.out 2).trans rfl
        have hfz15_0 := blk_frozen BK123.out 0
        have hfz15_1 := blk_frozen BK123.out 1
        have hfz15_2 := blk_frozen BK123.out 2
        go_wp2_with (first | ((with_reducible refine gate_callee (f := 23) rfl ?_); refine goesL_ (some 35) rfl rfl Try.func23 (by kernel_rfl) rfl #[.bool a2_0] rfl (by (try simp only [List.map_toArray, List.map_cons, List.map_nil]); first | done | rfl | (simp only [List.length_drop, List.length_take]; rfl)) ?_; (with_reducible refine (parts_top.calls a2_0 t127 t128 _ A14.out).mono ?_); rintro e w' ⟨rfl, ⟨nd, rfl⟩⟩; refine ⟨_, rfl, ?_⟩; obtain ⟨Ao16, co16, eo16⟩ := Kd.R_slice HO_7.out; subst eo16))
        go_loopg [0, 10, 40] kj4 (fun kq v0 v10 v40 w' => ∃ (x0_2 : List Int) (x10_2 : Int) (x40_2 : Int), v10 = .int .i64 x10_2 ∧ v40 = .int .i64 x40_2 ∧ Aside0 (parts_Bits.l0 kq x0_2 t127 t128 x10_2 t124 (t124.length : Int) x40_2 a2_0 a2_1 l2_2 = some r) ∧ Aside0 (kq ≤ kj4) ∧ Aside0 (Kd.V (Kd.int .i64) 3 w' w.heap.size (fun k_ => (P0_ k_ ∨ w.heap.size ≤ k_) ∧ some k_ ≠ ((.slice Ao16 t124.length co16) : Value).ownBlock ∧ k_ ≠ gb123) v0 x0_2) ∧ Aside0 (Kd.R (Kd.int .i64) 3 w' w.heap.size (fun k_ => (w.heap.size ≤ k_)) (.slice Ao16 t124.length co16) t124) ∧ Aside0 (w'.heap[gb123]? = some (.cells #[.bool a2_0, .int .i64 a2_1, (.slice A2_2 l2_2.length c2_2)] 26 (0, 0))) ∧ Aside0 (Below w.heap.size w w'))
        case atStart => exact ⟨(l0), (6), (0), (by first | rfl | (simp; done) | (simp only [i64_w, i32_w]; done) | (simp [*]; done) | (simp only [i64_w, i32_w]; first | rfl | (simp; done) | (simp [*]; done))), (by first | rfl | (simp; done) | (simp only [i64_w, i32_w]; done) | (simp [*]; done) | (simp only [i64_w, i32_w]; first | rfl | (simp; done) | (simp [*]; done))), H', ⟨Nat.le_refl _⟩, ⟨by (with_reducible repeat (first | apply Kd.V_alloc | apply Kd.V_drewN | apply Kd.V_drew)); exact HO_0.out⟩, ⟨by (with_reducible repeat (first | apply Kd.R_alloc | apply Kd.R_drewN | apply Kd.R_drew)); exact HO_7.out⟩, ⟨by (with_reducible repeat (first | refine blk_drewN ?_ _ | refine blk_drew ?_ | refine blk_alloc ?_ _)); exact BK123.out⟩, ⟨by repeat (first | (with_reducible first | exact HB.out | apply below_alloc | apply pw_below_drewN | apply below_drew1 | refine below_set ?_ GE123.out) | exact HB.out)⟩⟩
        case round =>
          clear H'
          try clear c1
          try clear c2
          try clear p2
          try clear c9
          try clear c9b0
          try clear c9b1
          try clear c9b2
          try clear c12
          try clear c13
          try clear c14
          try clear hcz12_0
          try clear hcz12_1
          try clear hcz12_2
          try clear hcz15_0
          try clear hcz15_1
          try clear hcz15_2
          try clear hcz7_0
          try clear hcz7_1
          try clear hcz7_2
          try clear hfz12_0
          try clear hfz12_1
          try clear hfz12_2
          try clear hfz15_0
          try clear hfz15_1
          try clear hfz15_2
          try clear hfz7_0
          try clear hfz7_1
          try clear hfz7_2
          try clear p2
          obtain ⟨x0_2, x10_2, x40_2, rfl, rfl, HA, HK2, HO_0, HO_38, BK123, HB⟩ := hrel
          cases gk with
          | zero => exact absurd HA.out (by simp [parts_Bits.l0])
          | succ k2 =>
            have H := HA.out
            clear HA
            simp only [parts_Bits.l0] at H
            by_cases c17 : x40_2 < (t124.length : Int)
            · rw [if_pos c17] at H
              have c17b0 : decide (x40_2 < (t124.length : Int)) = true := decide_eq_true c17
              clear c17
              by_cases c18 : 0 ≤ x40_2
              · rw [if_pos c18] at H
                have c18b0 : decide (0 ≤ x40_2) = true := decide_eq_true c18
                clear c18
                by_cases c19 : x40_2 < (t124.length : Int)
                · rw [if_pos c19] at H
                  have c19b0 : decide (x40_2 < (t124.length : Int)) = true := decide_eq_true c19
                  clear c19
                  by_cases c20 : x40_2 < (l2_2.length : Int)
                  · rw [if_pos c20] at H
                    have c20b0 : decide (x40_2 < (l2_2.length : Int)) = true := decide_eq_true c20
                    clear c20
                    by_cases c21 : 0 ≤ (rd t124 x40_2)
                    · rw [if_pos c21] at H
                      have c21b0 := eq_true c21
                      have c21b1 : decide (0 ≤ (rd t124 x40_2)) = true := decide_eq_true c21
                      clear c21
                      by_cases c22 : (rd t124 x40_2) ≤ (x0_2.length : Int)
                      · rw [if_pos c22] at H
                        have c22b0 := eq_true c22
                        have c22b1 : decide ((rd t124 x40_2) ≤ (x0_2.length : Int)) = true := decide_eq_true c22
                        clear c22
                        obtain ⟨y132, hy132⟩ : ∃ y_ : List Int, y_ = (x0_2.take ((rd t124 x40_2) : Int).toNat) := ⟨_, rfl⟩
                        replace H : ((cost_Each.f k2 y132 ((rd_T39 l2_2 x40_2).f0) ((rd_T39 l2_2 x40_2).f1)).bind fun t137 => (if t137 < 0 then (some (-1)) else (if ((rd_T39 l2_2 x40_2).f1 = true) then (parts_Bits.l0 k2 (x0_2.drop ((rd t124 x40_2) : Int).toNat) t127 t128 (wrap64 (x10_2 + (wrap64 (t128 + t137)))) t124 (t124.length : Int) (wrap64 (x40_2 + 1)) a2_0 a2_1 l2_2) else (if ((rd_T39 l2_2 x40_2).f0) < 0 then (some (-1)) else (if ((rd_T39 l2_2 x40_2).f0) > t127 then (some (-1)) else (parts_Bits.l0 k2 (x0_2.drop ((rd t124 x40_2) : Int).toNat) t127 t128 (wrap64 (x10_2 + (wrap64 (t128 + t137)))) t124 (t124.length : Int) (wrap64 (x40_2 + 1)) a2_0 a2_1 l2_2)))))) = some r := by first | (rw [hy132]; with_reducible exact H) | (have H2_ := (Option.bind_some _ _).symm.trans H; rw [hy132]; with_reducible exact H2_) | (have H2_ := (Option.bind_some _ _).symm.trans H; with_reducible exact H2_) | with_reducible exact H | (rw [hy132]; exact H) | exact H
                        have Ny132 := Aside0.mk hy132
                        clear hy132
                        replace H := Option.bind_eq_some_iff.mp H
                        obtain ⟨t137, A230, H⟩ := H
                        replace H : (if t137 < 0 then (some (-1)) else (if ((rd_T39 l2_2 x40_2).f1 = true) then (parts_Bits.l0 k2 (x0_2.drop ((rd t124 x40_2) : Int).toNat) t127 t128 (wrap64 (x10_2 + (wrap64 (t128 + t137)))) t124 (t124.length : Int) (wrap64 (x40_2 + 1)) a2_0 a2_1 l2_2) else (if ((rd_T39 l2_2 x40_2).f0) < 0 then (some (-1)) else (if ((rd_T39 l2_2 x40_2).f0) > t127 then (some (-1)) else (parts_Bits.l0 k2 (x0_2.drop ((rd t124 x40_2) : Int).toNat) t127 t128 (wrap64 (x10_2 + (wrap64 (t128 + t137)))) t124 (t124.length : Int) (wrap64 (x40_2 + 1)) a2_0 a2_1 l2_2))))) = some r := H
                        have A23 := Aside0.mk A230
                        clear A230
                        by_cases c24 : t137 < 0
                        · rw [if_pos c24] at H
                          have c24b0 : decide (t137 < 0) = true := decide_eq_true c24
                          clear c24
                          obtain rfl := Option.some.inj H
                          have p129 : 0 ≤ (x40_2 : Int) := of_decide_eq_true (by first | (with_reducible assumption) | assumption)
                          have q129 : x40_2 < (t124.length : Int) := of_decide_eq_true (by first | (with_reducible assumption) | assumption)
                          obtain ⟨ad129, e129, hx129_0⟩ := Kd.at_int (Kd.R_reads' HO_38.out).2.2 x40_2 p129 q129
                          cases e129
                          replace p129 := eq_true p129
                          replace q129 := eq_true q129
                          have hcz25_0 : wr.cell? ⟨gb123, 0, none⟩ = some (.bool a2_0) := (blk_cell BK123.out 0).trans rfl
                          have hcz25_1 : wr.cell? ⟨gb123, 1, none⟩ = some (.int .i64 a2_1) := (blk_cell BK123.out 1).trans rfl
                          have hcz25_2 : wr.cell? ⟨gb123, 2, none⟩ = some (.slice A2_2 l2_2.length c2_2) := (blk_cell BK123.out 2).trans rfl
                          have hfz25_0 := blk_frozen BK123.out 0
                          have hfz25_1 := blk_frozen BK123.out 1
                          have hfz25_2 := blk_frozen BK123.out 2
                          have p130 : 0 ≤ (x40_2 : Int) := of_decide_eq_true (by first | (with_reducible assumption) | assumption)
                          have q130 : x40_2 < (l2_2.length : Int) := of_decide_eq_true (by first | (with_reducible assumption) | assumption)
                          obtain ⟨ad130, e130, hx130_0, hx130_1⟩ := at_T39 HR2_2.out x40_2 p130 q130
                          cases e130
                          replace hx130_0 := (HB.out.cell (World.block_lt_of_cell? w _ hx130_0)).trans hx130_0
                          replace hx130_1 := (HB.out.cell (World.block_lt_of_cell? w _ hx130_1)).trans hx130_1
                          replace p130 := eq_true p130
                          replace q130 := eq_true q130
                          try go_wp2_with (first | ((with_reducible refine gate_dst (N := 13) rfl ?_); (try (refine gate_guard (by rfl) ?_; dsimp only)); refine box_event ?hg (N := 13) ?hd (cs := #[.int .i64 0, .bool false]) (t := 39) ?hr ?_; (case hd => rfl); (case hg => rfl); (case hr => first | (go_simp; done) | (go_simp; rfl)); intro gb131 hg w26 hbox hb; have n0_ := Aside0.mk (Kd.V_below (Kd.V_elderB (by (with_reducible repeat (first | apply Kd.V_alloc | apply Kd.V_drewN | apply Kd.V_drew)); exact HO_0.out) gb131 (Nat.le_of_eq hg.symm)) hb); have n1_ := Aside0.mk (Kd.R_below (by (with_reducible repeat (first | apply Kd.R_alloc | apply Kd.R_drewN | apply Kd.R_drew)); exact HO_38.out) hb); have n2_ := Aside0.mk (blk_below (g := gb123) (o := .cells #[.bool a2_0, .int .i64 a2_1, .slice (some ad130) l2_2.length c2_2] 26 (0, 0)) (by (with_reducible repeat (first | refine blk_drewN ?_ _ | refine blk_drew ?_ | refine blk_alloc ?_ _)); exact BK123.out) hb); have n3_ := Aside0.mk (below_step (by repeat (first | (with_reducible first | exact HB.out | apply below_alloc | apply pw_below_drewN | apply below_drew1 | refine below_set ?_ GE123.out) | exact HB.out)) hb); have n4_ := Aside0.mk (hbox); have n5_ := Aside0.mk ((by rw [hg]; exact (below_size (by repeat (first | (with_reducible first | exact HB.out | apply below_alloc | apply pw_below_drewN | apply below_drew1 | refine below_set ?_ GE123.out) | exact HB.out))) : w.heap.size ≤ gb131)); have n6_ := Aside0.mk ((by rw [hg]; exact (below_size (by repeat (first | (with_reducible first | exact HB.out | apply below_alloc | apply pw_below_drewN | apply below_drew1 | refine below_set ?_ GE123.out) | exact HB.out))) : w.heap.size ≤ gb131)); have n7_ := Aside0.mk ((by rw [hg]; exact Nat.ne_of_lt (blk_lt (g := gb123) (o := .cells #[.bool a2_0, .int .i64 a2_1, .slice (some ad130) l2_2.length c2_2] 26 (0, 0)) (by (with_reducible repeat (first | refine blk_drewN ?_ _ | refine blk_drew ?_ | refine blk_alloc ?_ _)); exact BK123.out)) : gb123 ≠ gb131)); have n8_ := Aside0.mk ((by rw [hg]; exact Nat.ne_of_gt (blk_lt (g := gb123) (o := .cells #[.bool a2_0, .int .i64 a2_1, .slice (some ad130) l2_2.length c2_2] 26 (0, 0)) (by (with_reducible repeat (first | refine blk_drewN ?_ _ | refine blk_drew ?_ | refine blk_alloc ?_ _)); exact BK123.out)) : gb131 ≠ gb123)); clear HO_0; clear HO_38; clear BK123; clear HB; have HO_0 := n0_; have HO_38 := n1_; have BK123 := n2_; have HB := n3_; have BK131 := n4_; have GW131 := n5_; have GE131 := n6_; have NB123_131 := n7_; have NB131_123 := n8_; clear n0_ n1_ n2_ n3_ n4_ n5_ n6_ n7_ n8_; clear hb hbox hg; have hnb27 := NB131_123.out; have hnc27 := NB123_131.out; have hcz28_0 : w26.cell? ⟨gb131, 0, none⟩ = some (.int .i64 0) := (blk_cell BK131.out 0).trans rfl; have hcz28_1 : w26.cell? ⟨gb131, 1, none⟩ = some (.bool false) := (blk_cell BK131.out 1).trans rfl; have hfz28_0 := blk_frozen BK131.out 0; have hfz28_1 := blk_frozen BK131.out 1))
                          have n0_ : Aside0 (Kd.V (Kd.int .i64) 3 ((w26.setCell ⟨gb131, 0, none⟩ (.int .i64 ((rd_T39 l2_2 x40_2).f0))).setCell ⟨gb131, 1, none⟩ (.bool ((rd_T39 l2_2 x40_2).f1))) w.heap.size (fun k_ => (P0_ k_ ∨ w.heap.size ≤ k_) ∧ some k_ ≠ (.slice (some ad129) t124.length co16 : Value).ownBlock ∧ k_ ≠ gb123 ∧ k_ ≠ gb131) u0 x0_2) := ⟨by (with_reducible repeat (first | apply Kd.V_alloc | apply Kd.V_drewN | apply Kd.V_drew)); exact Kd.V_mono (Kd.V_far (p := ⟨gb131, 1, none⟩) (Kd.V_far (p := ⟨gb131, 0, none⟩) (Kd.V_mono HO_0.out (fun k_ hk => (⟨hk, hk.2⟩ : _ ∧ k_ ≠ gb131))) (fun _ hk => hk.2) (.int .i64 ((rd_T39 l2_2 x40_2).f0))) (fun _ hk => hk.2) (.bool ((rd_T39 l2_2 x40_2).f1))) (fun _ hk => ⟨hk.1.1.1, ⟨hk.1.1.2.1, ⟨hk.1.1.2.2, hk.1.2⟩⟩⟩)⟩
                          have n1_ : Aside0 (Kd.R (Kd.int .i64) 3 ((w26.setCell ⟨gb131, 0, none⟩ (.int .i64 ((rd_T39 l2_2 x40_2).f0))).setCell ⟨gb131, 1, none⟩ (.bool ((rd_T39 l2_2 x40_2).f1))) w.heap.size (fun k_ => (w.heap.size ≤ k_)) (.slice (some ad129) t124.length co16) t124) := ⟨by (with_reducible repeat (first | apply Kd.R_alloc | apply Kd.R_drewN | apply Kd.R_drew)); exact Kd.R_mono (Kd.R_far (p := ⟨gb131, 1, none⟩) (Kd.R_far (p := ⟨gb131, 0, none⟩) (Kd.R_types HO_38.out BK131.out (by decide)) (fun _ hk => hk.2) (.int .i64 ((rd_T39 l2_2 x40_2).f0))) (fun _ hk => hk.2) (.bool ((rd_T39 l2_2 x40_2).f1))) (fun _ hk => hk.1)⟩
                          have n2_ : Aside0 (((w26.setCell ⟨gb131, 0, none⟩ (.int .i64 ((rd_T39 l2_2 x40_2).f0))).setCell ⟨gb131, 1, none⟩ (.bool ((rd_T39 l2_2 x40_2).f1))).heap[gb123]? = some (.cells #[.bool a2_0, .int .i64 a2_1, .slice (some ad130) l2_2.length c2_2] 26 (0, 0))) := ⟨by (with_reducible repeat (first | refine blk_drewN ?_ _ | refine blk_drew ?_ | refine blk_alloc ?_ _)); refine blk_far ?_ NB123_131.out _; (with_reducible repeat (first | refine blk_drewN ?_ _ | refine blk_drew ?_ | refine blk_alloc ?_ _)); refine blk_far ?_ NB123_131.out _; (with_reducible repeat (first | refine blk_drewN ?_ _ | refine blk_drew ?_ | refine blk_alloc ?_ _)); exact BK123.out⟩
                          have n3_ : Aside0 (((w26.setCell ⟨gb131, 0, none⟩ (.int .i64 ((rd_T39 l2_2 x40_2).f0))).setCell ⟨gb131, 1, none⟩ (.bool ((rd_T39 l2_2 x40_2).f1))).heap[gb131]? = some (.cells #[.int .i64 ((rd_T39 l2_2 x40_2).f0), .bool ((rd_T39 l2_2 x40_2).f1)] 39 (0, 0))) := ⟨by (with_reducible repeat (first | refine blk_drewN ?_ _ | refine blk_drew ?_ | refine blk_alloc ?_ _)); refine blk_put (cs := #[.int .i64 ((rd_T39 l2_2 x40_2).f0), .bool false]) ?_ 1 _ rfl; (with_reducible repeat (first | refine blk_drewN ?_ _ | refine blk_drew ?_ | refine blk_alloc ?_ _)); refine blk_put (cs := #[.int .i64 0, .bool false]) ?_ 0 _ rfl; (with_reducible repeat (first | refine blk_drewN ?_ _ | refine blk_drew ?_ | refine blk_alloc ?_ _)); exact BK131.out⟩
                          have n4_ : Aside0 (Below w.heap.size w ((w26.setCell ⟨gb131, 0, none⟩ (.int .i64 ((rd_T39 l2_2 x40_2).f0))).setCell ⟨gb131, 1, none⟩ (.bool ((rd_T39 l2_2 x40_2).f1)))) := ⟨by repeat (first | (with_reducible first | exact HB.out | apply below_alloc | apply pw_below_drewN | apply below_drew1 | refine below_set ?_ GE123.out | refine below_set ?_ GE131.out) | exact HB.out)⟩
                          (try clear HO_0)
                          (try clear HO_38)
                          (try clear BK123)
                          (try clear BK131)
                          (try clear HB)
                          generalize ((w26.setCell ⟨gb131, 0, none⟩ (.int .i64 ((rd_T39 l2_2 x40_2).f0))).setCell ⟨gb131, 1, none⟩ (.bool ((rd_T39 l2_2 x40_2).f1))) = w29 at n0_ n1_ n2_ n3_ n4_ ⊢
                          have HO_0 := n0_
                          have HO_38 := n1_
                          have BK123 := n2_
                          have BK131 := n3_
                          have HB := n4_
                          clear n0_ n1_ n2_ n3_ n4_
                          have n0_ := Aside0.mk (Kd.V_drew HO_0.out)
                          have n1_ := Aside0.mk (Kd.R_drew HO_38.out)
                          have n2_ := Aside0.mk (blk_drew BK123.out)
                          have n3_ := Aside0.mk (blk_drew BK131.out)
                          have n4_ := Aside0.mk (below_drew1 HB.out)
                          clear HO_0
                          clear HO_38
                          clear BK123
                          clear BK131
                          clear HB
                          have HO_0 := n0_
                          have HO_38 := n1_
                          have BK123 := n2_
                          have BK131 := n3_
                          have HB := n4_
                          clear n0_ n1_ n2_ n3_ n4_
                          obtain ⟨Ao32, co32, eo32⟩ := Kd.V_slice HO_0.out
                          (first | subst eo32 | (injection eo32 with f1_ f2_ f3_; have f4_ := f1_.symm; have f5_ := f3_.symm; clear f1_ f2_ f3_; subst f4_; subst f5_))
                          have q31 : ((rd t124 x40_2) : Int) ≤ ((x0_2.length : Int) : Int) := of_decide_eq_true (by first | (with_reducible assumption) | assumption)
                          obtain ⟨i031, hi031, _, hsz31, _⟩ := info_parts info3
                          have hroom31 : x0_2.length ≤ co32 := (Kd.V_reads' HO_0.out).2.1
                          have hC31 : Kd.F (Kd.int .i64) _ _ Ao32 x0_2.length x0_2 := (Kd.V_at (base := w.heap.size) HO_0.out).2.2
                          have hcut31 := cut_to (P := Try.prog) 22 3 .i64 Try.underlying22 hi031 Ao32 x0_2.length co32 (rd t124 x40_2) (of_decide_eq_true (by first | (with_reducible assumption) | assumption)) q31 hroom31
                          have hr31 := Kd.F_take (m := ((rd t124 x40_2) : Int).toNat) hC31 (by omega)
                          have hy31 : y132.length = ((rd t124 x40_2) : Int).toNat := (by rw [Ny132.out, List.length_take]; omega)
                          rw [← Ny132.out] at hr31
                          rw [← hy31] at hcut31
                          have HO136 := Aside0.mk (show Kd.V (Kd.int .i64) 3 _ w.heap.size _ (.slice Ao32 y132.length co32) y132 from Kd.V_mk (by omega) hr31)
                          have HC136 := Aside0.mk (show y132.length ≤ co32 from by omega)
                          clear hr31 hC31 hroom31 hi031 hsz31
                          have KY31 := Aside0.mk hy31
                          clear hy31
                          replace q31 := eq_true q31
                          refine start_ (n := 6) (S := fun w' => w'.cell? ⟨gb131, 0, none⟩ = some (.int .i64 ((rd_T39 l2_2 x40_2).f0)) ∧ w'.cell? ⟨gb131, 1, none⟩ = some (.bool ((rd_T39 l2_2 x40_2).f1))) (ds := []) #[false, false, false, false, false, false] (by kernel_rfl) rfl rfl ⟨(blk_cell BK131.out 0).trans rfl, (blk_cell BK131.out 1).trans rfl⟩ (fun hHeld => ?_)
                          generalize w29.drew = w30 at HO_0 HO_38 BK123 BK131 HB HO136 hHeld ⊢
                          refine pure_ (i := 0) (N := some 50) (v := ?_) (a' := ?_) #[true, false, false, false, false, false] rfl rfl (by kernel_rfl) (fun _ _ _ h => h) (Or.inl ⟨by rfl, ?_⟩) ?_ ?_
                          rotate_left
                          · intro w'
                            go_simp
                            with_reducible rfl
                          rotate_left
                          · simp only [Act.put, List.setIfInBounds_toArray, List.set_cons_zero, List.set_cons_succ, i64_w, i32_w]
                            rfl
                          refine pure_ (i := 1) (N := some 51) (v := ?_) (a' := ?_) #[true, true, false, false, false, false] rfl rfl (by kernel_rfl) (fun _ _ _ h => h) (Or.inl ⟨by rfl, ?_⟩) ?_ ?_
                          rotate_left
                          · intro w'
                            go_simp
                            with_reducible rfl
                          rotate_left
                          · simp only [Act.put, List.setIfInBounds_toArray, List.set_cons_zero, List.set_cons_succ, i64_w, i32_w]
                            rfl
                          refine pure_ (i := 2) (N := some 52) (v := ?_) (a' := ?_) #[true, true, true, false, false, false] rfl rfl (by kernel_rfl) (fun _ _ _ h => h) (Or.inl ⟨by rfl, ?_⟩) ?_ ?_
                          rotate_left
                          · intro w'
                            go_simp
                            with_reducible rfl
                          rotate_left
                          · simp only [Act.put, List.setIfInBounds_toArray, List.set_cons_zero, List.set_cons_succ, i64_w, i32_w]
                            rfl
                          refine take_ (i := 3) (N := some 53) (v := ?_) (a' := ?_) #[true, true, true, true, false, false] rfl rfl (by kernel_rfl) (fun _ _ _ h => h) (Or.inl ⟨by rfl, ?_⟩) hHeld ?_ ?_
                          rotate_left
                          · rintro w' ⟨s0, s1⟩
                            go_simp
                            with_reducible rfl
                          rotate_left
                          · simp only [Act.put, List.setIfInBounds_toArray, List.set_cons_zero, List.set_cons_succ, i64_w, i32_w]
                            rfl
                          refine one_ (i := 4) (N := some 54) #[true, true, true, true, true, false] rfl rfl (by kernel_rfl) (by decide) (fun K hK => ?_)
                          refine goes_ Try.func24 (by kernel_rfl) rfl #[.slice Ao32 y132.length co32, .agg #[.int .i64 ((rd_T39 l2_2 x40_2).f0), .bool ((rd_T39 l2_2 x40_2).f1)]] (by rfl) rfl rfl (by (try simp only [List.map_toArray, List.map_cons, List.map_nil]); first | done | rfl | (simp only [List.length_drop, List.length_take]; rfl)) ?_
                          with_reducible refine (cost_Each.calls k2 _ _ y132 ((rd_T39 l2_2 x40_2).f0) ((rd_T39 l2_2 x40_2).f1) t137 _ ?side1 ?side2 A23.out).mono ?_
                          (case side1 => repeat (first | exact (Kd.V_reads' HO136.out).2.2 | (with_reducible refine Kd.C_alloc ?_ _) | (with_reducible refine Kd.C_drewN ?_ _) | (with_reducible refine Kd.C_drew ?_)))
                          (case side2 => exact (Kd.V_reads' HO136.out).2.1)
                          rintro e w33 ⟨rfl, hb⟩
                          refine ⟨_, rfl, ?_⟩
                          have n0_ := Aside0.mk (Kd.V_below (by (with_reducible repeat (first | apply Kd.V_alloc | apply Kd.V_drewN | apply Kd.V_drew)); exact HO_0.out) hb)
                          have n1_ := Aside0.mk (Kd.R_below (by (with_reducible repeat (first | apply Kd.R_alloc | apply Kd.R_drewN | apply Kd.R_drew)); exact HO_38.out) hb)
                          have n2_ := Aside0.mk (Kd.V_below (by (with_reducible repeat (first | apply Kd.V_alloc | apply Kd.V_drewN | apply Kd.V_drew)); exact HO136.out) hb)
                          have n3_ := Aside0.mk (blk_below (g := gb123) (o := .cells #[.bool a2_0, .int .i64 a2_1, .slice (some ad130) l2_2.length c2_2] 26 (0, 0)) (by (with_reducible repeat (first | refine blk_drewN ?_ _ | refine blk_drew ?_ | refine blk_alloc ?_ _)); exact BK123.out) hb)
                          have n4_ := Aside0.mk (blk_below (g := gb131) (o := .cells #[.int .i64 ((rd_T39 l2_2 x40_2).f0), .bool ((rd_T39 l2_2 x40_2).f1)] 39 (0, 0)) (by (with_reducible repeat (first | refine blk_drewN ?_ _ | refine blk_drew ?_ | refine blk_alloc ?_ _)); exact BK131.out) hb)
                          have n5_ := Aside0.mk (below_step (by repeat (first | (with_reducible first | exact HB.out | apply below_alloc | apply pw_below_drewN | apply below_drew1 | refine below_set ?_ GE123.out | refine below_set ?_ GE131.out) | exact HB.out)) hb)
                          clear HO_0
                          clear HO_38
                          clear HO136
                          clear BK123
                          clear BK131
                          clear HB
                          have HO_0 := n0_
                          have HO_38 := n1_
                          have HO136 := n2_
                          have BK123 := n3_
                          have BK131 := n4_
                          have HB := n5_
                          clear n0_ n1_ n2_ n3_ n4_ n5_
                          (try clear hb)
                          (try clear hb2)
                          (try clear hk)
                          (try clear hi)
                          refine hK.out _ _ ⟨(blk_cell BK131.out 0).trans rfl, (blk_cell BK131.out 1).trans rfl⟩ (fun hHeld => ?_)
                          clear hK K
                          refine norm_ (a' := ?_) ?_ ?_
                          rotate_left
                          · show Act.put _ (some 54) _ = _
                            simp only [Act.put, List.setIfInBounds_toArray, List.set_cons_zero, List.set_cons_succ, i64_w, i32_w]
                            rfl
                          refine pure_ (i := 5) (N := some 14) (v := ?_) (a' := ?_) #[true, true, true, true, true, true] rfl rfl (by kernel_rfl) (fun _ _ _ h => h) (Or.inl ⟨by rfl, ?_⟩) ?_ ?_
                          rotate_left
                          · intro w'
                            go_simp
                            with_reducible rfl
                          rotate_left
                          · simp only [Act.put, List.setIfInBounds_toArray, List.set_cons_zero, List.set_cons_succ, i64_w, i32_w]
                            rfl
                          refine done_ (by kernel_rfl) ?_
                          try go_wp2
                          go_ret
                          exact ⟨by first | rfl | (simp [errW_none, errW_some] <;> rfl) | (simp [*, errW_none, errW_some] <;> rfl), by repeat (first | (with_reducible first | exact HB.out | apply below_alloc | apply pw_below_drewN | apply below_drew1 | refine below_set ?_ GE123.out | refine below_set ?_ GE131.out) | exact HB.out)⟩
                        · rw [if_neg c24] at H
                          have c24b0 : decide (t137 < 0) = false := decide_eq_false c24
                          clear c24
                          obtain ⟨bq34, hbq34⟩ : ∃ b_ : Bool, b_ = ((rd_T39 l2_2 x40_2).f1) := ⟨_, rfl⟩
                          replace H : (if (bq34 = true) then (parts_Bits.l0 k2 (x0_2.drop ((rd t124 x40_2) : Int).toNat) t127 t128 (wrap64 (x10_2 + (wrap64 (t128 + t137)))) t124 (t124.length : Int) (wrap64 (x40_2 + 1)) a2_0 a2_1 l2_2) else (if ((rd_T39 l2_2 x40_2).f0) < 0 then (some (-1)) else (if ((rd_T39 l2_2 x40_2).f0) > t127 then (some (-1)) else (parts_Bits.l0 k2 (x0_2.drop ((rd t124 x40_2) : Int).toNat) t127 t128 (wrap64 (x10_2 + (wrap64 (t128 + t137)))) t124 (t124.length : Int) (wrap64 (x40_2 + 1)) a2_0 a2_1 l2_2)))) = some r := by rw [← hbq34] at H; exact H
                          have Nbq34 := Aside0.mk hbq34
                          clear hbq34
                          by_cases c35 : (bq34 = true)
                          · subst c35
                            have H1 : (parts_Bits.l0 k2 (x0_2.drop ((rd t124 x40_2) : Int).toNat) t127 t128 (wrap64 (x10_2 + (wrap64 (t128 + t137)))) t124 (t124.length : Int) (wrap64 (x40_2 + 1)) a2_0 a2_1 l2_2) = some r := by rw [if_pos rfl] at H; exact H
                            clear H
                            have H := H1
                            clear H1
                            have c36b0 := eq_true (of_decide_eq_true (by first | (with_reducible assumption) | assumption) : 0 ≤ (rd t124 x40_2))
                            have c37b0 := eq_true (of_decide_eq_true (by first | (with_reducible assumption) | assumption) : (rd t124 x40_2) ≤ (x0_2.length : Int))
                            obtain ⟨y138, hy138⟩ : ∃ y_ : List Int, y_ = (x0_2.drop ((rd t124 x40_2) : Int).toNat) := ⟨_, rfl⟩
                            replace H : (parts_Bits.l0 k2 y138 t127 t128 (wrap64 (x10_2 + (wrap64 (t128 + t137)))) t124 (t124.length : Int) (wrap64 (x40_2 + 1)) a2_0 a2_1 l2_2) = some r := by first | (rw [hy138]; with_reducible exact H) | (have H2_ := (Option.bind_some _ _).symm.trans H; rw [hy138]; with_reducible exact H2_) | (have H2_ := (Option.bind_some _ _).symm.trans H; with_reducible exact H2_) | with_reducible exact H | (rw [hy138]; exact H) | exact H
                            have Ny138 := Aside0.mk hy138
                            clear hy138
                            have H' := Aside0.mk H
                            clear H
                            have p129 : 0 ≤ (x40_2 : Int) := of_decide_eq_true (by first | (with_reducible assumption) | assumption)
                            have q129 : x40_2 < (t124.length : Int) := of_decide_eq_true (by first | (with_reducible assumption) | assumption)
                            obtain ⟨ad129, e129, hx129_0⟩ := Kd.at_int (Kd.R_reads' HO_38.out).2.2 x40_2 p129 q129
                            cases e129
                            replace p129 := eq_true p129
                            replace q129 := eq_true q129
                            have hcz38_0 : wr.cell? ⟨gb123, 0, none⟩ = some (.bool a2_0) := (blk_cell BK123.out 0).trans rfl
                            have hcz38_1 : wr.cell? ⟨gb123, 1, none⟩ = some (.int .i64 a2_1) := (blk_cell BK123.out 1).trans rfl
                            have hcz38_2 : wr.cell? ⟨gb123, 2, none⟩ = some (.slice A2_2 l2_2.length c2_2) := (blk_cell BK123.out 2).trans rfl
                            have hfz38_0 := blk_frozen BK123.out 0
                            have hfz38_1 := blk_frozen BK123.out 1
                            have hfz38_2 := blk_frozen BK123.out 2
                            have p130 : 0 ≤ (x40_2 : Int) := of_decide_eq_true (by first | (with_reducible assumption) | assumption)
                            have q130 : x40_2 < (l2_2.length : Int) := of_decide_eq_true (by first | (with_reducible assumption) | assumption)
                            obtain ⟨ad130, e130, hx130_0, hx130_1⟩ := at_T39 HR2_2.out x40_2 p130 q130
                            (try rw [← Nbq34.out] at hx130_1)
                            cases e130
                            replace hx130_0 := (HB.out.cell (World.block_lt_of_cell? w _ hx130_0)).trans hx130_0
                            replace hx130_1 := (HB.out.cell (World.block_lt_of_cell? w _ hx130_1)).trans hx130_1
                            replace p130 := eq_true p130
                            replace q130 := eq_true q130
                            try go_wp2_with (first | ((with_reducible refine gate_dst (N := 13) rfl ?_); (try (refine gate_guard (by rfl) ?_; dsimp only)); refine box_event ?hg (N := 13) ?hd (cs := #[.int .i64 0, .bool false]) (t := 39) ?hr ?_; (case hd => rfl); (case hg => rfl); (case hr => first | (go_simp; done) | (go_simp; rfl)); intro gb131 hg w39 hbox hb; have n0_ := Aside0.mk (Kd.V_below (Kd.V_elderB (by (with_reducible repeat (first | apply Kd.V_alloc | apply Kd.V_drewN | apply Kd.V_drew)); exact HO_0.out) gb131 (Nat.le_of_eq hg.symm)) hb); have n1_ := Aside0.mk (Kd.R_below (by (with_reducible repeat (first | apply Kd.R_alloc | apply Kd.R_drewN | apply Kd.R_drew)); exact HO_38.out) hb); have n2_ := Aside0.mk (blk_below (g := gb123) (o := .cells #[.bool a2_0, .int .i64 a2_1, .slice (some ad130) l2_2.length c2_2] 26 (0, 0)) (by (with_reducible repeat (first | refine blk_drewN ?_ _ | refine blk_drew ?_ | refine blk_alloc ?_ _)); exact BK123.out) hb); have n3_ := Aside0.mk (below_step (by repeat (first | (with_reducible first | exact HB.out | apply below_alloc | apply pw_below_drewN | apply below_drew1 | refine below_set ?_ GE123.out) | exact HB.out)) hb); have n4_ := Aside0.mk (hbox); have n5_ := Aside0.mk ((by rw [hg]; exact (below_size (by repeat (first | (with_reducible first | exact HB.out | apply below_alloc | apply pw_below_drewN | apply below_drew1 | refine below_set ?_ GE123.out) | exact HB.out))) : w.heap.size ≤ gb131)); have n6_ := Aside0.mk ((by rw [hg]; exact (below_size (by repeat (first | (with_reducible first | exact HB.out | apply below_alloc | apply pw_below_drewN | apply below_drew1 | refine below_set ?_ GE123.out) | exact HB.out))) : w.heap.size ≤ gb131)); have n7_ := Aside0.mk ((by rw [hg]; exact Nat.ne_of_lt (blk_lt (g := gb123) (o := .cells #[.bool a2_0, .int .i64 a2_1, .slice (some ad130) l2_2.length c2_2] 26 (0, 0)) (by (with_reducible repeat (first | refine blk_drewN ?_ _ | refine blk_drew ?_ | refine blk_alloc ?_ _)); exact BK123.out)) : gb123 ≠ gb131)); have n8_ := Aside0.mk ((by rw [hg]; exact Nat.ne_of_gt (blk_lt (g := gb123) (o := .cells #[.bool a2_0, .int .i64 a2_1, .slice (some ad130) l2_2.length c2_2] 26 (0, 0)) (by (with_reducible repeat (first | refine blk_drewN ?_ _ | refine blk_drew ?_ | refine blk_alloc ?_ _)); exact BK123.out)) : gb131 ≠ gb123)); clear HO_0; clear HO_38; clear BK123; clear HB; have HO_0 := n0_; have HO_38 := n1_; have BK123 := n2_; have HB := n3_; have BK131 := n4_; have GW131 := n5_; have GE131 := n6_; have NB123_131 := n7_; have NB131_123 := n8_; clear n0_ n1_ n2_ n3_ n4_ n5_ n6_ n7_ n8_; clear hb hbox hg; have hnb40 := NB131_123.out; have hnc40 := NB123_131.out; have hcz41_0 : w39.cell? ⟨gb131, 0, none⟩ = some (.int .i64 0) := (blk_cell BK131.out 0).trans rfl; have hcz41_1 : w39.cell? ⟨gb131, 1, none⟩ = some (.bool false) := (blk_cell BK131.out 1).trans rfl; have hfz41_0 := blk_frozen BK131.out 0; have hfz41_1 := blk_frozen BK131.out 1))
                            have n0_ : Aside0 (Kd.V (Kd.int .i64) 3 ((w39.setCell ⟨gb131, 0, none⟩ (.int .i64 ((rd_T39 l2_2 x40_2).f0))).setCell ⟨gb131, 1, none⟩ (.bool true)) w.heap.size (fun k_ => (P0_ k_ ∨ w.heap.size ≤ k_) ∧ some k_ ≠ (.slice (some ad129) t124.length co16 : Value).ownBlock ∧ k_ ≠ gb123 ∧ k_ ≠ gb131) u0 x0_2) := ⟨by (with_reducible repeat (first | apply Kd.V_alloc | apply Kd.V_drewN | apply Kd.V_drew)); exact Kd.V_mono (Kd.V_far (p := ⟨gb131, 1, none⟩) (Kd.V_far (p := ⟨gb131, 0, none⟩) (Kd.V_mono HO_0.out (fun k_ hk => (⟨hk, hk.2⟩ : _ ∧ k_ ≠ gb131))) (fun _ hk => hk.2) (.int .i64 ((rd_T39 l2_2 x40_2).f0))) (fun _ hk => hk.2) (.bool true)) (fun _ hk => ⟨hk.1.1.1, ⟨hk.1.1.2.1, ⟨hk.1.1.2.2, hk.1.2⟩⟩⟩)⟩
                            have n1_ : Aside0 (Kd.R (Kd.int .i64) 3 ((w39.setCell ⟨gb131, 0, none⟩ (.int .i64 ((rd_T39 l2_2 x40_2).f0))).setCell ⟨gb131, 1, none⟩ (.bool true)) w.heap.size (fun k_ => (w.heap.size ≤ k_)) (.slice (some ad129) t124.length co16) t124) := ⟨by (with_reducible repeat (first | apply Kd.R_alloc | apply Kd.R_drewN | apply Kd.R_drew)); exact Kd.R_mono (Kd.R_far (p := ⟨gb131, 1, none⟩) (Kd.R_far (p := ⟨gb131, 0, none⟩) (Kd.R_types HO_38.out BK131.out (by decide)) (fun _ hk => hk.2) (.int .i64 ((rd_T39 l2_2 x40_2).f0))) (fun _ hk => hk.2) (.bool true)) (fun _ hk => hk.1)⟩
                            have n2_ : Aside0 (((w39.setCell ⟨gb131, 0, none⟩ (.int .i64 ((rd_T39 l2_2 x40_2).f0))).setCell ⟨gb131, 1, none⟩ (.bool true)).heap[gb123]? = some (.cells #[.bool a2_0, .int .i64 a2_1, .slice (some ad130) l2_2.length c2_2] 26 (0, 0))) := ⟨by (with_reducible repeat (first | refine blk_drewN ?_ _ | refine blk_drew ?_ | refine blk_alloc ?_ _)); refine blk_far ?_ NB123_131.out _; (with_reducible repeat (first | refine blk_drewN ?_ _ | refine blk_drew ?_ | refine blk_alloc ?_ _)); refine blk_far ?_ NB123_131.out _; (with_reducible repeat (first | refine blk_drewN ?_ _ | refine blk_drew ?_ | refine blk_alloc ?_ _)); exact BK123.out⟩
                            have n3_ : Aside0 (((w39.setCell ⟨gb131, 0, none⟩ (.int .i64 ((rd_T39 l2_2 x40_2).f0))).setCell ⟨gb131, 1, none⟩ (.bool true)).heap[gb131]? = some (.cells #[.int .i64 ((rd_T39 l2_2 x40_2).f0), .bool true] 39 (0, 0))) := ⟨by (with_reducible repeat (first | refine blk_drewN ?_ _ | refine blk_drew ?_ | refine blk_alloc ?_ _)); refine blk_put (cs := #[.int .i64 ((rd_T39 l2_2 x40_2).f0), .bool false]) ?_ 1 _ rfl; (with_reducible repeat (first | refine blk_drewN ?_ _ | refine blk_drew ?_ | refine blk_alloc ?_ _)); refine blk_put (cs := #[.int .i64 0, .bool false]) ?_ 0 _ rfl; (with_reducible repeat (first | refine blk_drewN ?_ _ | refine blk_drew ?_ | refine blk_alloc ?_ _)); exact BK131.out⟩
                            have n4_ : Aside0 (Below w.heap.size w ((w39.setCell ⟨gb131, 0, none⟩ (.int .i64 ((rd_T39 l2_2 x40_2).f0))).setCell ⟨gb131, 1, none⟩ (.bool true))) := ⟨by repeat (first | (with_reducible first | exact HB.out | apply below_alloc | apply pw_below_drewN | apply below_drew1 | refine below_set ?_ GE123.out | refine below_set ?_ GE131.out) | exact HB.out)⟩
                            (try clear HO_0)
                            (try clear HO_38)
                            (try clear BK123)
                            (try clear BK131)
                            (try clear HB)
                            generalize ((w39.setCell ⟨gb131, 0, none⟩ (.int .i64 ((rd_T39 l2_2 x40_2).f0))).setCell ⟨gb131, 1, none⟩ (.bool true)) = w42 at n0_ n1_ n2_ n3_ n4_ ⊢
                            have HO_0 := n0_
                            have HO_38 := n1_
                            have BK123 := n2_
                            have BK131 := n3_
                            have HB := n4_
                            clear n0_ n1_ n2_ n3_ n4_
                            have n0_ := Aside0.mk (Kd.V_drew HO_0.out)
                            have n1_ := Aside0.mk (Kd.R_drew HO_38.out)
                            have n2_ := Aside0.mk (blk_drew BK123.out)
                            have n3_ := Aside0.mk (blk_drew BK131.out)
                            have n4_ := Aside0.mk (below_drew1 HB.out)
                            clear HO_0
                            clear HO_38
                            clear BK123
                            clear BK131
                            clear HB
                            have HO_0 := n0_
                            have HO_38 := n1_
                            have BK123 := n2_
                            have BK131 := n3_
                            have HB := n4_
                            clear n0_ n1_ n2_ n3_ n4_
                            obtain ⟨Ao45, co45, eo45⟩ := Kd.V_slice HO_0.out
                            (first | subst eo45 | (injection eo45 with f1_ f2_ f3_; have f4_ := f1_.symm; have f5_ := f3_.symm; clear f1_ f2_ f3_; subst f4_; subst f5_))
                            have q44 : ((rd t124 x40_2) : Int) ≤ ((x0_2.length : Int) : Int) := of_decide_eq_true (by first | (with_reducible assumption) | assumption)
                            obtain ⟨i044, hi044, _, hsz44, _⟩ := info_parts info3
                            have hroom44 : x0_2.length ≤ co45 := (Kd.V_reads' HO_0.out).2.1
                            have hC44 : Kd.F (Kd.int .i64) _ _ Ao45 x0_2.length x0_2 := (Kd.V_at (base := w.heap.size) HO_0.out).2.2
                            have hcut44 := cut_to (P := Try.prog) 22 3 .i64 Try.underlying22 hi044 Ao45 x0_2.length co45 (rd t124 x40_2) (of_decide_eq_true (by first | (with_reducible assumption) | assumption)) q44 hroom44
                            have hr44 := Kd.F_take (m := ((rd t124 x40_2) : Int).toNat) hC44 (by omega)
                            have hy44 : y132.length = ((rd t124 x40_2) : Int).toNat := (by rw [Ny132.out, List.length_take]; omega)
                            rw [← Ny132.out] at hr44
                            rw [← hy44] at hcut44
                            have HO136 := Aside0.mk (show Kd.V (Kd.int .i64) 3 _ w.heap.size _ (.slice Ao45 y132.length co45) y132 from Kd.V_mk (by omega) hr44)
                            have HC136 := Aside0.mk (show y132.length ≤ co45 from by omega)
                            clear hr44 hC44 hroom44 hi044 hsz44
                            have KY44 := Aside0.mk hy44
                            clear hy44
                            replace q44 := eq_true q44
                            refine start_ (n := 6) (S := fun w' => w'.cell? ⟨gb131, 0, none⟩ = some (.int .i64 ((rd_T39 l2_2 x40_2).f0)) ∧ w'.cell? ⟨gb131, 1, none⟩ = some (.bool true)) (ds := []) #[false, false, false, false, false, false] (by kernel_rfl) rfl rfl ⟨(blk_cell BK131.out 0).trans rfl, (blk_cell BK131.out 1).trans rfl⟩ (fun hHeld => ?_)
                            generalize w42.drew = w43 at HO_0 HO_38 BK123 BK131 HB HO136 hHeld ⊢
                            refine pure_ (i := 0) (N := some 50) (v := ?_) (a' := ?_) #[true, false, false, false, false, false] rfl rfl (by kernel_rfl) (fun _ _ _ h => h) (Or.inl ⟨by rfl, ?_⟩) ?_ ?_
                            rotate_left
                            · intro w'
                              go_simp
                              with_reducible rfl
                            rotate_left
                            · simp only [Act.put, List.setIfInBounds_toArray, List.set_cons_zero, List.set_cons_succ, i64_w, i32_w]
                              rfl
                            refine pure_ (i := 1) (N := some 51) (v := ?_) (a' := ?_) #[true, true, false, false, false, false] rfl rfl (by kernel_rfl) (fun _ _ _ h => h) (Or.inl ⟨by rfl, ?_⟩) ?_ ?_
                            rotate_left
                            · intro w'
                              go_simp
                              with_reducible rfl
                            rotate_left
                            · simp only [Act.put, List.setIfInBounds_toArray, List.set_cons_zero, List.set_cons_succ, i64_w, i32_w]
                              rfl
                            refine pure_ (i := 2) (N := some 52) (v := ?_) (a' := ?_) #[true, true, true, false, false, false] rfl rfl (by kernel_rfl) (fun _ _ _ h => h) (Or.inl ⟨by rfl, ?_⟩) ?_ ?_
                            rotate_left
                            · intro w'
                              go_simp
                              with_reducible rfl
                            rotate_left
                            · simp only [Act.put, List.setIfInBounds_toArray, List.set_cons_zero, List.set_cons_succ, i64_w, i32_w]
                              rfl
                            refine take_ (i := 3) (N := some 53) (v := ?_) (a' := ?_) #[true, true, true, true, false, false] rfl rfl (by kernel_rfl) (fun _ _ _ h => h) (Or.inl ⟨by rfl, ?_⟩) hHeld ?_ ?_
                            rotate_left
                            · rintro w' ⟨s0, s1⟩
                              go_simp
                              with_reducible rfl
                            rotate_left
                            · simp only [Act.put, List.setIfInBounds_toArray, List.set_cons_zero, List.set_cons_succ, i64_w, i32_w]
                              rfl
                            refine one_ (i := 4) (N := some 54) #[true, true, true, true, true, false] rfl rfl (by kernel_rfl) (by decide) (fun K hK => ?_)
                            refine goes_ Try.func24 (by kernel_rfl) rfl #[.slice Ao45 y132.length co45, .agg #[.int .i64 ((rd_T39 l2_2 x40_2).f0), .bool true]] (by rfl) rfl rfl (by (try simp only [List.map_toArray, List.map_cons, List.map_nil]); first | done | rfl | (simp only [List.length_drop, List.length_take]; rfl)) ?_
                            with_reducible refine (cost_Each.calls k2 _ _ y132 ((rd_T39 l2_2 x40_2).f0) true t137 _ ?side1 ?side2 (by first | exact A23.out | (rw [Nbq34.out]; exact A23.out))).mono ?_
                            (case side1 => repeat (first | exact (Kd.V_reads' HO136.out).2.2 | (with_reducible refine Kd.C_alloc ?_ _) | (with_reducible refine Kd.C_drewN ?_ _) | (with_reducible refine Kd.C_drew ?_)))
                            (case side2 => exact (Kd.V_reads' HO136.out).2.1)
                            rintro e w46 ⟨rfl, hb⟩
                            refine ⟨_, rfl, ?_⟩
                            have n0_ := Aside0.mk (Kd.V_below (by (with_reducible repeat (first | apply Kd.V_alloc | apply Kd.V_drewN | apply Kd.V_drew)); exact HO_0.out) hb)
                            have n1_ := Aside0.mk (Kd.R_below (by (with_reducible repeat (first | apply Kd.R_alloc | apply Kd.R_drewN | apply Kd.R_drew)); exact HO_38.out) hb)
                            have n2_ := Aside0.mk (Kd.V_below (by (with_reducible repeat (first | apply Kd.V_alloc | apply Kd.V_drewN | apply Kd.V_drew)); exact HO136.out) hb)
                            have n3_ := Aside0.mk (blk_below (g := gb123) (o := .cells #[.bool a2_0, .int .i64 a2_1, .slice (some ad130) l2_2.length c2_2] 26 (0, 0)) (by (with_reducible repeat (first | refine blk_drewN ?_ _ | refine blk_drew ?_ | refine blk_alloc ?_ _)); exact BK123.out) hb)
                            have n4_ := Aside0.mk (blk_below (g := gb131) (o := .cells #[.int .i64 ((rd_T39 l2_2 x40_2).f0), .bool true] 39 (0, 0)) (by (with_reducible repeat (first | refine blk_drewN ?_ _ | refine blk_drew ?_ | refine blk_alloc ?_ _)); exact BK131.out) hb)
                            have n5_ := Aside0.mk (below_step (by repeat (first | (with_reducible first | exact HB.out | apply below_alloc | apply pw_below_drewN | apply below_drew1 | refine below_set ?_ GE123.out | refine below_set ?_ GE131.out) | exact HB.out)) hb)
                            clear HO_0
                            clear HO_38
                            clear HO136
                            clear BK123
                            clear BK131
                            clear HB
                            have HO_0 := n0_
                            have HO_38 := n1_
                            have HO136 := n2_
                            have BK123 := n3_
                            have BK131 := n4_
                            have HB := n5_
                            clear n0_ n1_ n2_ n3_ n4_ n5_
                            (try clear hb)
                            (try clear hb2)
                            (try clear hk)
                            (try clear hi)
                            refine hK.out _ _ ⟨(blk_cell BK131.out 0).trans rfl, (blk_cell BK131.out 1).trans rfl⟩ (fun hHeld => ?_)
                            clear hK K
                            refine norm_ (a' := ?_) ?_ ?_
                            rotate_left
                            · show Act.put _ (some 54) _ = _
                              simp only [Act.put, List.setIfInBounds_toArray, List.set_cons_zero, List.set_cons_succ, i64_w, i32_w]
                              rfl
                            refine pure_ (i := 5) (N := some 14) (v := ?_) (a' := ?_) #[true, true, true, true, true, true] rfl rfl (by kernel_rfl) (fun _ _ _ h => h) (Or.inl ⟨by rfl, ?_⟩) ?_ ?_
                            rotate_left
                            · intro w'
                              go_simp
                              with_reducible rfl
                            rotate_left
                            · simp only [Act.put, List.setIfInBounds_toArray, List.set_cons_zero, List.set_cons_succ, i64_w, i32_w]
                              rfl
                            refine done_ (by kernel_rfl) ?_
                            have hcz47_0 : w46.cell? ⟨gb131, 0, none⟩ = some (.int .i64 ((rd_T39 l2_2 x40_2).f0)) := (blk_cell BK131.out 0).trans rfl
                            have hcz47_1 : w46.cell? ⟨gb131, 1, none⟩ = some (.bool true) := (blk_cell BK131.out 1).trans rfl
                            have hfz47_0 := blk_frozen BK131.out 0
                            have hfz47_1 := blk_frozen BK131.out 1
                            have q48 : ((rd t124 x40_2) : Int) ≤ ((x0_2.length : Int) : Int) := of_decide_eq_true (by first | (with_reducible assumption) | assumption)
                            obtain ⟨i048, hi048, _, hsz48, _⟩ := info_parts info3
                            have hroom48 : x0_2.length ≤ co45 := (Kd.V_reads' HO_0.out).2.1
                            have hC48 : Kd.F (Kd.int .i64) _ _ Ao45 x0_2.length x0_2 := (Kd.V_at (base := w.heap.size) HO_0.out).2.2
                            have q048 : (0 : Int) ≤ ((rd t124 x40_2) : Int) := of_decide_eq_true (by first | (with_reducible assumption) | assumption)
                            have hcut48 := cut_from (P := Try.prog) 22 3 .i64 Try.underlying22 hi048 1 hsz48 Ao45 x0_2.length co45 (rd t124 x40_2) q048 q48
                            have hr48 := Kd.F_cut (m := ((rd t124 x40_2) : Int).toNat) (c := co45) hC48 (by omega) hroom48
                            obtain ⟨A48, hA48⟩ : ∃ A1, A1 = (if co45 = ((rd t124 x40_2) : Int).toNat then Ao45 else (Ao45 : Option Addr).map (·.add (((rd t124 x40_2) : Int).toNat * 1))) := ⟨_, rfl⟩
                            obtain ⟨c48, hc48⟩ : ∃ c1, c1 = co45 - ((rd t124 x40_2) : Int).toNat := ⟨_, rfl⟩
                            have hy48 : y138.length = x0_2.length - ((rd t124 x40_2) : Int).toNat := (by rw [Ny138.out, List.length_drop] <;> omega)
                            rw [show (x0_2).drop ((rd t124 x40_2) : Int).toNat = y138 from Ny138.out.symm] at hr48
                            replace hr48 : Kd.F (Kd.int .i64) _ _ A48 y138.length y138 := (by rw [hA48]; exact hr48)
                            rw [← hy48, ← hA48, ← hc48] at hcut48
                            have HO142 := Aside0.mk (show Kd.V (Kd.int .i64) 3 _ w.heap.size _ (.slice A48 y138.length c48) y138 from Kd.V_mk (by rw [hy48, hc48]; exact Nat.sub_le_sub_right hroom48 _) hr48)
                            have HC142 := Aside0.mk (show y138.length ≤ c48 from by rw [hy48, hc48]; exact Nat.sub_le_sub_right hroom48 _)
                            clear hr48 hC48 hroom48 hi048 hsz48 hc48
                            have KY48 := Aside0.mk hy48
                            have KA48 := Aside0.mk hA48
                            clear hy48 hA48
                            replace q48 := eq_true q48
                            try go_wp2
                            go_roundg k2
                            case measure => have := HJ4.out; have := HK2.out; omega
                            case rel => exact ⟨(y138), (wrap64 (x10_2 + (wrap64 (t128 + t137)))), (wrap64 (x40_2 + 1)), (by first | rfl | (simp; done) | (simp only [i64_w, i32_w]; done) | (simp [*]; done) | (simp only [i64_w, i32_w]; first | rfl | (simp; done) | (simp [*]; done))), (by first | rfl | (simp; done) | (simp only [i64_w, i32_w]; done) | (simp [*]; done) | (simp only [i64_w, i32_w]; first | rfl | (simp; done) | (simp [*]; done))), H', ⟨by have := HJ4.out; have := HK2.out; omega⟩, ⟨by (with_reducible repeat (first | apply Kd.V_alloc | apply Kd.V_drewN | apply Kd.V_drew)); exact Kd.V_mono HO142.out (fun _ hk => ⟨hk.1, ⟨hk.2.1, hk.2.2.1⟩⟩)⟩, ⟨by (with_reducible repeat (first | apply Kd.R_alloc | apply Kd.R_drewN | apply Kd.R_drew)); exact HO_38.out⟩, ⟨by (with_reducible repeat (first | refine blk_drewN ?_ _ | refine blk_drew ?_ | refine blk_alloc ?_ _)); exact BK123.out⟩, ⟨by repeat (first | (with_reducible first | exact HB.out | apply below_alloc | apply pw_below_drewN | apply below_drew1 | refine below_set ?_ GE123.out | refine below_set ?_ GE131.out) | exact HB.out)⟩⟩
                          · replace c35 := Bool.eq_false_iff.mpr c35
                            subst c35
                            have H1 : (if ((rd_T39 l2_2 x40_2).f0) < 0 then (some (-1)) else (if ((rd_T39 l2_2 x40_2).f0) > t127 then (some (-1)) else (parts_Bits.l0 k2 (x0_2.drop ((rd t124 x40_2) : Int).toNat) t127 t128 (wrap64 (x10_2 + (wrap64 (t128 + t137)))) t124 (t124.length : Int) (wrap64 (x40_2 + 1)) a2_0 a2_1 l2_2))) = some r := by rw [if_neg (show ¬ (false = true) by decide)] at H; exact H
                            clear H
                            have H := H1
                            clear H1
                            by_cases c49 : ((rd_T39 l2_2 x40_2).f0) < 0
                            · rw [if_pos c49] at H
                              have c49b0 : decide (((rd_T39 l2_2 x40_2).f0) < 0) = true := decide_eq_true c49
                              clear c49
                              obtain rfl := Option.some.inj H
                              have p129 : 0 ≤ (x40_2 : Int) := of_decide_eq_true (by first | (with_reducible assumption) | assumption)
                              have q129 : x40_2 < (t124.length : Int) := of_decide_eq_true (by first | (with_reducible assumption) | assumption)
                              obtain ⟨ad129, e129, hx129_0⟩ := Kd.at_int (Kd.R_reads' HO_38.out).2.2 x40_2 p129 q129
                              cases e129
                              replace p129 := eq_true p129
                              replace q129 := eq_true q129
                              have hcz50_0 : wr.cell? ⟨gb123, 0, none⟩ = some (.bool a2_0) := (blk_cell BK123.out 0).trans rfl
                              have hcz50_1 : wr.cell? ⟨gb123, 1, none⟩ = some (.int .i64 a2_1) := (blk_cell BK123.out 1).trans rfl
                              have hcz50_2 : wr.cell? ⟨gb123, 2, none⟩ = some (.slice A2_2 l2_2.length c2_2) := (blk_cell BK123.out 2).trans rfl
                              have hfz50_0 := blk_frozen BK123.out 0
                              have hfz50_1 := blk_frozen BK123.out 1
                              have hfz50_2 := blk_frozen BK123.out 2
                              have p130 : 0 ≤ (x40_2 : Int) := of_decide_eq_true (by first | (with_reducible assumption) | assumption)
                              have q130 : x40_2 < (l2_2.length : Int) := of_decide_eq_true (by first | (with_reducible assumption) | assumption)
                              obtain ⟨ad130, e130, hx130_0, hx130_1⟩ := at_T39 HR2_2.out x40_2 p130 q130
                              (try rw [← Nbq34.out] at hx130_1)
                              cases e130
                              replace hx130_0 := (HB.out.cell (World.block_lt_of_cell? w _ hx130_0)).trans hx130_0
                              replace hx130_1 := (HB.out.cell (World.block_lt_of_cell? w _ hx130_1)).trans hx130_1
                              replace p130 := eq_true p130
                              replace q130 := eq_true q130
                              try go_wp2_with (first | ((with_reducible refine gate_dst (N := 13) rfl ?_); (try (refine gate_guard (by rfl) ?_; dsimp only)); refine box_event ?hg (N := 13) ?hd (cs := #[.int .i64 0, .bool false]) (t := 39) ?hr ?_; (case hd => rfl); (case hg => rfl); (case hr => first | (go_simp; done) | (go_simp; rfl)); intro gb131 hg w51 hbox hb; have n0_ := Aside0.mk (Kd.V_below (Kd.V_elderB (by (with_reducible repeat (first | apply Kd.V_alloc | apply Kd.V_drewN | apply Kd.V_drew)); exact HO_0.out) gb131 (Nat.le_of_eq hg.symm)) hb); have n1_ := Aside0.mk (Kd.R_below (by (with_reducible repeat (first | apply Kd.R_alloc | apply Kd.R_drewN | apply Kd.R_drew)); exact HO_38.out) hb); have n2_ := Aside0.mk (blk_below (g := gb123) (o := .cells #[.bool a2_0, .int .i64 a2_1, .slice (some ad130) l2_2.length c2_2] 26 (0, 0)) (by (with_reducible repeat (first | refine blk_drewN ?_ _ | refine blk_drew ?_ | refine blk_alloc ?_ _)); exact BK123.out) hb); have n3_ := Aside0.mk (below_step (by repeat (first | (with_reducible first | exact HB.out | apply below_alloc | apply pw_below_drewN | apply below_drew1 | refine below_set ?_ GE123.out) | exact HB.out)) hb); have n4_ := Aside0.mk (hbox); have n5_ := Aside0.mk ((by rw [hg]; exact (below_size (by repeat (first | (with_reducible first | exact HB.out | apply below_alloc | apply pw_below_drewN | apply below_drew1 | refine below_set ?_ GE123.out) | exact HB.out))) : w.heap.size ≤ gb131)); have n6_ := Aside0.mk ((by rw [hg]; exact (below_size (by repeat (first | (with_reducible first | exact HB.out | apply below_alloc | apply pw_below_drewN | apply below_drew1 | refine below_set ?_ GE123.out) | exact HB.out))) : w.heap.size ≤ gb131)); have n7_ := Aside0.mk ((by rw [hg]; exact Nat.ne_of_lt (blk_lt (g := gb123) (o := .cells #[.bool a2_0, .int .i64 a2_1, .slice (some ad130) l2_2.length c2_2] 26 (0, 0)) (by (with_reducible repeat (first | refine blk_drewN ?_ _ | refine blk_drew ?_ | refine blk_alloc ?_ _)); exact BK123.out)) : gb123 ≠ gb131)); have n8_ := Aside0.mk ((by rw [hg]; exact Nat.ne_of_gt (blk_lt (g := gb123) (o := .cells #[.bool a2_0, .int .i64 a2_1, .slice (some ad130) l2_2.length c2_2] 26 (0, 0)) (by (with_reducible repeat (first | refine blk_drewN ?_ _ | refine blk_drew ?_ | refine blk_alloc ?_ _)); exact BK123.out)) : gb131 ≠ gb123)); clear HO_0; clear HO_38; clear BK123; clear HB; have HO_0 := n0_; have HO_38 := n1_; have BK123 := n2_; have HB := n3_; have BK131 := n4_; have GW131 := n5_; have GE131 := n6_; have NB123_131 := n7_; have NB131_123 := n8_; clear n0_ n1_ n2_ n3_ n4_ n5_ n6_ n7_ n8_; clear hb hbox hg; have hnb52 := NB131_123.out; have hnc52 := NB123_131.out; have hcz53_0 : w51.cell? ⟨gb131, 0, none⟩ = some (.int .i64 0) := (blk_cell BK131.out 0).trans rfl; have hcz53_1 : w51.cell? ⟨gb131, 1, none⟩ = some (.bool false) := (blk_cell BK131.out 1).trans rfl; have hfz53_0 := blk_frozen BK131.out 0; have hfz53_1 := blk_frozen BK131.out 1))
                              have n0_ : Aside0 (Kd.V (Kd.int .i64) 3 ((w51.setCell ⟨gb131, 0, none⟩ (.int .i64 ((rd_T39 l2_2 x40_2).f0))).setCell ⟨gb131, 1, none⟩ (.bool false)) w.heap.size (fun k_ => (P0_ k_ ∨ w.heap.size ≤ k_) ∧ some k_ ≠ (.slice (some ad129) t124.length co16 : Value).ownBlock ∧ k_ ≠ gb123 ∧ k_ ≠ gb131) u0 x0_2) := ⟨by (with_reducible repeat (first | apply Kd.V_alloc | apply Kd.V_drewN | apply Kd.V_drew)); exact Kd.V_mono (Kd.V_far (p := ⟨gb131, 1, none⟩) (Kd.V_far (p := ⟨gb131, 0, none⟩) (Kd.V_mono HO_0.out (fun k_ hk => (⟨hk, hk.2⟩ : _ ∧ k_ ≠ gb131))) (fun _ hk => hk.2) (.int .i64 ((rd_T39 l2_2 x40_2).f0))) (fun _ hk => hk.2) (.bool false)) (fun _ hk => ⟨hk.1.1.1, ⟨hk.1.1.2.1, ⟨hk.1.1.2.2, hk.1.2⟩⟩⟩)⟩
                              have n1_ : Aside0 (Kd.R (Kd.int .i64) 3 ((w51.setCell ⟨gb131, 0, none⟩ (.int .i64 ((rd_T39 l2_2 x40_2).f0))).setCell ⟨gb131, 1, none⟩ (.bool false)) w.heap.size (fun k_ => (w.heap.size ≤ k_)) (.slice (some ad129) t124.length co16) t124) := ⟨by (with_reducible repeat (first | apply Kd.R_alloc | apply Kd.R_drewN | apply Kd.R_drew)); exact Kd.R_mono (Kd.R_far (p := ⟨gb131, 1, none⟩) (Kd.R_far (p := ⟨gb131, 0, none⟩) (Kd.R_types HO_38.out BK131.out (by decide)) (fun _ hk => hk.2) (.int .i64 ((rd_T39 l2_2 x40_2).f0))) (fun _ hk => hk.2) (.bool false)) (fun _ hk => hk.1)⟩
                              have n2_ : Aside0 (((w51.setCell ⟨gb131, 0, none⟩ (.int .i64 ((rd_T39 l2_2 x40_2).f0))).setCell ⟨gb131, 1, none⟩ (.bool false)).heap[gb123]? = some (.cells #[.bool a2_0, .int .i64 a2_1, .slice (some ad130) l2_2.length c2_2] 26 (0, 0))) := ⟨by (with_reducible repeat (first | refine blk_drewN ?_ _ | refine blk_drew ?_ | refine blk_alloc ?_ _)); refine blk_far ?_ NB123_131.out _; (with_reducible repeat (first | refine blk_drewN ?_ _ | refine blk_drew ?_ | refine blk_alloc ?_ _)); refine blk_far ?_ NB123_131.out _; (with_reducible repeat (first | refine blk_drewN ?_ _ | refine blk_drew ?_ | refine blk_alloc ?_ _)); exact BK123.out⟩
                              have n3_ : Aside0 (((w51.setCell ⟨gb131, 0, none⟩ (.int .i64 ((rd_T39 l2_2 x40_2).f0))).setCell ⟨gb131, 1, none⟩ (.bool false)).heap[gb131]? = some (.cells #[.int .i64 ((rd_T39 l2_2 x40_2).f0), .bool false] 39 (0, 0))) := ⟨by (with_reducible repeat (first | refine blk_drewN ?_ _ | refine blk_drew ?_ | refine blk_alloc ?_ _)); refine blk_put (cs := #[.int .i64 ((rd_T39 l2_2 x40_2).f0), .bool false]) ?_ 1 _ rfl; (with_reducible repeat (first | refine blk_drewN ?_ _ | refine blk_drew ?_ | refine blk_alloc ?_ _)); refine blk_put (cs := #[.int .i64 0, .bool false]) ?_ 0 _ rfl; (with_reducible repeat (first | refine blk_drewN ?_ _ | refine blk_drew ?_ | refine blk_alloc ?_ _)); exact BK131.out⟩
                              have n4_ : Aside0 (Below w.heap.size w ((w51.setCell ⟨gb131, 0, none⟩ (.int .i64 ((rd_T39 l2_2 x40_2).f0))).setCell ⟨gb131, 1, none⟩ (.bool false))) := ⟨by repeat (first | (with_reducible first | exact HB.out | apply below_alloc | apply pw_below_drewN | apply below_drew1 | refine below_set ?_ GE123.out | refine below_set ?_ GE131.out) | exact HB.out)⟩
                              (try clear HO_0)
                              (try clear HO_38)
                              (try clear BK123)
                              (try clear BK131)
                              (try clear HB)
                              generalize ((w51.setCell ⟨gb131, 0, none⟩ (.int .i64 ((rd_T39 l2_2 x40_2).f0))).setCell ⟨gb131, 1, none⟩ (.bool false)) = w54 at n0_ n1_ n2_ n3_ n4_ ⊢
                              have HO_0 := n0_
                              have HO_38 := n1_
                              have BK123 := n2_
                              have BK131 := n3_
                              have HB := n4_
                              clear n0_ n1_ n2_ n3_ n4_
                              have n0_ := Aside0.mk (Kd.V_drew HO_0.out)
                              have n1_ := Aside0.mk (Kd.R_drew HO_38.out)
                              have n2_ := Aside0.mk (blk_drew BK123.out)
                              have n3_ := Aside0.mk (blk_drew BK131.out)
                              have n4_ := Aside0.mk (below_drew1 HB.out)
                              clear HO_0
                              clear HO_38
                              clear BK123
                              clear BK131
                              clear HB
                              have HO_0 := n0_
                              have HO_38 := n1_
                              have BK123 := n2_
                              have BK131 := n3_
                              have HB := n4_
                              clear n0_ n1_ n2_ n3_ n4_
                              obtain ⟨Ao57, co57, eo57⟩ := Kd.V_slice HO_0.out
                              (first | subst eo57 | (injection eo57 with f1_ f2_ f3_; have f4_ := f1_.symm; have f5_ := f3_.symm; clear f1_ f2_ f3_; subst f4_; subst f5_))
                              have q56 : ((rd t124 x40_2) : Int) ≤ ((x0_2.length : Int) : Int) := of_decide_eq_true (by first | (with_reducible assumption) | assumption)
                              obtain ⟨i056, hi056, _, hsz56, _⟩ := info_parts info3
                              have hroom56 : x0_2.length ≤ co57 := (Kd.V_reads' HO_0.out).2.1
                              have hC56 : Kd.F (Kd.int .i64) _ _ Ao57 x0_2.length x0_2 := (Kd.V_at (base := w.heap.size) HO_0.out).2.2
                              have hcut56 := cut_to (P := Try.prog) 22 3 .i64 Try.underlying22 hi056 Ao57 x0_2.length co57 (rd t124 x40_2) (of_decide_eq_true (by first | (with_reducible assumption) | assumption)) q56 hroom56
                              have hr56 := Kd.F_take (m := ((rd t124 x40_2) : Int).toNat) hC56 (by omega)
                              have hy56 : y132.length = ((rd t124 x40_2) : Int).toNat := (by rw [Ny132.out, List.length_take]; omega)
                              rw [← Ny132.out] at hr56
                              rw [← hy56] at hcut56
                              have HO136 := Aside0.mk (show Kd.V (Kd.int .i64) 3 _ w.heap.size _ (.slice Ao57 y132.length co57) y132 from Kd.V_mk (by omega) hr56)
                              have HC136 := Aside0.mk (show y132.length ≤ co57 from by omega)
                              clear hr56 hC56 hroom56 hi056 hsz56
                              have KY56 := Aside0.mk hy56
                              clear hy56
                              replace q56 := eq_true q56
                              refine start_ (n := 6) (S := fun w' => w'.cell? ⟨gb131, 0, none⟩ = some (.int .i64 ((rd_T39 l2_2 x40_2).f0)) ∧ w'.cell? ⟨gb131, 1, none⟩ = some (.bool false)) (ds := []) #[false, false, false, false, false, false] (by kernel_rfl) rfl rfl ⟨(blk_cell BK131.out 0).trans rfl, (blk_cell BK131.out 1).trans rfl⟩ (fun hHeld => ?_)
                              generalize w54.drew = w55 at HO_0 HO_38 BK123 BK131 HB HO136 hHeld ⊢
                              refine pure_ (i := 0) (N := some 50) (v := ?_) (a' := ?_) #[true, false, false, false, false, false] rfl rfl (by kernel_rfl) (fun _ _ _ h => h) (Or.inl ⟨by rfl, ?_⟩) ?_ ?_
                              rotate_left
                              · intro w'
                                go_simp
                                with_reducible rfl
                              rotate_left
                              · simp only [Act.put, List.setIfInBounds_toArray, List.set_cons_zero, List.set_cons_succ, i64_w, i32_w]
                                rfl
                              refine pure_ (i := 1) (N := some 51) (v := ?_) (a' := ?_) #[true, true, false, false, false, false] rfl rfl (by kernel_rfl) (fun _ _ _ h => h) (Or.inl ⟨by rfl, ?_⟩) ?_ ?_
                              rotate_left
                              · intro w'
                                go_simp
                                with_reducible rfl
                              rotate_left
                              · simp only [Act.put, List.setIfInBounds_toArray, List.set_cons_zero, List.set_cons_succ, i64_w, i32_w]
                                rfl
                              refine pure_ (i := 2) (N := some 52) (v := ?_) (a' := ?_) #[true, true, true, false, false, false] rfl rfl (by kernel_rfl) (fun _ _ _ h => h) (Or.inl ⟨by rfl, ?_⟩) ?_ ?_
                              rotate_left
                              · intro w'
                                go_simp
                                with_reducible rfl
                              rotate_left
                              · simp only [Act.put, List.setIfInBounds_toArray, List.set_cons_zero, List.set_cons_succ, i64_w, i32_w]
                                rfl
                              refine take_ (i := 3) (N := some 53) (v := ?_) (a' := ?_) #[true, true, true, true, false, false] rfl rfl (by kernel_rfl) (fun _ _ _ h => h) (Or.inl ⟨by rfl, ?_⟩) hHeld ?_ ?_
                              rotate_left
                              · rintro w' ⟨s0, s1⟩
                                go_simp
                                with_reducible rfl
                              rotate_left
                              · simp only [Act.put, List.setIfInBounds_toArray, List.set_cons_zero, List.set_cons_succ, i64_w, i32_w]
                                rfl
                              refine one_ (i := 4) (N := some 54) #[true, true, true, true, true, false] rfl rfl (by kernel_rfl) (by decide) (fun K hK => ?_)
                              refine goes_ Try.func24 (by kernel_rfl) rfl #[.slice Ao57 y132.length co57, .agg #[.int .i64 ((rd_T39 l2_2 x40_2).f0), .bool false]] (by rfl) rfl rfl (by (try simp only [List.map_toArray, List.map_cons, List.map_nil]); first | done | rfl | (simp only [List.length_drop, List.length_take]; rfl)) ?_
                              with_reducible refine (cost_Each.calls k2 _ _ y132 ((rd_T39 l2_2 x40_2).f0) false t137 _ ?side1 ?side2 (by first | exact A23.out | (rw [Nbq34.out]; exact A23.out))).mono ?_
                              (case side1 => repeat (first | exact (Kd.V_reads' HO136.out).2.2 | (with_reducible refine Kd.C_alloc ?_ _) | (with_reducible refine Kd.C_drewN ?_ _) | (with_reducible refine Kd.C_drew ?_)))
                              (case side2 => exact (Kd.V_reads' HO136.out).2.1)
                              rintro e w58 ⟨rfl, hb⟩
                              refine ⟨_, rfl, ?_⟩
                              have n0_ := Aside0.mk (Kd.V_below (by (with_reducible repeat (first | apply Kd.V_alloc | apply Kd.V_drewN | apply Kd.V_drew)); exact HO_0.out) hb)
                              have n1_ := Aside0.mk (Kd.R_below (by (with_reducible repeat (first | apply Kd.R_alloc | apply Kd.R_drewN | apply Kd.R_drew)); exact HO_38.out) hb)
                              have n2_ := Aside0.mk (Kd.V_below (by (with_reducible repeat (first | apply Kd.V_alloc | apply Kd.V_drewN | apply Kd.V_drew)); exact HO136.out) hb)
                              have n3_ := Aside0.mk (blk_below (g := gb123) (o := .cells #[.bool a2_0, .int .i64 a2_1, .slice (some ad130) l2_2.length c2_2] 26 (0, 0)) (by (with_reducible repeat (first | refine blk_drewN ?_ _ | refine blk_drew ?_ | refine blk_alloc ?_ _)); exact BK123.out) hb)
                              have n4_ := Aside0.mk (blk_below (g := gb131) (o := .cells #[.int .i64 ((rd_T39 l2_2 x40_2).f0), .bool false] 39 (0, 0)) (by (with_reducible repeat (first | refine blk_drewN ?_ _ | refine blk_drew ?_ | refine blk_alloc ?_ _)); exact BK131.out) hb)
                              have n5_ := Aside0.mk (below_step (by repeat (first | (with_reducible first | exact HB.out | apply below_alloc | apply pw_below_drewN | apply below_drew1 | refine below_set ?_ GE123.out | refine below_set ?_ GE131.out) | exact HB.out)) hb)
                              clear HO_0
                              clear HO_38
                              clear HO136
                              clear BK123
                              clear BK131
                              clear HB
                              have HO_0 := n0_
                              have HO_38 := n1_
                              have HO136 := n2_
                              have BK123 := n3_
                              have BK131 := n4_
                              have HB := n5_
                              clear n0_ n1_ n2_ n3_ n4_ n5_
                              (try clear hb)
                              (try clear hb2)
                              (try clear hk)
                              (try clear hi)
                              refine hK.out _ _ ⟨(blk_cell BK131.out 0).trans rfl, (blk_cell BK131.out 1).trans rfl⟩ (fun hHeld => ?_)
                              clear hK K
                              refine norm_ (a' := ?_) ?_ ?_
                              rotate_left
                              · show Act.put _ (some 54) _ = _
                                simp only [Act.put, List.setIfInBounds_toArray, List.set_cons_zero, List.set_cons_succ, i64_w, i32_w]
                                rfl
                              refine pure_ (i := 5) (N := some 14) (v := ?_) (a' := ?_) #[true, true, true, true, true, true] rfl rfl (by kernel_rfl) (fun _ _ _ h => h) (Or.inl ⟨by rfl, ?_⟩) ?_ ?_
                              rotate_left
                              · intro w'
                                go_simp
                                with_reducible rfl
                              rotate_left
                              · simp only [Act.put, List.setIfInBounds_toArray, List.set_cons_zero, List.set_cons_succ, i64_w, i32_w]
                                rfl
                              refine done_ (by kernel_rfl) ?_
                              have hcz59_0 : w58.cell? ⟨gb131, 0, none⟩ = some (.int .i64 ((rd_T39 l2_2 x40_2).f0)) := (blk_cell BK131.out 0).trans rfl
                              have hcz59_1 : w58.cell? ⟨gb131, 1, none⟩ = some (.bool false) := (blk_cell BK131.out 1).trans rfl
                              have hfz59_0 := blk_frozen BK131.out 0
                              have hfz59_1 := blk_frozen BK131.out 1
                              try go_wp2
                              go_ret
                              exact ⟨by first | rfl | (simp [errW_none, errW_some] <;> rfl) | (simp [*, errW_none, errW_some] <;> rfl), by repeat (first | (with_reducible first | exact HB.out | apply below_alloc | apply pw_below_drewN | apply below_drew1 | refine below_set ?_ GE123.out | refine below_set ?_ GE131.out) | exact HB.out)⟩
                            · rw [if_neg c49] at H
                              have c49b0 : decide (((rd_T39 l2_2 x40_2).f0) < 0) = false := decide_eq_false c49
                              clear c49
                              by_cases c60 : ((rd_T39 l2_2 x40_2).f0) > t127
                              · rw [if_pos c60] at H
                                have c60b0 : decide (t127 < ((rd_T39 l2_2 x40_2).f0)) = true := decide_eq_true c60
                                clear c60
                                obtain rfl := Option.some.inj H
                                have p129 : 0 ≤ (x40_2 : Int) := of_decide_eq_true (by first | (with_reducible assumption) | assumption)
                                have q129 : x40_2 < (t124.length : Int) := of_decide_eq_true (by first | (with_reducible assumption) | assumption)
                                obtain ⟨ad129, e129, hx129_0⟩ := Kd.at_int (Kd.R_reads' HO_38.out).2.2 x40_2 p129 q129
                                cases e129
                                replace p129 := eq_true p129
                                replace q129 := eq_true q129
                                have hcz61_0 : wr.cell? ⟨gb123, 0, none⟩ = some (.bool a2_0) := (blk_cell BK123.out 0).trans rfl
                                have hcz61_1 : wr.cell? ⟨gb123, 1, none⟩ = some (.int .i64 a2_1) := (blk_cell BK123.out 1).trans rfl
                                have hcz61_2 : wr.cell? ⟨gb123, 2, none⟩ = some (.slice A2_2 l2_2.length c2_2) := (blk_cell BK123.out 2).trans rfl
                                have hfz61_0 := blk_frozen BK123.out 0
                                have hfz61_1 := blk_frozen BK123.out 1
                                have hfz61_2 := blk_frozen BK123.out 2
                                have p130 : 0 ≤ (x40_2 : Int) := of_decide_eq_true (by first | (with_reducible assumption) | assumption)
                                have q130 : x40_2 < (l2_2.length : Int) := of_decide_eq_true (by first | (with_reducible assumption) | assumption)
                                obtain ⟨ad130, e130, hx130_0, hx130_1⟩ := at_T39 HR2_2.out x40_2 p130 q130
                                (try rw [← Nbq34.out] at hx130_1)
                                cases e130
                                replace hx130_0 := (HB.out.cell (World.block_lt_of_cell? w _ hx130_0)).trans hx130_0
                                replace hx130_1 := (HB.out.cell (World.block_lt_of_cell? w _ hx130_1)).trans hx130_1
                                replace p130 := eq_true p130
                                replace q130 := eq_true q130
                                try go_wp2_with (first | ((with_reducible refine gate_dst (N := 13) rfl ?_); (try (refine gate_guard (by rfl) ?_; dsimp only)); refine box_event ?hg (N := 13) ?hd (cs := #[.int .i64 0, .bool false]) (t := 39) ?hr ?_; (case hd => rfl); (case hg => rfl); (case hr => first | (go_simp; done) | (go_simp; rfl)); intro gb131 hg w62 hbox hb; have n0_ := Aside0.mk (Kd.V_below (Kd.V_elderB (by (with_reducible repeat (first | apply Kd.V_alloc | apply Kd.V_drewN | apply Kd.V_drew)); exact HO_0.out) gb131 (Nat.le_of_eq hg.symm)) hb); have n1_ := Aside0.mk (Kd.R_below (by (with_reducible repeat (first | apply Kd.R_alloc | apply Kd.R_drewN | apply Kd.R_drew)); exact HO_38.out) hb); have n2_ := Aside0.mk (blk_below (g := gb123) (o := .cells #[.bool a2_0, .int .i64 a2_1, .slice (some ad130) l2_2.length c2_2] 26 (0, 0)) (by (with_reducible repeat (first | refine blk_drewN ?_ _ | refine blk_drew ?_ | refine blk_alloc ?_ _)); exact BK123.out) hb); have n3_ := Aside0.mk (below_step (by repeat (first | (with_reducible first | exact HB.out | apply below_alloc | apply pw_below_drewN | apply below_drew1 | refine below_set ?_ GE123.out) | exact HB.out)) hb); have n4_ := Aside0.mk (hbox); have n5_ := Aside0.mk ((by rw [hg]; exact (below_size (by repeat (first | (with_reducible first | exact HB.out | apply below_alloc | apply pw_below_drewN | apply below_drew1 | refine below_set ?_ GE123.out) | exact HB.out))) : w.heap.size ≤ gb131)); have n6_ := Aside0.mk ((by rw [hg]; exact (below_size (by repeat (first | (with_reducible first | exact HB.out | apply below_alloc | apply pw_below_drewN | apply below_drew1 | refine below_set ?_ GE123.out) | exact HB.out))) : w.heap.size ≤ gb131)); have n7_ := Aside0.mk ((by rw [hg]; exact Nat.ne_of_lt (blk_lt (g := gb123) (o := .cells #[.bool a2_0, .int .i64 a2_1, .slice (some ad130) l2_2.length c2_2] 26 (0, 0)) (by (with_reducible repeat (first | refine blk_drewN ?_ _ | refine blk_drew ?_ | refine blk_alloc ?_ _)); exact BK123.out)) : gb123 ≠ gb131)); have n8_ := Aside0.mk ((by rw [hg]; exact Nat.ne_of_gt (blk_lt (g := gb123) (o := .cells #[.bool a2_0, .int .i64 a2_1, .slice (some ad130) l2_2.length c2_2] 26 (0, 0)) (by (with_reducible repeat (first | refine blk_drewN ?_ _ | refine blk_drew ?_ | refine blk_alloc ?_ _)); exact BK123.out)) : gb131 ≠ gb123)); clear HO_0; clear HO_38; clear BK123; clear HB; have HO_0 := n0_; have HO_38 := n1_; have BK123 := n2_; have HB := n3_; have BK131 := n4_; have GW131 := n5_; have GE131 := n6_; have NB123_131 := n7_; have NB131_123 := n8_; clear n0_ n1_ n2_ n3_ n4_ n5_ n6_ n7_ n8_; clear hb hbox hg; have hnb63 := NB131_123.out; have hnc63 := NB123_131.out; have hcz64_0 : w62.cell? ⟨gb131, 0, none⟩ = some (.int .i64 0) := (blk_cell BK131.out 0).trans rfl; have hcz64_1 : w62.cell? ⟨gb131, 1, none⟩ = some (.bool false) := (blk_cell BK131.out 1).trans rfl; have hfz64_0 := blk_frozen BK131.out 0; have hfz64_1 := blk_frozen BK131.out 1))
                                have n0_ : Aside0 (Kd.V (Kd.int .i64) 3 ((w62.setCell ⟨gb131, 0, none⟩ (.int .i64 ((rd_T39 l2_2 x40_2).f0))).setCell ⟨gb131, 1, none⟩ (.bool false)) w.heap.size (fun k_ => (P0_ k_ ∨ w.heap.size ≤ k_) ∧ some k_ ≠ (.slice (some ad129) t124.length co16 : Value).ownBlock ∧ k_ ≠ gb123 ∧ k_ ≠ gb131) u0 x0_2) := ⟨by (with_reducible repeat (first | apply Kd.V_alloc | apply Kd.V_drewN | apply Kd.V_drew)); exact Kd.V_mono (Kd.V_far (p := ⟨gb131, 1, none⟩) (Kd.V_far (p := ⟨gb131, 0, none⟩) (Kd.V_mono HO_0.out (fun k_ hk => (⟨hk, hk.2⟩ : _ ∧ k_ ≠ gb131))) (fun _ hk => hk.2) (.int .i64 ((rd_T39 l2_2 x40_2).f0))) (fun _ hk => hk.2) (.bool false)) (fun _ hk => ⟨hk.1.1.1, ⟨hk.1.1.2.1, ⟨hk.1.1.2.2, hk.1.2⟩⟩⟩)⟩
                                have n1_ : Aside0 (Kd.R (Kd.int .i64) 3 ((w62.setCell ⟨gb131, 0, none⟩ (.int .i64 ((rd_T39 l2_2 x40_2).f0))).setCell ⟨gb131, 1, none⟩ (.bool false)) w.heap.size (fun k_ => (w.heap.size ≤ k_)) (.slice (some ad129) t124.length co16) t124) := ⟨by (with_reducible repeat (first | apply Kd.R_alloc | apply Kd.R_drewN | apply Kd.R_drew)); exact Kd.R_mono (Kd.R_far (p := ⟨gb131, 1, none⟩) (Kd.R_far (p := ⟨gb131, 0, none⟩) (Kd.R_types HO_38.out BK131.out (by decide)) (fun _ hk => hk.2) (.int .i64 ((rd_T39 l2_2 x40_2).f0))) (fun _ hk => hk.2) (.bool false)) (fun _ hk => hk.1)⟩
                                have n2_ : Aside0 (((w62.setCell ⟨gb131, 0, none⟩ (.int .i64 ((rd_T39 l2_2 x40_2).f0))).setCell ⟨gb131, 1, none⟩ (.bool false)).heap[gb123]? = some (.cells #[.bool a2_0, .int .i64 a2_1, .slice (some ad130) l2_2.length c2_2] 26 (0, 0))) := ⟨by (with_reducible repeat (first | refine blk_drewN ?_ _ | refine blk_drew ?_ | refine blk_alloc ?_ _)); refine blk_far ?_ NB123_131.out _; (with_reducible repeat (first | refine blk_drewN ?_ _ | refine blk_drew ?_ | refine blk_alloc ?_ _)); refine blk_far ?_ NB123_131.out _; (with_reducible repeat (first | refine blk_drewN ?_ _ | refine blk_drew ?_ | refine blk_alloc ?_ _)); exact BK123.out⟩
                                have n3_ : Aside0 (((w62.setCell ⟨gb131, 0, none⟩ (.int .i64 ((rd_T39 l2_2 x40_2).f0))).setCell ⟨gb131, 1, none⟩ (.bool false)).heap[gb131]? = some (.cells #[.int .i64 ((rd_T39 l2_2 x40_2).f0), .bool false] 39 (0, 0))) := ⟨by (with_reducible repeat (first | refine blk_drewN ?_ _ | refine blk_drew ?_ | refine blk_alloc ?_ _)); refine blk_put (cs := #[.int .i64 ((rd_T39 l2_2 x40_2).f0), .bool false]) ?_ 1 _ rfl; (with_reducible repeat (first | refine blk_drewN ?_ _ | refine blk_drew ?_ | refine blk_alloc ?_ _)); refine blk_put (cs := #[.int .i64 0, .bool false]) ?_ 0 _ rfl; (with_reducible repeat (first | refine blk_drewN ?_ _ | refine blk_drew ?_ | refine blk_alloc ?_ _)); exact BK131.out⟩
                                have n4_ : Aside0 (Below w.heap.size w ((w62.setCell ⟨gb131, 0, none⟩ (.int .i64 ((rd_T39 l2_2 x40_2).f0))).setCell ⟨gb131, 1, none⟩ (.bool false))) := ⟨by repeat (first | (with_reducible first | exact HB.out | apply below_alloc | apply pw_below_drewN | apply below_drew1 | refine below_set ?_ GE123.out | refine below_set ?_ GE131.out) | exact HB.out)⟩
                                (try clear HO_0)
                                (try clear HO_38)
                                (try clear BK123)
                                (try clear BK131)
                                (try clear HB)
                                generalize ((w62.setCell ⟨gb131, 0, none⟩ (.int .i64 ((rd_T39 l2_2 x40_2).f0))).setCell ⟨gb131, 1, none⟩ (.bool false)) = w65 at n0_ n1_ n2_ n3_ n4_ ⊢
                                have HO_0 := n0_
                                have HO_38 := n1_
                                have BK123 := n2_
                                have BK131 := n3_
                                have HB := n4_
                                clear n0_ n1_ n2_ n3_ n4_
                                have n0_ := Aside0.mk (Kd.V_drew HO_0.out)
                                have n1_ := Aside0.mk (Kd.R_drew HO_38.out)
                                have n2_ := Aside0.mk (blk_drew BK123.out)
                                have n3_ := Aside0.mk (blk_drew BK131.out)
                                have n4_ := Aside0.mk (below_drew1 HB.out)
                                clear HO_0
                                clear HO_38
                                clear BK123
                                clear BK131
                                clear HB
                                have HO_0 := n0_
                                have HO_38 := n1_
                                have BK123 := n2_
                                have BK131 := n3_
                                have HB := n4_
                                clear n0_ n1_ n2_ n3_ n4_
                                obtain ⟨Ao68, co68, eo68⟩ := Kd.V_slice HO_0.out
                                (first | subst eo68 | (injection eo68 with f1_ f2_ f3_; have f4_ := f1_.symm; have f5_ := f3_.symm; clear f1_ f2_ f3_; subst f4_; subst f5_))
                                have q67 : ((rd t124 x40_2) : Int) ≤ ((x0_2.length : Int) : Int) := of_decide_eq_true (by first | (with_reducible assumption) | assumption)
                                obtain ⟨i067, hi067, _, hsz67, _⟩ := info_parts info3
                                have hroom67 : x0_2.length ≤ co68 := (Kd.V_reads' HO_0.out).2.1
                                have hC67 : Kd.F (Kd.int .i64) _ _ Ao68 x0_2.length x0_2 := (Kd.V_at (base := w.heap.size) HO_0.out).2.2
                                have hcut67 := cut_to (P := Try.prog) 22 3 .i64 Try.underlying22 hi067 Ao68 x0_2.length co68 (rd t124 x40_2) (of_decide_eq_true (by first | (with_reducible assumption) | assumption)) q67 hroom67
                                have hr67 := Kd.F_take (m := ((rd t124 x40_2) : Int).toNat) hC67 (by omega)
                                have hy67 : y132.length = ((rd t124 x40_2) : Int).toNat := (by rw [Ny132.out, List.length_take]; omega)
                                rw [← Ny132.out] at hr67
                                rw [← hy67] at hcut67
                                have HO136 := Aside0.mk (show Kd.V (Kd.int .i64) 3 _ w.heap.size _ (.slice Ao68 y132.length co68) y132 from Kd.V_mk (by omega) hr67)
                                have HC136 := Aside0.mk (show y132.length ≤ co68 from by omega)
                                clear hr67 hC67 hroom67 hi067 hsz67
                                have KY67 := Aside0.mk hy67
                                clear hy67
                                replace q67 := eq_true q67
                                refine start_ (n := 6) (S := fun w' => w'.cell? ⟨gb131, 0, none⟩ = some (.int .i64 ((rd_T39 l2_2 x40_2).f0)) ∧ w'.cell? ⟨gb131, 1, none⟩ = some (.bool false)) (ds := []) #[false, false, false, false, false, false] (by kernel_rfl) rfl rfl ⟨(blk_cell BK131.out 0).trans rfl, (blk_cell BK131.out 1).trans rfl⟩ (fun hHeld => ?_)
                                generalize w65.drew = w66 at HO_0 HO_38 BK123 BK131 HB HO136 hHeld ⊢
                                refine pure_ (i := 0) (N := some 50) (v := ?_) (a' := ?_) #[true, false, false, false, false, false] rfl rfl (by kernel_rfl) (fun _ _ _ h => h) (Or.inl ⟨by rfl, ?_⟩) ?_ ?_
                                rotate_left
                                · intro w'
                                  go_simp
                                  with_reducible rfl
                                rotate_left
                                · simp only [Act.put, List.setIfInBounds_toArray, List.set_cons_zero, List.set_cons_succ, i64_w, i32_w]
                                  rfl
                                refine pure_ (i := 1) (N := some 51) (v := ?_) (a' := ?_) #[true, true, false, false, false, false] rfl rfl (by kernel_rfl) (fun _ _ _ h => h) (Or.inl ⟨by rfl, ?_⟩) ?_ ?_
                                rotate_left
                                · intro w'
                                  go_simp
                                  with_reducible rfl
                                rotate_left
                                · simp only [Act.put, List.setIfInBounds_toArray, List.set_cons_zero, List.set_cons_succ, i64_w, i32_w]
                                  rfl
                                refine pure_ (i := 2) (N := some 52) (v := ?_) (a' := ?_) #[true, true, true, false, false, false] rfl rfl (by kernel_rfl) (fun _ _ _ h => h) (Or.inl ⟨by rfl, ?_⟩) ?_ ?_
                                rotate_left
                                · intro w'
                                  go_simp
                                  with_reducible rfl
                                rotate_left
                                · simp only [Act.put, List.setIfInBounds_toArray, List.set_cons_zero, List.set_cons_succ, i64_w, i32_w]
                                  rfl
                                refine take_ (i := 3) (N := some 53) (v := ?_) (a' := ?_) #[true, true, true, true, false, false] rfl rfl (by kernel_rfl) (fun _ _ _ h => h) (Or.inl ⟨by rfl, ?_⟩) hHeld ?_ ?_
                                rotate_left
                                · rintro w' ⟨s0, s1⟩
                                  go_simp
                                  with_reducible rfl
                                rotate_left
                                · simp only [Act.put, List.setIfInBounds_toArray, List.set_cons_zero, List.set_cons_succ, i64_w, i32_w]
                                  rfl
                                refine one_ (i := 4) (N := some 54) #[true, true, true, true, true, false] rfl rfl (by kernel_rfl) (by decide) (fun K hK => ?_)
                                refine goes_ Try.func24 (by kernel_rfl) rfl #[.slice Ao68 y132.length co68, .agg #[.int .i64 ((rd_T39 l2_2 x40_2).f0), .bool false]] (by rfl) rfl rfl (by (try simp only [List.map_toArray, List.map_cons, List.map_nil]); first | done | rfl | (simp only [List.length_drop, List.length_take]; rfl)) ?_
                                with_reducible refine (cost_Each.calls k2 _ _ y132 ((rd_T39 l2_2 x40_2).f0) false t137 _ ?side1 ?side2 (by first | exact A23.out | (rw [Nbq34.out]; exact A23.out))).mono ?_
                                (case side1 => repeat (first | exact (Kd.V_reads' HO136.out).2.2 | (with_reducible refine Kd.C_alloc ?_ _) | (with_reducible refine Kd.C_drewN ?_ _) | (with_reducible refine Kd.C_drew ?_)))
                                (case side2 => exact (Kd.V_reads' HO136.out).2.1)
                                rintro e w69 ⟨rfl, hb⟩
                                refine ⟨_, rfl, ?_⟩
                                have n0_ := Aside0.mk (Kd.V_below (by (with_reducible repeat (first | apply Kd.V_alloc | apply Kd.V_drewN | apply Kd.V_drew)); exact HO_0.out) hb)
                                have n1_ := Aside0.mk (Kd.R_below (by (with_reducible repeat (first | apply Kd.R_alloc | apply Kd.R_drewN | apply Kd.R_drew)); exact HO_38.out) hb)
                                have n2_ := Aside0.mk (Kd.V_below (by (with_reducible repeat (first | apply Kd.V_alloc | apply Kd.V_drewN | apply Kd.V_drew)); exact HO136.out) hb)
                                have n3_ := Aside0.mk (blk_below (g := gb123) (o := .cells #[.bool a2_0, .int .i64 a2_1, .slice (some ad130) l2_2.length c2_2] 26 (0, 0)) (by (with_reducible repeat (first | refine blk_drewN ?_ _ | refine blk_drew ?_ | refine blk_alloc ?_ _)); exact BK123.out) hb)
                                have n4_ := Aside0.mk (blk_below (g := gb131) (o := .cells #[.int .i64 ((rd_T39 l2_2 x40_2).f0), .bool false] 39 (0, 0)) (by (with_reducible repeat (first | refine blk_drewN ?_ _ | refine blk_drew ?_ | refine blk_alloc ?_ _)); exact BK131.out) hb)
                                have n5_ := Aside0.mk (below_step (by repeat (first | (with_reducible first | exact HB.out | apply below_alloc | apply pw_below_drewN | apply below_drew1 | refine below_set ?_ GE123.out | refine below_set ?_ GE131.out) | exact HB.out)) hb)
                                clear HO_0
                                clear HO_38
                                clear HO136
                                clear BK123
                                clear BK131
                                clear HB
                                have HO_0 := n0_
                                have HO_38 := n1_
                                have HO136 := n2_
                                have BK123 := n3_
                                have BK131 := n4_
                                have HB := n5_
                                clear n0_ n1_ n2_ n3_ n4_ n5_
                                (try clear hb)
                                (try clear hb2)
                                (try clear hk)
                                (try clear hi)
                                refine hK.out _ _ ⟨(blk_cell BK131.out 0).trans rfl, (blk_cell BK131.out 1).trans rfl⟩ (fun hHeld => ?_)
                                clear hK K
                                refine norm_ (a' := ?_) ?_ ?_
                                rotate_left
                                · show Act.put _ (some 54) _ = _
                                  simp only [Act.put, List.setIfInBounds_toArray, List.set_cons_zero, List.set_cons_succ, i64_w, i32_w]
                                  rfl
                                refine pure_ (i := 5) (N := some 14) (v := ?_) (a' := ?_) #[true, true, true, true, true, true] rfl rfl (by kernel_rfl) (fun _ _ _ h => h) (Or.inl ⟨by rfl, ?_⟩) ?_ ?_
                                rotate_left
                                · intro w'
                                  go_simp
                                  with_reducible rfl
                                rotate_left
                                · simp only [Act.put, List.setIfInBounds_toArray, List.set_cons_zero, List.set_cons_succ, i64_w, i32_w]
                                  rfl
                                refine done_ (by kernel_rfl) ?_
                                have hcz70_0 : w69.cell? ⟨gb131, 0, none⟩ = some (.int .i64 ((rd_T39 l2_2 x40_2).f0)) := (blk_cell BK131.out 0).trans rfl
                                have hcz70_1 : w69.cell? ⟨gb131, 1, none⟩ = some (.bool false) := (blk_cell BK131.out 1).trans rfl
                                have hfz70_0 := blk_frozen BK131.out 0
                                have hfz70_1 := blk_frozen BK131.out 1
                                try go_wp2
                                go_ret
                                exact ⟨by first | rfl | (simp [errW_none, errW_some] <;> rfl) | (simp [*, errW_none, errW_some] <;> rfl), by repeat (first | (with_reducible first | exact HB.out | apply below_alloc | apply pw_below_drewN | apply below_drew1 | refine below_set ?_ GE123.out | refine below_set ?_ GE131.out) | exact HB.out)⟩
                              · rw [if_neg c60] at H
                                have c60b0 : decide (t127 < ((rd_T39 l2_2 x40_2).f0)) = false := decide_eq_false c60
                                clear c60
                                have c71b0 := eq_true (of_decide_eq_true (by first | (with_reducible assumption) | assumption) : 0 ≤ (rd t124 x40_2))
                                have c72b0 := eq_true (of_decide_eq_true (by first | (with_reducible assumption) | assumption) : (rd t124 x40_2) ≤ (x0_2.length : Int))
                                obtain ⟨y143, hy143⟩ : ∃ y_ : List Int, y_ = (x0_2.drop ((rd t124 x40_2) : Int).toNat) := ⟨_, rfl⟩
                                replace H : (parts_Bits.l0 k2 y143 t127 t128 (wrap64 (x10_2 + (wrap64 (t128 + t137)))) t124 (t124.length : Int) (wrap64 (x40_2 + 1)) a2_0 a2_1 l2_2) = some r := by first | (rw [hy143]; with_reducible exact H) | (have H2_ := (Option.bind_some _ _).symm.trans H; rw [hy143]; with_reducible exact H2_) | (have H2_ := (Option.bind_some _ _).symm.trans H; with_reducible exact H2_) | with_reducible exact H | (rw [hy143]; exact H) | exact H
                                have Ny143 := Aside0.mk hy143
                                clear hy143
                                have H' := Aside0.mk H
                                clear H
                                have p129 : 0 ≤ (x40_2 : Int) := of_decide_eq_true (by first | (with_reducible assumption) | assumption)
                                have q129 : x40_2 < (t124.length : Int) := of_decide_eq_true (by first | (with_reducible assumption) | assumption)
                                obtain ⟨ad129, e129, hx129_0⟩ := Kd.at_int (Kd.R_reads' HO_38.out).2.2 x40_2 p129 q129
                                cases e129
                                replace p129 := eq_true p129
                                replace q129 := eq_true q129
                                have hcz73_0 : wr.cell? ⟨gb123, 0, none⟩ = some (.bool a2_0) := (blk_cell BK123.out 0).trans rfl
                                have hcz73_1 : wr.cell? ⟨gb123, 1, none⟩ = some (.int .i64 a2_1) := (blk_cell BK123.out 1).trans rfl
                                have hcz73_2 : wr.cell? ⟨gb123, 2, none⟩ = some (.slice A2_2 l2_2.length c2_2) := (blk_cell BK123.out 2).trans rfl
                                have hfz73_0 := blk_frozen BK123.out 0
                                have hfz73_1 := blk_frozen BK123.out 1
                                have hfz73_2 := blk_frozen BK123.out 2
                                have p130 : 0 ≤ (x40_2 : Int) := of_decide_eq_true (by first | (with_reducible assumption) | assumption)
                                have q130 : x40_2 < (l2_2.length : Int) := of_decide_eq_true (by first | (with_reducible assumption) | assumption)
                                obtain ⟨ad130, e130, hx130_0, hx130_1⟩ := at_T39 HR2_2.out x40_2 p130 q130
                                (try rw [← Nbq34.out] at hx130_1)
                                cases e130
                                replace hx130_0 := (HB.out.cell (World.block_lt_of_cell? w _ hx130_0)).trans hx130_0
                                replace hx130_1 := (HB.out.cell (World.block_lt_of_cell? w _ hx130_1)).trans hx130_1
                                replace p130 := eq_true p130
                                replace q130 := eq_true q130
                                try go_wp2_with (first | ((with_reducible refine gate_dst (N := 13) rfl ?_); (try (refine gate_guard (by rfl) ?_; dsimp only)); refine box_event ?hg (N := 13) ?hd (cs := #[.int .i64 0, .bool false]) (t := 39) ?hr ?_; (case hd => rfl); (case hg => rfl); (case hr => first | (go_simp; done) | (go_simp; rfl)); intro gb131 hg w74 hbox hb; have n0_ := Aside0.mk (Kd.V_below (Kd.V_elderB (by (with_reducible repeat (first | apply Kd.V_alloc | apply Kd.V_drewN | apply Kd.V_drew)); exact HO_0.out) gb131 (Nat.le_of_eq hg.symm)) hb); have n1_ := Aside0.mk (Kd.R_below (by (with_reducible repeat (first | apply Kd.R_alloc | apply Kd.R_drewN | apply Kd.R_drew)); exact HO_38.out) hb); have n2_ := Aside0.mk (blk_below (g := gb123) (o := .cells #[.bool a2_0, .int .i64 a2_1, .slice (some ad130) l2_2.length c2_2] 26 (0, 0)) (by (with_reducible repeat (first | refine blk_drewN ?_ _ | refine blk_drew ?_ | refine blk_alloc ?_ _)); exact BK123.out) hb); have n3_ := Aside0.mk (below_step (by repeat (first | (with_reducible first | exact HB.out | apply below_alloc | apply pw_below_drewN | apply below_drew1 | refine below_set ?_ GE123.out) | exact HB.out)) hb); have n4_ := Aside0.mk (hbox); have n5_ := Aside0.mk ((by rw [hg]; exact (below_size (by repeat (first | (with_reducible first | exact HB.out | apply below_alloc | apply pw_below_drewN | apply below_drew1 | refine below_set ?_ GE123.out) | exact HB.out))) : w.heap.size ≤ gb131)); have n6_ := Aside0.mk ((by rw [hg]; exact (below_size (by repeat (first | (with_reducible first | exact HB.out | apply below_alloc | apply pw_below_drewN | apply below_drew1 | refine below_set ?_ GE123.out) | exact HB.out))) : w.heap.size ≤ gb131)); have n7_ := Aside0.mk ((by rw [hg]; exact Nat.ne_of_lt (blk_lt (g := gb123) (o := .cells #[.bool a2_0, .int .i64 a2_1, .slice (some ad130) l2_2.length c2_2] 26 (0, 0)) (by (with_reducible repeat (first | refine blk_drewN ?_ _ | refine blk_drew ?_ | refine blk_alloc ?_ _)); exact BK123.out)) : gb123 ≠ gb131)); have n8_ := Aside0.mk ((by rw [hg]; exact Nat.ne_of_gt (blk_lt (g := gb123) (o := .cells #[.bool a2_0, .int .i64 a2_1, .slice (some ad130) l2_2.length c2_2] 26 (0, 0)) (by (with_reducible repeat (first | refine blk_drewN ?_ _ | refine blk_drew ?_ | refine blk_alloc ?_ _)); exact BK123.out)) : gb131 ≠ gb123)); clear HO_0; clear HO_38; clear BK123; clear HB; have HO_0 := n0_; have HO_38 := n1_; have BK123 := n2_; have HB := n3_; have BK131 := n4_; have GW131 := n5_; have GE131 := n6_; have NB123_131 := n7_; have NB131_123 := n8_; clear n0_ n1_ n2_ n3_ n4_ n5_ n6_ n7_ n8_; clear hb hbox hg; have hnb75 := NB131_123.out; have hnc75 := NB123_131.out; have hcz76_0 : w74.cell? ⟨gb131, 0, none⟩ = some (.int .i64 0) := (blk_cell BK131.out 0).trans rfl; have hcz76_1 : w74.cell? ⟨gb131, 1, none⟩ = some (.bool false) := (blk_cell BK131.out 1).trans rfl; have hfz76_0 := blk_frozen BK131.out 0; have hfz76_1 := blk_frozen BK131.out 1))
                                have n0_ : Aside0 (Kd.V (Kd.int .i64) 3 ((w74.setCell ⟨gb131, 0, none⟩ (.int .i64 ((rd_T39 l2_2 x40_2).f0))).setCell ⟨gb131, 1, none⟩ (.bool false)) w.heap.size (fun k_ => (P0_ k_ ∨ w.heap.size ≤ k_) ∧ some k_ ≠ (.slice (some ad129) t124.length co16 : Value).ownBlock ∧ k_ ≠ gb123 ∧ k_ ≠ gb131) u0 x0_2) := ⟨by (with_reducible repeat (first | apply Kd.V_alloc | apply Kd.V_drewN | apply Kd.V_drew)); exact Kd.V_mono (Kd.V_far (p := ⟨gb131, 1, none⟩) (Kd.V_far (p := ⟨gb131, 0, none⟩) (Kd.V_mono HO_0.out (fun k_ hk => (⟨hk, hk.2⟩ : _ ∧ k_ ≠ gb131))) (fun _ hk => hk.2) (.int .i64 ((rd_T39 l2_2 x40_2).f0))) (fun _ hk => hk.2) (.bool false)) (fun _ hk => ⟨hk.1.1.1, ⟨hk.1.1.2.1, ⟨hk.1.1.2.2, hk.1.2⟩⟩⟩)⟩
                                have n1_ : Aside0 (Kd.R (Kd.int .i64) 3 ((w74.setCell ⟨gb131, 0, none⟩ (.int .i64 ((rd_T39 l2_2 x40_2).f0))).setCell ⟨gb131, 1, none⟩ (.bool false)) w.heap.size (fun k_ => (w.heap.size ≤ k_)) (.slice (some ad129) t124.length co16) t124) := ⟨by (with_reducible repeat (first | apply Kd.R_alloc | apply Kd.R_drewN | apply Kd.R_drew)); exact Kd.R_mono (Kd.R_far (p := ⟨gb131, 1, none⟩) (Kd.R_far (p := ⟨gb131, 0, none⟩) (Kd.R_types HO_38.out BK131.out (by decide)) (fun _ hk => hk.2) (.int .i64 ((rd_T39 l2_2 x40_2).f0))) (fun _ hk => hk.2) (.bool false)) (fun _ hk => hk.1)⟩
                                have n2_ : Aside0 (((w74.setCell ⟨gb131, 0, none⟩ (.int .i64 ((rd_T39 l2_2 x40_2).f0))).setCell ⟨gb131, 1, none⟩ (.bool false)).heap[gb123]? = some (.cells #[.bool a2_0, .int .i64 a2_1, .slice (some ad130) l2_2.length c2_2] 26 (0, 0))) := ⟨by (with_reducible repeat (first | refine blk_drewN ?_ _ | refine blk_drew ?_ | refine blk_alloc ?_ _)); refine blk_far ?_ NB123_131.out _; (with_reducible repeat (first | refine blk_drewN ?_ _ | refine blk_drew ?_ | refine blk_alloc ?_ _)); refine blk_far ?_ NB123_131.out _; (with_reducible repeat (first | refine blk_drewN ?_ _ | refine blk_drew ?_ | refine blk_alloc ?_ _)); exact BK123.out⟩
                                have n3_ : Aside0 (((w74.setCell ⟨gb131, 0, none⟩ (.int .i64 ((rd_T39 l2_2 x40_2).f0))).setCell ⟨gb131, 1, none⟩ (.bool false)).heap[gb131]? = some (.cells #[.int .i64 ((rd_T39 l2_2 x40_2).f0), .bool false] 39 (0, 0))) := ⟨by (with_reducible repeat (first | refine blk_drewN ?_ _ | refine blk_drew ?_ | refine blk_alloc ?_ _)); refine blk_put (cs := #[.int .i64 ((rd_T39 l2_2 x40_2).f0), .bool false]) ?_ 1 _ rfl; (with_reducible repeat (first | refine blk_drewN ?_ _ | refine blk_drew ?_ | refine blk_alloc ?_ _)); refine blk_put (cs := #[.int .i64 0, .bool false]) ?_ 0 _ rfl; (with_reducible repeat (first | refine blk_drewN ?_ _ | refine blk_drew ?_ | refine blk_alloc ?_ _)); exact BK131.out⟩
                                have n4_ : Aside0 (Below w.heap.size w ((w74.setCell ⟨gb131, 0, none⟩ (.int .i64 ((rd_T39 l2_2 x40_2).f0))).setCell ⟨gb131, 1, none⟩ (.bool false))) := ⟨by repeat (first | (with_reducible first | exact HB.out | apply below_alloc | apply pw_below_drewN | apply below_drew1 | refine below_set ?_ GE123.out | refine below_set ?_ GE131.out) | exact HB.out)⟩
                                (try clear HO_0)
                                (try clear HO_38)
                                (try clear BK123)
                                (try clear BK131)
                                (try clear HB)
                                generalize ((w74.setCell ⟨gb131, 0, none⟩ (.int .i64 ((rd_T39 l2_2 x40_2).f0))).setCell ⟨gb131, 1, none⟩ (.bool false)) = w77 at n0_ n1_ n2_ n3_ n4_ ⊢
                                have HO_0 := n0_
                                have HO_38 := n1_
                                have BK123 := n2_
                                have BK131 := n3_
                                have HB := n4_
                                clear n0_ n1_ n2_ n3_ n4_
                                have n0_ := Aside0.mk (Kd.V_drew HO_0.out)
                                have n1_ := Aside0.mk (Kd.R_drew HO_38.out)
                                have n2_ := Aside0.mk (blk_drew BK123.out)
                                have n3_ := Aside0.mk (blk_drew BK131.out)
                                have n4_ := Aside0.mk (below_drew1 HB.out)
                                clear HO_0
                                clear HO_38
                                clear BK123
                                clear BK131
                                clear HB
                                have HO_0 := n0_
                                have HO_38 := n1_
                                have BK123 := n2_
                                have BK131 := n3_
                                have HB := n4_
                                clear n0_ n1_ n2_ n3_ n4_
                                obtain ⟨Ao80, co80, eo80⟩ := Kd.V_slice HO_0.out
                                (first | subst eo80 | (injection eo80 with f1_ f2_ f3_; have f4_ := f1_.symm; have f5_ := f3_.symm; clear f1_ f2_ f3_; subst f4_; subst f5_))
                                have q79 : ((rd t124 x40_2) : Int) ≤ ((x0_2.length : Int) : Int) := of_decide_eq_true (by first | (with_reducible assumption) | assumption)
                                obtain ⟨i079, hi079, _, hsz79, _⟩ := info_parts info3
                                have hroom79 : x0_2.length ≤ co80 := (Kd.V_reads' HO_0.out).2.1
                                have hC79 : Kd.F (Kd.int .i64) _ _ Ao80 x0_2.length x0_2 := (Kd.V_at (base := w.heap.size) HO_0.out).2.2
                                have hcut79 := cut_to (P := Try.prog) 22 3 .i64 Try.underlying22 hi079 Ao80 x0_2.length co80 (rd t124 x40_2) (of_decide_eq_true (by first | (with_reducible assumption) | assumption)) q79 hroom79
                                have hr79 := Kd.F_take (m := ((rd t124 x40_2) : Int).toNat) hC79 (by omega)
                                have hy79 : y132.length = ((rd t124 x40_2) : Int).toNat := (by rw [Ny132.out, List.length_take]; omega)
                                rw [← Ny132.out] at hr79
                                rw [← hy79] at hcut79
                                have HO136 := Aside0.mk (show Kd.V (Kd.int .i64) 3 _ w.heap.size _ (.slice Ao80 y132.length co80) y132 from Kd.V_mk (by omega) hr79)
                                have HC136 := Aside0.mk (show y132.length ≤ co80 from by omega)
                                clear hr79 hC79 hroom79 hi079 hsz79
                                have KY79 := Aside0.mk hy79
                                clear hy79
                                replace q79 := eq_true q79
                                refine start_ (n := 6) (S := fun w' => w'.cell? ⟨gb131, 0, none⟩ = some (.int .i64 ((rd_T39 l2_2 x40_2).f0)) ∧ w'.cell? ⟨gb131, 1, none⟩ = some (.bool false)) (ds := []) #[false, false, false, false, false, false] (by kernel_rfl) rfl rfl ⟨(blk_cell BK131.out 0).trans rfl, (blk_cell BK131.out 1).trans rfl⟩ (fun hHeld => ?_)
                                generalize w77.drew = w78 at HO_0 HO_38 BK123 BK131 HB HO136 hHeld ⊢
                                refine pure_ (i := 0) (N := some 50) (v := ?_) (a' := ?_) #[true, false, false, false, false, false] rfl rfl (by kernel_rfl) (fun _ _ _ h => h) (Or.inl ⟨by rfl, ?_⟩) ?_ ?_
                                rotate_left
                                · intro w'
                                  go_simp
                                  with_reducible rfl
                                rotate_left
                                · simp only [Act.put, List.setIfInBounds_toArray, List.set_cons_zero, List.set_cons_succ, i64_w, i32_w]
                                  rfl
                                refine pure_ (i := 1) (N := some 51) (v := ?_) (a' := ?_) #[true, true, false, false, false, false] rfl rfl (by kernel_rfl) (fun _ _ _ h => h) (Or.inl ⟨by rfl, ?_⟩) ?_ ?_
                                rotate_left
                                · intro w'
                                  go_simp
                                  with_reducible rfl
                                rotate_left
                                · simp only [Act.put, List.setIfInBounds_toArray, List.set_cons_zero, List.set_cons_succ, i64_w, i32_w]
                                  rfl
                                refine pure_ (i := 2) (N := some 52) (v := ?_) (a' := ?_) #[true, true, true, false, false, false] rfl rfl (by kernel_rfl) (fun _ _ _ h => h) (Or.inl ⟨by rfl, ?_⟩) ?_ ?_
                                rotate_left
                                · intro w'
                                  go_simp
                                  with_reducible rfl
                                rotate_left
                                · simp only [Act.put, List.setIfInBounds_toArray, List.set_cons_zero, List.set_cons_succ, i64_w, i32_w]
                                  rfl
                                refine take_ (i := 3) (N := some 53) (v := ?_) (a' := ?_) #[true, true, true, true, false, false] rfl rfl (by kernel_rfl) (fun _ _ _ h => h) (Or.inl ⟨by rfl, ?_⟩) hHeld ?_ ?_
                                rotate_left
                                · rintro w' ⟨s0, s1⟩
                                  go_simp
                                  with_reducible rfl
                                rotate_left
                                · simp only [Act.put, List.setIfInBounds_toArray, List.set_cons_zero, List.set_cons_succ, i64_w, i32_w]
                                  rfl
                                refine one_ (i := 4) (N := some 54) #[true, true, true, true, true, false] rfl rfl (by kernel_rfl) (by decide) (fun K hK => ?_)
                                refine goes_ Try.func24 (by kernel_rfl) rfl #[.slice Ao80 y132.length co80, .agg #[.int .i64 ((rd_T39 l2_2 x40_2).f0), .bool false]] (by rfl) rfl rfl (by (try simp only [List.map_toArray, List.map_cons, List.map_nil]); first | done | rfl | (simp only [List.length_drop, List.length_take]; rfl)) ?_
                                with_reducible refine (cost_Each.calls k2 _ _ y132 ((rd_T39 l2_2 x40_2).f0) false t137 _ ?side1 ?side2 (by first | exact A23.out | (rw [Nbq34.out]; exact A23.out))).mono ?_
                                (case side1 => repeat (first | exact (Kd.V_reads' HO136.out).2.2 | (with_reducible refine Kd.C_alloc ?_ _) | (with_reducible refine Kd.C_drewN ?_ _) | (with_reducible refine Kd.C_drew ?_)))
                                (case side2 => exact (Kd.V_reads' HO136.out).2.1)
                                rintro e w81 ⟨rfl, hb⟩
                                refine ⟨_, rfl, ?_⟩
                                have n0_ := Aside0.mk (Kd.V_below (by (with_reducible repeat (first | apply Kd.V_alloc | apply Kd.V_drewN | apply Kd.V_drew)); exact HO_0.out) hb)
                                have n1_ := Aside0.mk (Kd.R_below (by (with_reducible repeat (first | apply Kd.R_alloc | apply Kd.R_drewN | apply Kd.R_drew)); exact HO_38.out) hb)
                                have n2_ := Aside0.mk (Kd.V_below (by (with_reducible repeat (first | apply Kd.V_alloc | apply Kd.V_drewN | apply Kd.V_drew)); exact HO136.out) hb)
                                have n3_ := Aside0.mk (blk_below (g := gb123) (o := .cells #[.bool a2_0, .int .i64 a2_1, .slice (some ad130) l2_2.length c2_2] 26 (0, 0)) (by (with_reducible repeat (first | refine blk_drewN ?_ _ | refine blk_drew ?_ | refine blk_alloc ?_ _)); exact BK123.out) hb)
                                have n4_ := Aside0.mk (blk_below (g := gb131) (o := .cells #[.int .i64 ((rd_T39 l2_2 x40_2).f0), .bool false] 39 (0, 0)) (by (with_reducible repeat (first | refine blk_drewN ?_ _ | refine blk_drew ?_ | refine blk_alloc ?_ _)); exact BK131.out) hb)
                                have n5_ := Aside0.mk (below_step (by repeat (first | (with_reducible first | exact HB.out | apply below_alloc | apply pw_below_drewN | apply below_drew1 | refine below_set ?_ GE123.out | refine below_set ?_ GE131.out) | exact HB.out)) hb)
                                clear HO_0
                                clear HO_38
                                clear HO136
                                clear BK123
                                clear BK131
                                clear HB
                                have HO_0 := n0_
                                have HO_38 := n1_
                                have HO136 := n2_
                                have BK123 := n3_
                                have BK131 := n4_
                                have HB := n5_
                                clear n0_ n1_ n2_ n3_ n4_ n5_
                                (try clear hb)
                                (try clear hb2)
                                (try clear hk)
                                (try clear hi)
                                refine hK.out _ _ ⟨(blk_cell BK131.out 0).trans rfl, (blk_cell BK131.out 1).trans rfl⟩ (fun hHeld => ?_)
                                clear hK K
                                refine norm_ (a' := ?_) ?_ ?_
                                rotate_left
                                · show Act.put _ (some 54) _ = _
                                  simp only [Act.put, List.setIfInBounds_toArray, List.set_cons_zero, List.set_cons_succ, i64_w, i32_w]
                                  rfl
                                refine pure_ (i := 5) (N := some 14) (v := ?_) (a' := ?_) #[true, true, true, true, true, true] rfl rfl (by kernel_rfl) (fun _ _ _ h => h) (Or.inl ⟨by rfl, ?_⟩) ?_ ?_
                                rotate_left
                                · intro w'
                                  go_simp
                                  with_reducible rfl
                                rotate_left
                                · simp only [Act.put, List.setIfInBounds_toArray, List.set_cons_zero, List.set_cons_succ, i64_w, i32_w]
                                  rfl
                                refine done_ (by kernel_rfl) ?_
                                have hcz82_0 : w81.cell? ⟨gb131, 0, none⟩ = some (.int .i64 ((rd_T39 l2_2 x40_2).f0)) := (blk_cell BK131.out 0).trans rfl
                                have hcz82_1 : w81.cell? ⟨gb131, 1, none⟩ = some (.bool false) := (blk_cell BK131.out 1).trans rfl
                                have hfz82_0 := blk_frozen BK131.out 0
                                have hfz82_1 := blk_frozen BK131.out 1
                                have q83 : ((rd t124 x40_2) : Int) ≤ ((x0_2.length : Int) : Int) := of_decide_eq_true (by first | (with_reducible assumption) | assumption)
                                obtain ⟨i083, hi083, _, hsz83, _⟩ := info_parts info3
                                have hroom83 : x0_2.length ≤ co80 := (Kd.V_reads' HO_0.out).2.1
                                have hC83 : Kd.F (Kd.int .i64) _ _ Ao80 x0_2.length x0_2 := (Kd.V_at (base := w.heap.size) HO_0.out).2.2
                                have q083 : (0 : Int) ≤ ((rd t124 x40_2) : Int) := of_decide_eq_true (by first | (with_reducible assumption) | assumption)
                                have hcut83 := cut_from (P := Try.prog) 22 3 .i64 Try.underlying22 hi083 1 hsz83 Ao80 x0_2.length co80 (rd t124 x40_2) q083 q83
                                have hr83 := Kd.F_cut (m := ((rd t124 x40_2) : Int).toNat) (c := co80) hC83 (by omega) hroom83
                                obtain ⟨A83, hA83⟩ : ∃ A1, A1 = (if co80 = ((rd t124 x40_2) : Int).toNat then Ao80 else (Ao80 : Option Addr).map (·.add (((rd t124 x40_2) : Int).toNat * 1))) := ⟨_, rfl⟩
                                obtain ⟨c83, hc83⟩ : ∃ c1, c1 = co80 - ((rd t124 x40_2) : Int).toNat := ⟨_, rfl⟩
                                have hy83 : y143.length = x0_2.length - ((rd t124 x40_2) : Int).toNat := (by rw [Ny143.out, List.length_drop] <;> omega)
                                rw [show (x0_2).drop ((rd t124 x40_2) : Int).toNat = y143 from Ny143.out.symm] at hr83
                                replace hr83 : Kd.F (Kd.int .i64) _ _ A83 y143.length y143 := (by rw [hA83]; exact hr83)
                                rw [← hy83, ← hA83, ← hc83] at hcut83
                                have HO147 := Aside0.mk (show Kd.V (Kd.int .i64) 3 _ w.heap.size _ (.slice A83 y143.length c83) y143 from Kd.V_mk (by rw [hy83, hc83]; exact Nat.sub_le_sub_right hroom83 _) hr83)
                                have HC147 := Aside0.mk (show y143.length ≤ c83 from by rw [hy83, hc83]; exact Nat.sub_le_sub_right hroom83 _)
                                clear hr83 hC83 hroom83 hi083 hsz83 hc83
                                have KY83 := Aside0.mk hy83
                                have KA83 := Aside0.mk hA83
                                clear hy83 hA83
                                replace q83 := eq_true q83
                                try go_wp2
                                go_roundg k2
                                case measure => have := HJ4.out; have := HK2.out; omega
                                case rel => exact ⟨(y143), (wrap64 (x10_2 + (wrap64 (t128 + t137)))), (wrap64 (x40_2 + 1)), (by first | rfl | (simp; done) | (simp only [i64_w, i32_w]; done) | (simp [*]; done) | (simp only [i64_w, i32_w]; first | rfl | (simp; done) | (simp [*]; done))), (by first | rfl | (simp; done) | (simp only [i64_w, i32_w]; done) | (simp [*]; done) | (simp only [i64_w, i32_w]; first | rfl | (simp; done) | (simp [*]; done))), H', ⟨by have := HJ4.out; have := HK2.out; omega⟩, ⟨by (with_reducible repeat (first | apply Kd.V_alloc | apply Kd.V_drewN | apply Kd.V_drew)); exact Kd.V_mono HO147.out (fun _ hk => ⟨hk.1, ⟨hk.2.1, hk.2.2.1⟩⟩)⟩, ⟨by (with_reducible repeat (first | apply Kd.R_alloc | apply Kd.R_drewN | apply Kd.R_drew)); exact HO_38.out⟩, ⟨by (with_reducible repeat (first | refine blk_drewN ?_ _ | refine blk_drew ?_ | refine blk_alloc ?_ _)); exact BK123.out⟩, ⟨by repeat (first | (with_reducible first | exact HB.out | apply below_alloc | apply pw_below_drewN | apply below_drew1 | refine below_set ?_ GE123.out | refine below_set ?_ GE131.out) | exact HB.out)⟩⟩
                      · rw [if_neg c22] at H
                        exact absurd H (by simp)
                    · rw [if_neg c21] at H
                      exact absurd H (by simp)
                  · rw [if_neg c20] at H
                    exact absurd H (by simp)
                · rw [if_neg c19] at H
                  exact absurd H (by simp)
              · rw [if_neg c18] at H
                exact absurd H (by simp)
            · rw [if_neg c17] at H
              have c17b0 : decide (x40_2 < (t124.length : Int)) = false := decide_eq_false c17
              clear c17
              obtain rfl := Option.some.inj H
              go_wp2
              go_ret
              exact ⟨by first | rfl | (simp [errW_none, errW_some] <;> rfl) | (simp [*, errW_none, errW_some] <;> rfl), by repeat (first | (with_reducible first | exact HB.out | apply below_alloc | apply pw_below_drewN | apply below_drew1 | refine below_set ?_ GE123.out) | exact HB.out)⟩

end Go.Proofs.Ytpoigjkkcehpdaa.PA
