/- Each Go function named below comes to what the plain Lean function of its name answers, wherever that answers (rounds enough, no panic, no row too long); texts by a program of this session by way of the kit's print.py, what that does not take by hand. Condition: what is read lies in memory as each theorem says. -/
import Derived.Test.YtfjefocjplljcaaPAx0
import Derived.Test.YtfjefocjplljcaaPAx3
import Derived.Test.YtfjefocjplljcaaPAx4
import Derived.Test.YtfjefocjplljcaaPAx6
namespace Go.Proofs.Ytfjefocjplljcaa.PA
open Go.RowKit Go.Proofs.YtfjefocjplljcaaW.PrintWords Go.Proofs.YtfjefocjplljcaaW.PrintLast Go.Proofs.YtfjefocjplljcaaW.PrintMore
attribute [local go_sem] max2_int min2_int max_two min_two max_three min_three max_four min_four   -- for this text's walks alone
set_option linter.unusedVariables false
set_option linter.unusedSimpArgs false

/-! ### serinetteref06_Unbytes: function 20 -/
mutual
def serinetteref06_Unbytes.l0 : Nat → List Int → Int → Int → Int → Int → Int → Int → Int → Int → List (List Int) → Option (Int × Int × (List (List Int)) × Int)
  | 0, _, _, _, _, _, _, _, _, _, _ => none
  | k + 1, x0, x2, x3, x12, x14, x177000, x177001, x183000, x183001, x183002 => if x14 < (x0.length : Int) then (serinetteref06_Unbytes.l1 k x0 x2 x3 x12 x14 0 (wrap64 (x12 - 1)) x177000 x177001 x183000 x183001 x183002) else (some (x183000, x183001, x183002, 0))
def serinetteref06_Unbytes.l1 : Nat → List Int → Int → Int → Int → Int → Int → Int → Int → Int → Int → Int → List (List Int) → Option (Int × Int × (List (List Int)) × Int)
  | 0, _, _, _, _, _, _, _, _, _, _, _, _ => none
  | k + 1, x0, x2, x3, x12, x14, x15, x16, x177000, x177001, x183000, x183001, x183002 => if x16 ≥ 0 then (if 0 ≤ (wrap64 (x14 + x16)) then (if (wrap64 (x14 + x16)) < (x0.length : Int) then (serinetteref06_Unbytes.l1 k x0 x2 x3 x12 x14 (wrap64 ((wrap64 (256 * x15)) + (wrap64 (rd x0 (wrap64 (x14 + x16)))))) (wrap64 (x16 - 1)) x177000 x177001 x183000 x183001 x183002) else (none)) else (none)) else (if 0 ≤ (wrap64 ((wrap64 (x14 + x12)) - 1)) then (if (wrap64 ((wrap64 (x14 + x12)) - 1)) < (x0.length : Int) then (if (rd x0 (wrap64 ((wrap64 (x14 + x12)) - 1))) ≥ 128 then ((serinetteref06_Power.f k (wrap64 (8 * x12))).bind fun t185 => ((serinetteref06_In.f k (wrap64 (x15 - t185)) x2).bind fun t186 => (if t186 = true then (if x12 = 0 then (none) else (if x3 = 0 then (none) else (if 0 ≤ (Int.tmod (wrap64 (Int.tdiv x14 x12)) x3) then (if (Int.tmod (wrap64 (Int.tdiv x14 x12)) x3) < (x183002.length : Int) then (if (rd_L1 x183002 (Int.tmod (wrap64 (Int.tdiv x14 x12)) x3)).length < 17592186044416 then (serinetteref06_Unbytes.l0 k x0 x2 x3 x12 (wrap64 (x14 + x12)) x177000 x177001 x183000 x183001 (x183002.set ((Int.tmod (wrap64 (Int.tdiv x14 x12)) x3) : Int).toNat ((rd_L1 x183002 (Int.tmod (wrap64 (Int.tdiv x14 x12)) x3)) ++ [wrap64 (x15 - t185)]))) else (none)) else (none)) else (none)))) else (some (x177000, x177001, ([] : List (List Int)), 6))))) else ((serinetteref06_In.f k x15 x2).bind fun t192 => (if t192 = true then (if x12 = 0 then (none) else (if x3 = 0 then (none) else (if 0 ≤ (Int.tmod (wrap64 (Int.tdiv x14 x12)) x3) then (if (Int.tmod (wrap64 (Int.tdiv x14 x12)) x3) < (x183002.length : Int) then (if (rd_L1 x183002 (Int.tmod (wrap64 (Int.tdiv x14 x12)) x3)).length < 17592186044416 then (serinetteref06_Unbytes.l0 k x0 x2 x3 x12 (wrap64 (x14 + x12)) x177000 x177001 x183000 x183001 (x183002.set ((Int.tmod (wrap64 (Int.tdiv x14 x12)) x3) : Int).toNat ((rd_L1 x183002 (Int.tmod (wrap64 (Int.tdiv x14 x12)) x3)) ++ [x15]))) else (none)) else (none)) else (none)))) else (some (x177000, x177001, ([] : List (List Int)), 6))))) else (none)) else (none))
end
def serinetteref06_Unbytes.f (k : Nat) (l0 : List Int) (a1 : Int) (a2 : Int) (a3 : Int) : Option (Int × Int × (List (List Int)) × Int) := (serinetteref06_wrong.f k a1 a2 a3).bind fun t177 => (if t177 = 0 then ((serinetteref06_Each.f a2).bind fun t178 => (if (wrap64 (t178 * a3)) = 0 then (none) else (if ((l0.length : Int) % (wrap64 (t178 * a3))) = 0 then (if 0 ≤ a3 then (if (a3 : Int).toNat ≤ 11728124029610 then (serinetteref06_Unbytes.l0 k l0 a2 a3 t178 0 0 0 a1 a2 (List.replicate (a3 : Int).toNat [])) else (none)) else (none)) else (some (0, 0, ([] : List (List Int)), 3))))) else (some (0, 0, ([] : List (List Int)), t177)))
theorem serinetteref06_Unbytes.mono_l : ∀ k, (∀ y0 y1 y2 y3 y4 y5 y6 y7 y8 y9, LeO (serinetteref06_Unbytes.l0 k y0 y1 y2 y3 y4 y5 y6 y7 y8 y9) (serinetteref06_Unbytes.l0 (k + 1) y0 y1 y2 y3 y4 y5 y6 y7 y8 y9)) ∧ (∀ y0 y1 y2 y3 y4 y5 y6 y7 y8 y9 y10 y11, LeO (serinetteref06_Unbytes.l1 k y0 y1 y2 y3 y4 y5 y6 y7 y8 y9 y10 y11) (serinetteref06_Unbytes.l1 (k + 1) y0 y1 y2 y3 y4 y5 y6 y7 y8 y9 y10 y11))
  | 0 => ⟨fun _ _ _ _ _ _ _ _ _ _ r h => by simp [serinetteref06_Unbytes.l0] at h, fun _ _ _ _ _ _ _ _ _ _ _ _ r h => by simp [serinetteref06_Unbytes.l1] at h⟩
  | k + 1 => by
    obtain ⟨ih0, ih1⟩ := serinetteref06_Unbytes.mono_l k
    refine ⟨?_, ?_⟩
    · intro y0 y1 y2 y3 y4 y5 y6 y7 y8 y9
      unfold serinetteref06_Unbytes.l0
      repeat' first
      | (with_reducible exact ih0 _ _ _ _ _ _ _ _ _ _)
      | (with_reducible exact ih1 _ _ _ _ _ _ _ _ _ _ _ _)
      | (with_reducible exact serinetteref06_In.mono _ _ _)
      | (with_reducible exact serinetteref06_Power.mono _ _)
      | (with_reducible exact serinetteref06_wrong.mono _ _ _ _)
      | (with_reducible exact LeO.refl _)
      | (with_reducible exact LeO.none _)
      | (with_reducible refine LeO.ite ?_ ?_)
      | (with_reducible refine LeO.bind ?_ (fun _ => ?_))
      | exact ih0 _ _ _ _ _ _ _ _ _ _
      | exact ih1 _ _ _ _ _ _ _ _ _ _ _ _
      | exact serinetteref06_In.mono _ _ _
      | exact serinetteref06_Power.mono _ _
      | exact serinetteref06_wrong.mono _ _ _ _
      | exact LeO.none _
      | refine LeO.ite ?_ ?_
      | refine LeO.bind ?_ (fun _ => ?_)
    · intro y0 y1 y2 y3 y4 y5 y6 y7 y8 y9 y10 y11
      unfold serinetteref06_Unbytes.l1
      repeat' first
      | (with_reducible exact ih0 _ _ _ _ _ _ _ _ _ _)
      | (with_reducible exact ih1 _ _ _ _ _ _ _ _ _ _ _ _)
      | (with_reducible exact serinetteref06_In.mono _ _ _)
      | (with_reducible exact serinetteref06_Power.mono _ _)
      | (with_reducible exact serinetteref06_wrong.mono _ _ _ _)
      | (with_reducible exact LeO.refl _)
      | (with_reducible exact LeO.none _)
      | (with_reducible refine LeO.ite ?_ ?_)
      | (with_reducible refine LeO.bind ?_ (fun _ => ?_))
      | exact ih0 _ _ _ _ _ _ _ _ _ _
      | exact ih1 _ _ _ _ _ _ _ _ _ _ _ _
      | exact serinetteref06_In.mono _ _ _
      | exact serinetteref06_Power.mono _ _
      | exact serinetteref06_wrong.mono _ _ _ _
      | exact LeO.none _
      | refine LeO.ite ?_ ?_
      | refine LeO.bind ?_ (fun _ => ?_)
theorem serinetteref06_Unbytes.mono : ∀ a0 a1 a2 a3 k, LeO (serinetteref06_Unbytes.f k a0 a1 a2 a3) (serinetteref06_Unbytes.f (k + 1) a0 a1 a2 a3) := by
  intro a0 a1 a2 a3 k
  obtain ⟨ih0, ih1⟩ := serinetteref06_Unbytes.mono_l k
  unfold serinetteref06_Unbytes.f
  repeat' first
      | (with_reducible exact ih0 _ _ _ _ _ _ _ _ _ _)
      | (with_reducible exact ih1 _ _ _ _ _ _ _ _ _ _ _ _)
      | (with_reducible exact serinetteref06_In.mono _ _ _)
      | (with_reducible exact serinetteref06_Power.mono _ _)
      | (with_reducible exact serinetteref06_wrong.mono _ _ _ _)
      | (with_reducible exact LeO.refl _)
      | (with_reducible exact LeO.none _)
      | (with_reducible refine LeO.ite ?_ ?_)
      | (with_reducible refine LeO.bind ?_ (fun _ => ?_))
      | exact ih0 _ _ _ _ _ _ _ _ _ _
      | exact ih1 _ _ _ _ _ _ _ _ _ _ _ _
      | exact serinetteref06_In.mono _ _ _
      | exact serinetteref06_Power.mono _ _
      | exact serinetteref06_wrong.mono _ _ _ _
      | exact LeO.none _
      | refine LeO.ite ?_ ?_
      | refine LeO.bind ?_ (fun _ => ?_)
def serinetteref06_Unbytes.T23 : Bool × List (List Nat × List Nat) := (true, [([], []), ([0], [0]), ([], []), ([], []), ([3], [3]), ([], []), ([4, 5], [4, 5]), ([6], [6]), ([], []), ([8], [8]), ([7, 9], [7, 9]), ([1, 2, 0, 1, 2, 3, 4, 5, 6, 7, 8, 9, 10], [1, 2]), ([11, 10, 10, 0, 1, 2, 3, 4, 5, 6, 7, 8, 9, 10], [10, 11])])
def serinetteref06_Unbytes.B23 : List Nat := [0, 1, 0, 0, 8, 0, 56, 120, 0, 256, 1016, 2047, 4095]
theorem serinetteref06_Unbytes.tab23 : rtab .any (opsOf Try.f20 23) = serinetteref06_Unbytes.T23 := by kernel_rfl
theorem serinetteref06_Unbytes.bits23 : waitsOk serinetteref06_Unbytes.T23.2 serinetteref06_Unbytes.B23 = true := by kernel_rfl
set_option maxHeartbeats 8000000 in
set_option maxRecDepth 100000 in
theorem serinetteref06_Unbytes.calls (k : Nat) (A0 : Option Addr) (c0 : Nat) (l0 : List Int) (a1 : Int) (a2 : Int) (a3 : Int) (r1 : Int) (r2 : Int) (r3 : List (List Int)) (r4 : Int) (w : World) (hr0 : Kd.C (Kd.int .u8) w A0 l0.length l0) (hc0 : l0.length ≤ c0) (h : serinetteref06_Unbytes.f k l0 a1 a2 a3 = some (r1, r2, r3, r4)) :
    Calls Try.prog 20 #[.slice A0 l0.length c0, .int .i64 a1, .int .i64 a2, .int .i64 a3] w fun e w' => ∃ v2_ : Value, e = .returned (.tuple #[.agg #[.int .i64 r1, .int .i64 r2, v2_], .int .i64 r4]) ∧ Kd.S (Kd.slice 3 (Kd.int .i64)) 45 w' w.heap.size (fun _ => True) v2_ r3 ∧ Below w.heap.size w w' := by
  have hu24 := Try.underlying24
  have HR0 := Aside0.mk hr0
  have HC0 := Aside0.mk hc0
  clear hr0 hc0
  have HB := Aside0.mk (Below.refl w.heap.size w)
  have H : ((serinetteref06_wrong.f k a1 a2 a3).bind fun t177 => (if t177 = 0 then ((serinetteref06_Each.f a2).bind fun t178 => (if (wrap64 (t178 * a3)) = 0 then (none) else (if ((l0.length : Int) % (wrap64 (t178 * a3))) = 0 then (if 0 ≤ a3 then (if (a3 : Int).toNat ≤ 11728124029610 then (serinetteref06_Unbytes.l0 k l0 a2 a3 t178 0 0 0 a1 a2 (List.replicate (a3 : Int).toNat [])) else (none)) else (none)) else (some (0, 0, ([] : List (List Int)), 3))))) else (some (0, 0, ([] : List (List Int)), t177)))) = some (r1, r2, r3, r4) := h
  clear h
  replace H := Option.bind_eq_some_iff.mp H
  obtain ⟨t177, A50, H⟩ := H
  replace H : (if t177 = 0 then ((serinetteref06_Each.f a2).bind fun t178 => (if (wrap64 (t178 * a3)) = 0 then (none) else (if ((l0.length : Int) % (wrap64 (t178 * a3))) = 0 then (if 0 ≤ a3 then (if (a3 : Int).toNat ≤ 11728124029610 then (serinetteref06_Unbytes.l0 k l0 a2 a3 t178 0 0 0 a1 a2 (List.replicate (a3 : Int).toNat [])) else (none)) else (none)) else (some (0, 0, ([] : List (List Int)), 3))))) else (some (0, 0, ([] : List (List Int)), t177))) = some (r1, r2, r3, r4) := H
  have A5 := Aside0.mk A50
  clear A50
  by_cases c6 : t177 = 0
  · rw [if_pos c6] at H
    have c6b0 : (t177 == 0) = true := beq_iff_eq.mpr c6
    have c6b1 : (t177 != 0) = false := bne_eq_false_iff_eq.mpr c6
    clear c6
    replace H := Option.bind_eq_some_iff.mp H
    obtain ⟨t178, A70, H⟩ := H
    replace H : (if (wrap64 (t178 * a3)) = 0 then (none) else (if ((l0.length : Int) % (wrap64 (t178 * a3))) = 0 then (if 0 ≤ a3 then (if (a3 : Int).toNat ≤ 11728124029610 then (serinetteref06_Unbytes.l0 k l0 a2 a3 t178 0 0 0 a1 a2 (List.replicate (a3 : Int).toNat [])) else (none)) else (none)) else (some (0, 0, ([] : List (List Int)), 3)))) = some (r1, r2, r3, r4) := H
    have A7 := Aside0.mk A70
    clear A70
    by_cases c8 : (wrap64 (t178 * a3)) = 0
    · rw [if_pos c8] at H
      exact absurd H (by simp)
    · rw [if_neg c8] at H
      have c8b0 : ((wrap64 (t178 * a3)) == 0) = false := beq_eq_false_iff_ne.mpr c8
      have c8b1 : ((wrap64 (t178 * a3)) != 0) = true := bne_iff_ne.mpr c8
      by_cases c9 : ((l0.length : Int) % (wrap64 (t178 * a3))) = 0
      · rw [if_pos c9] at H
        have c9b0 : (((l0.length : Int) % (wrap64 (t178 * a3))) == 0) = true := beq_iff_eq.mpr c9
        have c9b1 : (((l0.length : Int) % (wrap64 (t178 * a3))) != 0) = false := bne_eq_false_iff_eq.mpr c9
        clear c9
        by_cases c10 : 0 ≤ a3
        · rw [if_pos c10] at H
          have c10b0 := eq_true c10
          have c10b1 : decide (0 ≤ a3) = true := decide_eq_true c10
          clear c10
          by_cases c11 : (a3 : Int).toNat ≤ 11728124029610
          · rw [if_pos c11] at H
            have c11b0 := eq_true c11
            have c11b1 : decide ((a3 : Int).toNat ≤ 11728124029610) = true := decide_eq_true c11
            clear c11
            obtain ⟨y179, hy179⟩ : ∃ y_ : List (List Int), y_ = (List.replicate (a3 : Int).toNat []) := ⟨_, rfl⟩
            replace H : (serinetteref06_Unbytes.l0 k l0 a2 a3 t178 0 0 0 a1 a2 y179) = some (r1, r2, r3, r4) := by first | (rw [hy179]; with_reducible exact H) | (have H2_ := (Option.bind_some _ _).symm.trans H; rw [hy179]; with_reducible exact H2_) | (have H2_ := (Option.bind_some _ _).symm.trans H; with_reducible exact H2_) | with_reducible exact H | (rw [hy179]; exact H) | exact H
            have Ny179 := Aside0.mk hy179
            clear hy179
            have H' := Aside0.mk H
            clear H
            go_enter Try.func20, Try.ntmps20
            go_wp2_with (first | ((with_reducible refine gate_dst (N := 8) rfl ?_); refine box_event ?hg (N := 8) ?hd (cs := #[.int .i64 0, .int .i64 0, .slice none 0 0]) (t := 24) ?hr ?_; (case hd => rfl); (case hg => rfl); (case hr => first | (go_simp; done) | (go_simp; rfl)); intro gb175 hg w12 hbox hb; have n0_ := Aside0.mk (below_step (by repeat (first | (with_reducible first | exact HB.out | apply below_alloc | apply pw_below_drewN | apply below_drew1) | exact HB.out)) hb); have n1_ := Aside0.mk (hbox); have n2_ := Aside0.mk ((by rw [hg]; exact (below_size (by repeat (first | (with_reducible first | exact HB.out | apply below_alloc | apply pw_below_drewN | apply below_drew1) | exact HB.out))) : w.heap.size ≤ gb175)); have n3_ := Aside0.mk ((by rw [hg]; exact (below_size (by repeat (first | (with_reducible first | exact HB.out | apply below_alloc | apply pw_below_drewN | apply below_drew1) | exact HB.out))) : w.heap.size ≤ gb175)); clear HB; have HB := n0_; have BK175 := n1_; have GW175 := n2_; have GE175 := n3_; clear n0_ n1_ n2_ n3_; clear hb hbox hg) | ((with_reducible refine gate_dst (N := 10) rfl ?_); refine box_event ?hg (N := 10) ?hd (cs := #[.int .i64 0, .int .i64 0, .slice none 0 0]) (t := 24) ?hr ?_; (case hd => rfl); (case hg => rfl); (case hr => first | (go_simp; done) | (go_simp; rfl)); intro gb176 hg w13 hbox hb; have n0_ := Aside0.mk (blk_below (g := gb175) (o := .cells #[.int .i64 0, .int .i64 0, .slice none 0 0] 24 (0, 0)) (by (with_reducible repeat (first | refine blk_drewN ?_ _ | refine blk_drew ?_ | refine blk_alloc ?_ _)); exact BK175.out) hb); have n1_ := Aside0.mk (below_step (by repeat (first | (with_reducible first | exact HB.out | apply below_alloc | apply pw_below_drewN | apply below_drew1 | refine below_set ?_ GE175.out) | exact HB.out)) hb); have n2_ := Aside0.mk (hbox); have n3_ := Aside0.mk ((by rw [hg]; exact (below_size (by repeat (first | (with_reducible first | exact HB.out | apply below_alloc | apply pw_below_drewN | apply below_drew1 | refine below_set ?_ GE175.out) | exact HB.out))) : w.heap.size ≤ gb176)); have n4_ := Aside0.mk ((by rw [hg]; exact (below_size (by repeat (first | (with_reducible first | exact HB.out | apply below_alloc | apply pw_below_drewN | apply below_drew1 | refine below_set ?_ GE175.out) | exact HB.out))) : w.heap.size ≤ gb176)); have n5_ := Aside0.mk ((by rw [hg]; exact Nat.ne_of_lt (blk_lt (g := gb175) (o := .cells #[.int .i64 0, .int .i64 0, .slice none 0 0] 24 (0, 0)) (by (with_reducible repeat (first | refine blk_drewN ?_ _ | refine blk_drew ?_ | refine blk_alloc ?_ _)); exact BK175.out)) : gb175 ≠ gb176)); have n6_ := Aside0.mk ((by rw [hg]; exact Nat.ne_of_gt (blk_lt (g := gb175) (o := .cells #[.int .i64 0, .int .i64 0, .slice none 0 0] 24 (0, 0)) (by (with_reducible repeat (first | refine blk_drewN ?_ _ | refine blk_drew ?_ | refine blk_alloc ?_ _)); exact BK175.out)) : gb176 ≠ gb175)); clear BK175; clear HB; have BK175 := n0_; have HB := n1_; have BK176 := n2_; have GW176 := n3_; have GE176 := n4_; have NB175_176 := n5_; have NB176_175 := n6_; clear n0_ n1_ n2_ n3_ n4_ n5_ n6_; clear hb hbox hg; have hnb14 := NB176_175.out; have hnc14 := NB175_176.out; have hcz15_0 : w13.cell? ⟨gb176, 0, none⟩ = some (.int .i64 0) := (blk_cell BK176.out 0).trans rfl; have hcz15_1 : w13.cell? ⟨gb176, 1, none⟩ = some (.int .i64 0) := (blk_cell BK176.out 1).trans rfl; have hcz15_2 : w13.cell? ⟨gb176, 2, none⟩ = some (.slice none 0 0) := (blk_cell BK176.out 2).trans rfl; have hfz15_0 := blk_frozen BK176.out 0; have hfz15_1 := blk_frozen BK176.out 1; have hfz15_2 := blk_frozen BK176.out 2) | ((with_reducible refine gate_callee (f := 33) rfl ?_); refine goesL_ (some 23) rfl rfl Try.func33 (by kernel_rfl) rfl #[.int .i64 a1, .int .i64 a2, .int .i64 a3] rfl (by (try simp only [List.map_toArray, List.map_cons, List.map_nil]); first | done | rfl | (simp only [List.length_drop, List.length_take]; rfl)) ?_; (with_reducible refine (serinetteref06_wrong.calls k a1 a2 a3 t177 _ A5.out).mono ?_); rintro e w' ⟨rfl, ⟨nd, rfl⟩⟩; refine ⟨_, rfl, ?_⟩) | ((with_reducible refine gate_callee (f := 18) rfl ?_); refine goesL_ (some 29) rfl rfl Try.func18 (by kernel_rfl) rfl #[.int .i64 a2] rfl (by (try simp only [List.map_toArray, List.map_cons, List.map_nil]); first | done | rfl | (simp only [List.length_drop, List.length_take]; rfl)) ?_; (with_reducible refine (serinetteref06_Each.calls a2 t178 _ A7.out).mono ?_); rintro e w16 ⟨rfl, hb⟩; refine ⟨_, rfl, ?_⟩; have n0_ := Aside0.mk (blk_below (g := gb175) (o := .cells #[.int .i64 0, .int .i64 0, .slice none 0 0] 24 (0, 0)) (by (with_reducible repeat (first | refine blk_drewN ?_ _ | refine blk_drew ?_ | refine blk_alloc ?_ _)); refine blk_far ?_ NB175_176.out _; (with_reducible repeat (first | refine blk_drewN ?_ _ | refine blk_drew ?_ | refine blk_alloc ?_ _)); refine blk_far ?_ NB175_176.out _; (with_reducible repeat (first | refine blk_drewN ?_ _ | refine blk_drew ?_ | refine blk_alloc ?_ _)); refine blk_far ?_ NB175_176.out _; (with_reducible repeat (first | refine blk_drewN ?_ _ | refine blk_drew ?_ | refine blk_alloc ?_ _)); exact BK175.out) hb); have n1_ := Aside0.mk (blk_below (g := gb176) (o := .cells #[.int .i64 0, .int .i64 0, .slice none 0 0] 24 (0, 0)) (by (with_reducible repeat (first | refine blk_drewN ?_ _ | refine blk_drew ?_ | refine blk_alloc ?_ _)); refine blk_put (cs := #[.int .i64 0, .int .i64 0, .slice none 0 0]) ?_ 2 _ rfl; (with_reducible repeat (first | refine blk_drewN ?_ _ | refine blk_drew ?_ | refine blk_alloc ?_ _)); refine blk_put (cs := #[.int .i64 0, .int .i64 0, .slice none 0 0]) ?_ 1 _ rfl; (with_reducible repeat (first | refine blk_drewN ?_ _ | refine blk_drew ?_ | refine blk_alloc ?_ _)); refine blk_put (cs := #[.int .i64 0, .int .i64 0, .slice none 0 0]) ?_ 0 _ rfl; (with_reducible repeat (first | refine blk_drewN ?_ _ | refine blk_drew ?_ | refine blk_alloc ?_ _)); exact BK176.out) hb); have n2_ := Aside0.mk (below_step (by repeat (first | (with_reducible first | exact HB.out | apply below_alloc | apply pw_below_drewN | apply below_drew1 | refine below_set ?_ GE175.out | refine below_set ?_ GE176.out) | exact HB.out)) hb); clear BK175; clear BK176; clear HB; have BK175 := n0_; have BK176 := n1_; have HB := n2_; clear n0_ n1_ n2_; (try clear hb); (try clear hb2); (try clear hk); (try clear hi)) | ((with_reducible refine gate_dst (N := 41) rfl ?_); refine Kd.S_make (Kd.slice 3 (Kd.int .i64)) _ 45 rfl (N := 41) rfl 22 _ _ rfl a3 rfl rfl Try.underlying22 (.slice none 0 0) 24 info45 rfl (by decide) (by omega) [] (ok := fun _ => True) (okp := fun _ => True) ⟨_, rfl, Kd.R_nil _ _ _ _ _⟩ (fun _ hk => hk) trivial (of_decide_eq_true (by first | (with_reducible assumption) | assumption)) (Nat.le_trans (Nat.mul_le_mul_right _ (of_decide_eq_true (by first | (with_reducible assumption) | assumption) : a3.toNat ≤ 11728124029610)) (by omega)) (Below.refl _ _) (Nat.le_refl _) ?_; intro v180 w17 ho18 hb hg_ hnew_; clear hg_ hnew_; (first | rw [← Ny179.out] at ho18 | (simp only [Int.reduceToNat] at ho18; rw [← Ny179.out] at ho18)); have n0_ := Aside0.mk (Kd.S_lower ho18 (below_size (by repeat (first | (with_reducible first | exact HB.out | apply below_alloc | apply pw_below_drewN | apply below_drew1 | refine below_set ?_ GE175.out | refine below_set ?_ GE176.out) | exact HB.out)))); have n1_ := Aside0.mk (blk_below (g := gb175) (o := .cells #[.int .i64 0, .int .i64 0, .slice none 0 0] 24 (0, 0)) (by (with_reducible repeat (first | refine blk_drewN ?_ _ | refine blk_drew ?_ | refine blk_alloc ?_ _)); exact BK175.out) hb); have n2_ := Aside0.mk (blk_below (g := gb176) (o := .cells #[.int .i64 0, .int .i64 0, .slice none 0 0] 24 (0, 0)) (by (with_reducible repeat (first | refine blk_drewN ?_ _ | refine blk_drew ?_ | refine blk_alloc ?_ _)); exact BK176.out) hb); have n3_ := Aside0.mk (below_step (by repeat (first | (with_reducible first | exact HB.out | apply below_alloc | apply pw_below_drewN | apply below_drew1 | refine below_set ?_ GE175.out | refine below_set ?_ GE176.out) | exact HB.out)) hb); clear BK175; clear BK176; clear HB; have HO181 := n0_; have BK175 := n1_; have BK176 := n2_; have HB := n3_; clear n0_ n1_ n2_ n3_; clear hb ho18; obtain ⟨Ao19, co19, eo19⟩ := Kd.S_slice HO181.out; subst eo19) | ((with_reducible refine gate_dst (N := 13) rfl ?_); refine box_event ?hg (N := 13) ?hd (cs := #[.int .i64 0, .int .i64 0, .slice none 0 0]) (t := 24) ?hr ?_; (case hd => rfl); (case hg => rfl); (case hr => first | (go_simp; done) | (go_simp; rfl)); intro gb182 hg w20 hbox hb; have n0_ := Aside0.mk (Kd.S_below (by (with_reducible repeat (first | apply Kd.S_alloc | apply Kd.S_drewN | apply Kd.S_drew)); exact HO181.out) hb); have n1_ := Aside0.mk (blk_below (g := gb175) (o := .cells #[.int .i64 0, .int .i64 0, .slice none 0 0] 24 (0, 0)) (by (with_reducible repeat (first | refine blk_drewN ?_ _ | refine blk_drew ?_ | refine blk_alloc ?_ _)); exact BK175.out) hb); have n2_ := Aside0.mk (blk_below (g := gb176) (o := .cells #[.int .i64 0, .int .i64 0, .slice none 0 0] 24 (0, 0)) (by (with_reducible repeat (first | refine blk_drewN ?_ _ | refine blk_drew ?_ | refine blk_alloc ?_ _)); exact BK176.out) hb); have n3_ := Aside0.mk (below_step (by repeat (first | (with_reducible first | exact HB.out | apply below_alloc | apply pw_below_drewN | apply below_drew1 | refine below_set ?_ GE175.out | refine below_set ?_ GE176.out) | exact HB.out)) hb); have n4_ := Aside0.mk (hbox); have n5_ := Aside0.mk ((by rw [hg]; exact (below_size (by repeat (first | (with_reducible first | exact HB.out | apply below_alloc | apply pw_below_drewN | apply below_drew1 | refine below_set ?_ GE175.out | refine below_set ?_ GE176.out) | exact HB.out))) : w.heap.size ≤ gb182)); have n6_ := Aside0.mk ((by rw [hg]; exact (below_size (by repeat (first | (with_reducible first | exact HB.out | apply below_alloc | apply pw_below_drewN | apply below_drew1 | refine below_set ?_ GE175.out | refine below_set ?_ GE176.out) | exact HB.out))) : w.heap.size ≤ gb182)); have n7_ := Aside0.mk ((by rw [hg]; exact Nat.ne_of_lt (blk_lt (g := gb175) (o := .cells #[.int .i64 0, .int .i64 0, .slice none 0 0] 24 (0, 0)) (by (with_reducible repeat (first | refine blk_drewN ?_ _ | refine blk_drew ?_ | refine blk_alloc ?_ _)); exact BK175.out)) : gb175 ≠ gb182)); have n8_ := Aside0.mk ((by rw [hg]; exact Nat.ne_of_gt (blk_lt (g := gb175) (o := .cells #[.int .i64 0, .int .i64 0, .slice none 0 0] 24 (0, 0)) (by (with_reducible repeat (first | refine blk_drewN ?_ _ | refine blk_drew ?_ | refine blk_alloc ?_ _)); exact BK175.out)) : gb182 ≠ gb175)); have n9_ := Aside0.mk ((by rw [hg]; exact Nat.ne_of_lt (blk_lt (g := gb176) (o := .cells #[.int .i64 0, .int .i64 0, .slice none 0 0] 24 (0, 0)) (by (with_reducible repeat (first | refine blk_drewN ?_ _ | refine blk_drew ?_ | refine blk_alloc ?_ _)); exact BK176.out)) : gb176 ≠ gb182)); have n10_ := Aside0.mk ((by rw [hg]; exact Nat.ne_of_gt (blk_lt (g := gb176) (o := .cells #[.int .i64 0, .int .i64 0, .slice none 0 0] 24 (0, 0)) (by (with_reducible repeat (first | refine blk_drewN ?_ _ | refine blk_drew ?_ | refine blk_alloc ?_ _)); exact BK176.out)) : gb182 ≠ gb176)); clear HO181; clear BK175; clear BK176; clear HB; have HO181 := n0_; have BK175 := n1_; have BK176 := n2_; have HB := n3_; have BK182 := n4_; have GW182 := n5_; have GE182 := n6_; have NB175_182 := n7_; have NB182_175 := n8_; have NB176_182 := n9_; have NB182_176 := n10_; clear n0_ n1_ n2_ n3_ n4_ n5_ n6_ n7_ n8_ n9_ n10_; clear hb hbox hg; have hnb21 := NB182_175.out; have hnc21 := NB175_182.out; have hnb22 := NB182_176.out; have hnc22 := NB176_182.out; have hcz23_0 : w20.cell? ⟨gb182, 0, none⟩ = some (.int .i64 0) := (blk_cell BK182.out 0).trans rfl; have hcz23_1 : w20.cell? ⟨gb182, 1, none⟩ = some (.int .i64 0) := (blk_cell BK182.out 1).trans rfl; have hcz23_2 : w20.cell? ⟨gb182, 2, none⟩ = some (.slice none 0 0) := (blk_cell BK182.out 2).trans rfl; have hfz23_0 := blk_frozen BK182.out 0; have hfz23_1 := blk_frozen BK182.out 1; have hfz23_2 := blk_frozen BK182.out 2))
            go_loopg [14] k (fun kq v14 w' => ∃ (x14_1 : Int) (x176000_1 : Int) (x176001_1 : Int) (x183002_1 : List (List Int)) (u183002 : Value), v14 = .int .i64 x14_1 ∧ Aside0 (serinetteref06_Unbytes.l0 kq l0 a2 a3 t178 x14_1 0 0 a1 a2 x183002_1 = some (r1, r2, r3, r4)) ∧ Aside0 (kq ≤ k) ∧ Aside0 (Kd.S (Kd.slice 3 (Kd.int .i64)) 45 w' w.heap.size (fun _ => True) u183002 x183002_1) ∧ Aside0 (w'.heap[gb175]? = some (.cells #[.int .i64 x176000_1, .int .i64 x176001_1, (.slice none 0 0)] 24 (0, 0))) ∧ Aside0 (w'.heap[gb176]? = some (.cells #[.int .i64 0, .int .i64 0, (.slice none 0 0)] 24 (0, 0))) ∧ Aside0 (w'.heap[gb182]? = some (.cells #[.int .i64 a1, .int .i64 a2, u183002] 24 (0, 0))) ∧ Aside0 (Below w.heap.size w w'))
            case atStart => exact ⟨(0), (0), (0), (y179), (.slice Ao19 y179.length co19), (by first | rfl | (simp; done) | (simp only [i64_w, i32_w]; done) | (simp [*]; done) | (simp only [i64_w, i32_w]; first | rfl | (simp; done) | (simp [*]; done))), H', ⟨Nat.le_refl _⟩, ⟨by (with_reducible repeat (first | apply Kd.S_alloc | apply Kd.S_drewN | apply Kd.S_drew)); exact Kd.S_mono (Kd.S_far (p := ⟨gb182, 2, none⟩) (Kd.S_far (p := ⟨gb182, 1, none⟩) (Kd.S_far (p := ⟨gb182, 0, none⟩) (Kd.S_types HO181.out BK182.out (by decide)) (fun _ hk => hk.2) (.int .i64 a1)) (fun _ hk => hk.2) (.int .i64 a2)) (fun _ hk => hk.2) (.slice Ao19 y179.length co19)) (fun _ hk => trivial)⟩, ⟨by (with_reducible repeat (first | refine blk_drewN ?_ _ | refine blk_drew ?_ | refine blk_alloc ?_ _)); refine blk_far ?_ NB175_182.out _; (with_reducible repeat (first | refine blk_drewN ?_ _ | refine blk_drew ?_ | refine blk_alloc ?_ _)); refine blk_far ?_ NB175_182.out _; (with_reducible repeat (first | refine blk_drewN ?_ _ | refine blk_drew ?_ | refine blk_alloc ?_ _)); refine blk_far ?_ NB175_182.out _; (with_reducible repeat (first | refine blk_drewN ?_ _ | refine blk_drew ?_ | refine blk_alloc ?_ _)); exact BK175.out⟩, ⟨by (with_reducible repeat (first | refine blk_drewN ?_ _ | refine blk_drew ?_ | refine blk_alloc ?_ _)); refine blk_far ?_ NB176_182.out _; (with_reducible repeat (first | refine blk_drewN ?_ _ | refine blk_drew ?_ | refine blk_alloc ?_ _)); refine blk_far ?_ NB176_182.out _; (with_reducible repeat (first | refine blk_drewN ?_ _ | refine blk_drew ?_ | refine blk_alloc ?_ _)); refine blk_far ?_ NB176_182.out _; (with_reducible repeat (first | refine blk_drewN ?_ _ | refine blk_drew ?_ | refine blk_alloc ?_ _)); exact BK176.out⟩, ⟨by (with_reducible repeat (first | refine blk_drewN ?_ _ | refine blk_drew ?_ | refine blk_alloc ?_ _)); refine blk_put (cs := #[.int .i64 a1, .int .i64 a2, .slice none 0 0]) ?_ 2 _ rfl; (with_reducible repeat (first | refine blk_drewN ?_ _ | refine blk_drew ?_ | refine blk_alloc ?_ _)); refine blk_put (cs := #[.int .i64 a1, .int .i64 0, .slice none 0 0]) ?_ 1 _ rfl; (with_reducible repeat (first | refine blk_drewN ?_ _ | refine blk_drew ?_ | refine blk_alloc ?_ _)); refine blk_put (cs := #[.int .i64 0, .int .i64 0, .slice none 0 0]) ?_ 0 _ rfl; (with_reducible repeat (first | refine blk_drewN ?_ _ | refine blk_drew ?_ | refine blk_alloc ?_ _)); exact BK182.out⟩, ⟨by repeat (first | (with_reducible first | exact HB.out | apply below_alloc | apply pw_below_drewN | apply below_drew1 | refine below_set ?_ GE175.out | refine below_set ?_ GE176.out | refine below_set ?_ GE182.out) | exact HB.out)⟩⟩
            case round =>
              clear H'
              try clear c1
              try clear c2
              try clear p2
              try clear c3
              try clear c6
              try clear c6b0
              try clear c6b1
              try clear p6
              try clear c8
              try clear c8b0
              try clear c8b1
              try clear c9
              try clear c9b0
              try clear c9b1
              try clear c10
              try clear c10b0
              try clear c10b1
              try clear c11
              try clear c11b0
              try clear c11b1
              try clear c14
              try clear c18
              try clear c20
              try clear c21
              try clear c22
              try clear hcz15_0
              try clear hcz15_1
              try clear hcz15_2
              try clear hcz23_0
              try clear hcz23_1
              try clear hcz23_2
              try clear hfz15_0
              try clear hfz15_1
              try clear hfz15_2
              try clear hfz23_0
              try clear hfz23_1
              try clear hfz23_2
              obtain ⟨x14_1, x176000_1, x176001_1, x183002_1, u183002, rfl, HA, HK1, HO_183002, BK175, BK176, BK182, HB⟩ := hrel
              cases gk with
              | zero => exact absurd HA.out (by simp [serinetteref06_Unbytes.l0])
              | succ k1 =>
                have H := HA.out
                clear HA
                simp only [serinetteref06_Unbytes.l0] at H
                by_cases c24 : x14_1 < (l0.length : Int)
                · rw [if_pos c24] at H
                  have c24b0 : decide (x14_1 < (l0.length : Int)) = true := decide_eq_true c24
                  clear c24
                  have H' := Aside0.mk H
                  clear H
                  go_wp2
                  go_loopg [15, 16] k1 (fun kq v15 v16 w' => ∃ (x15_2 : Int) (x16_2 : Int), v15 = .int .i64 x15_2 ∧ v16 = .int .i64 x16_2 ∧ Aside0 (serinetteref06_Unbytes.l1 kq l0 a2 a3 t178 x14_1 x15_2 x16_2 0 0 a1 a2 x183002_1 = some (r1, r2, r3, r4)) ∧ Aside0 (kq ≤ k1) ∧ Aside0 (Kd.S (Kd.slice 3 (Kd.int .i64)) 45 w' w.heap.size (fun _ => True) u183002 x183002_1) ∧ Aside0 (w'.heap[gb175]? = some (.cells #[.int .i64 x176000_1, .int .i64 x176001_1, (.slice none 0 0)] 24 (0, 0))) ∧ Aside0 (w'.heap[gb176]? = some (.cells #[.int .i64 0, .int .i64 0, (.slice none 0 0)] 24 (0, 0))) ∧ Aside0 (w'.heap[gb182]? = some (.cells #[.int .i64 a1, .int .i64 a2, u183002] 24 (0, 0))) ∧ Aside0 (Below w.heap.size w w'))
                  case atStart => exact ⟨(0), (wrap64 (t178 - 1)), (by first | rfl | (simp; done) | (simp only [i64_w, i32_w]; done) | (simp [*]; done) | (simp only [i64_w, i32_w]; first | rfl | (simp; done) | (simp [*]; done))), (by first | rfl | (simp; done) | (simp only [i64_w, i32_w]; done) | (simp [*]; done) | (simp only [i64_w, i32_w]; first | rfl | (simp; done) | (simp [*]; done))), H', ⟨Nat.le_refl _⟩, ⟨by (with_reducible repeat (first | apply Kd.S_alloc | apply Kd.S_drewN | apply Kd.S_drew)); exact HO_183002.out⟩, ⟨by (with_reducible repeat (first | refine blk_drewN ?_ _ | refine blk_drew ?_ | refine blk_alloc ?_ _)); exact BK175.out⟩, ⟨by (with_reducible repeat (first | refine blk_drewN ?_ _ | refine blk_drew ?_ | refine blk_alloc ?_ _)); exact BK176.out⟩, ⟨by (with_reducible repeat (first | refine blk_drewN ?_ _ | refine blk_drew ?_ | refine blk_alloc ?_ _)); exact BK182.out⟩, ⟨by repeat (first | (with_reducible first | exact HB.out | apply below_alloc | apply pw_below_drewN | apply below_drew1 | refine below_set ?_ GE175.out | refine below_set ?_ GE176.out | refine below_set ?_ GE182.out) | exact HB.out)⟩⟩
                  case round =>
                    clear H'
                    try clear c1
                    try clear c2
                    try clear p2
                    try clear c3
                    try clear c6
                    try clear c6b0
                    try clear c6b1
                    try clear p6
                    try clear c8
                    try clear c8b0
                    try clear c8b1
                    try clear c9
                    try clear c9b0
                    try clear c9b1
                    try clear c10
                    try clear c10b0
                    try clear c10b1
                    try clear c11
                    try clear c11b0
                    try clear c11b1
                    try clear c14
                    try clear c18
                    try clear c20
                    try clear c21
                    try clear c22
                    try clear c24
                    try clear c24b0
                    try clear hcz15_0
                    try clear hcz15_1
                    try clear hcz15_2
                    try clear hcz23_0
                    try clear hcz23_1
                    try clear hcz23_2
                    try clear hfz15_0
                    try clear hfz15_1
                    try clear hfz15_2
                    try clear hfz23_0
                    try clear hfz23_1
                    try clear hfz23_2
                    try clear p2
                    try clear p6
                    obtain ⟨x15_2, x16_2, rfl, rfl, HA, HK2, HO_183002, BK175, BK176, BK182, HB⟩ := hrel
                    cases gk with
                    | zero => exact absurd HA.out (by simp [serinetteref06_Unbytes.l1])
                    | succ k2 =>
                      have H := HA.out
                      clear HA
                      simp only [serinetteref06_Unbytes.l1] at H
                      by_cases c25 : x16_2 ≥ 0
                      · rw [if_pos c25] at H
                        have c25b0 : decide (0 ≤ x16_2) = true := decide_eq_true c25
                        clear c25
                        obtain ⟨ji26, hji26⟩ : ∃ j_ : Int, (wrap64 (x14_1 + x16_2)) = j_ := ⟨_, rfl⟩
                        replace H : (if 0 ≤ (ji26) then (if (ji26) < (l0.length : Int) then (serinetteref06_Unbytes.l1 k2 l0 a2 a3 t178 x14_1 (wrap64 ((wrap64 (256 * x15_2)) + (wrap64 (rd l0 (ji26))))) (wrap64 (x16_2 - 1)) 0 0 a1 a2 x183002_1) else (none)) else (none)) = some (r1, r2, r3, r4) := by first | (rw [hji26] at H; exact H) | (simp only [hji26] at H ⊢; exact H)
                        have hji26w : (IntKind.i64.wrap (x14_1 + x16_2)) = ji26 := (i64_w _).trans hji26
                        by_cases c27 : 0 ≤ (ji26)
                        · rw [if_pos c27] at H
                          have c27b0 : decide (0 ≤ (ji26)) = true := decide_eq_true c27
                          clear c27
                          by_cases c28 : (ji26) < (l0.length : Int)
                          · rw [if_pos c28] at H
                            have c28b0 : decide ((ji26) < (l0.length : Int)) = true := decide_eq_true c28
                            clear c28
                            have H' := Aside0.mk H
                            clear H
                            have p183 : 0 ≤ ((ji26) : Int) := of_decide_eq_true (by first | (with_reducible assumption) | assumption)
                            have q183 : (ji26) < (l0.length : Int) := of_decide_eq_true (by first | (with_reducible assumption) | assumption)
                            obtain ⟨ad183, e183, hx183_0⟩ := Kd.at_int HR0.out (ji26) p183 q183
                            cases e183
                            replace hx183_0 := (HB.out.cell (World.block_lt_of_cell? w _ hx183_0)).trans hx183_0
                            replace p183 := eq_true p183
                            replace q183 := eq_true q183
                            go_wp2
                            go_roundg k2
                            case measure => have := HK1.out; have := HK2.out; omega
                            case rel => exact ⟨(wrap64 ((wrap64 (256 * x15_2)) + (wrap64 (rd l0 (ji26))))), (wrap64 (x16_2 - 1)), (by first | rfl | (simp; done) | (simp only [← hji26] <;> (first | rfl | simp)) | (simp [*]; done)), (by first | rfl | (simp; done) | (simp only [i64_w, i32_w]; done) | (simp [*]; done) | (simp only [i64_w, i32_w]; first | rfl | (simp; done) | (simp [*]; done))), H', ⟨by have := HK1.out; have := HK2.out; omega⟩, ⟨by (with_reducible repeat (first | apply Kd.S_alloc | apply Kd.S_drewN | apply Kd.S_drew)); exact HO_183002.out⟩, ⟨by (with_reducible repeat (first | refine blk_drewN ?_ _ | refine blk_drew ?_ | refine blk_alloc ?_ _)); exact BK175.out⟩, ⟨by (with_reducible repeat (first | refine blk_drewN ?_ _ | refine blk_drew ?_ | refine blk_alloc ?_ _)); exact BK176.out⟩, ⟨by (with_reducible repeat (first | refine blk_drewN ?_ _ | refine blk_drew ?_ | refine blk_alloc ?_ _)); exact BK182.out⟩, ⟨by repeat (first | (with_reducible first | exact HB.out | apply below_alloc | apply pw_below_drewN | apply below_drew1 | refine below_set ?_ GE175.out | refine below_set ?_ GE176.out | refine below_set ?_ GE182.out) | exact HB.out)⟩⟩
                          · rw [if_neg c28] at H
                            exact absurd H (by simp)
                        · rw [if_neg c27] at H
                          exact absurd H (by simp)
                      · rw [if_neg c25] at H
                        have c25b0 : decide (0 ≤ x16_2) = false := decide_eq_false c25
                        clear c25
                        obtain ⟨ji29, hji29⟩ : ∃ j_ : Int, (wrap64 ((wrap64 (x14_1 + t178)) - 1)) = j_ := ⟨_, rfl⟩
                        replace H : (if 0 ≤ (ji29) then (if (ji29) < (l0.length : Int) then (if (rd l0 (ji29)) ≥ 128 then ((serinetteref06_Power.f k2 (wrap64 (8 * t178))).bind fun t185 => ((serinetteref06_In.f k2 (wrap64 (x15_2 - t185)) a2).bind fun t186 => (if t186 = true then (if t178 = 0 then (none) else (if a3 = 0 then (none) else (if 0 ≤ (Int.tmod (wrap64 (Int.tdiv x14_1 t178)) a3) then (if (Int.tmod (wrap64 (Int.tdiv x14_1 t178)) a3) < (x183002_1.length : Int) then (if (rd_L1 x183002_1 (Int.tmod (wrap64 (Int.tdiv x14_1 t178)) a3)).length < 17592186044416 then (serinetteref06_Unbytes.l0 k2 l0 a2 a3 t178 (wrap64 (x14_1 + t178)) 0 0 a1 a2 (x183002_1.set ((Int.tmod (wrap64 (Int.tdiv x14_1 t178)) a3) : Int).toNat ((rd_L1 x183002_1 (Int.tmod (wrap64 (Int.tdiv x14_1 t178)) a3)) ++ [wrap64 (x15_2 - t185)]))) else (none)) else (none)) else (none)))) else (some (0, 0, ([] : List (List Int)), 6))))) else ((serinetteref06_In.f k2 x15_2 a2).bind fun t192 => (if t192 = true then (if t178 = 0 then (none) else (if a3 = 0 then (none) else (if 0 ≤ (Int.tmod (wrap64 (Int.tdiv x14_1 t178)) a3) then (if (Int.tmod (wrap64 (Int.tdiv x14_1 t178)) a3) < (x183002_1.length : Int) then (if (rd_L1 x183002_1 (Int.tmod (wrap64 (Int.tdiv x14_1 t178)) a3)).length < 17592186044416 then (serinetteref06_Unbytes.l0 k2 l0 a2 a3 t178 (wrap64 (x14_1 + t178)) 0 0 a1 a2 (x183002_1.set ((Int.tmod (wrap64 (Int.tdiv x14_1 t178)) a3) : Int).toNat ((rd_L1 x183002_1 (Int.tmod (wrap64 (Int.tdiv x14_1 t178)) a3)) ++ [x15_2]))) else (none)) else (none)) else (none)))) else (some (0, 0, ([] : List (List Int)), 6))))) else (none)) else (none)) = some (r1, r2, r3, r4) := by first | (rw [hji29] at H; exact H) | (simp only [hji29] at H ⊢; exact H)
                        have hji29w : (IntKind.i64.wrap ((wrap64 (x14_1 + t178)) - 1)) = ji29 := (i64_w _).trans hji29
                        by_cases c30 : 0 ≤ (ji29)
                        · rw [if_pos c30] at H
                          have c30b0 : decide (0 ≤ (ji29)) = true := decide_eq_true c30
                          clear c30
                          by_cases c31 : (ji29) < (l0.length : Int)
                          · rw [if_pos c31] at H
                            have c31b0 : decide ((ji29) < (l0.length : Int)) = true := decide_eq_true c31
                            clear c31
                            by_cases c32 : (rd l0 (ji29)) ≥ 128
                            · rw [if_pos c32] at H
                              have c32b0 : decide (128 ≤ (rd l0 (ji29))) = true := decide_eq_true c32
                              clear c32
                              replace H := Option.bind_eq_some_iff.mp H
                              obtain ⟨t185, A330, H⟩ := H
                              replace H : ((serinetteref06_In.f k2 (wrap64 (x15_2 - t185)) a2).bind fun t186 => (if t186 = true then (if t178 = 0 then (none) else (if a3 = 0 then (none) else (if 0 ≤ (Int.tmod (wrap64 (Int.tdiv x14_1 t178)) a3) then (if (Int.tmod (wrap64 (Int.tdiv x14_1 t178)) a3) < (x183002_1.length : Int) then (if (rd_L1 x183002_1 (Int.tmod (wrap64 (Int.tdiv x14_1 t178)) a3)).length < 17592186044416 then (serinetteref06_Unbytes.l0 k2 l0 a2 a3 t178 (wrap64 (x14_1 + t178)) 0 0 a1 a2 (x183002_1.set ((Int.tmod (wrap64 (Int.tdiv x14_1 t178)) a3) : Int).toNat ((rd_L1 x183002_1 (Int.tmod (wrap64 (Int.tdiv x14_1 t178)) a3)) ++ [wrap64 (x15_2 - t185)]))) else (none)) else (none)) else (none)))) else (some (0, 0, ([] : List (List Int)), 6)))) = some (r1, r2, r3, r4) := H
                              have A33 := Aside0.mk A330
                              clear A330
                              replace H := Option.bind_eq_some_iff.mp H
                              obtain ⟨t186, A340, H⟩ := H
                              replace H : (if t186 = true then (if t178 = 0 then (none) else (if a3 = 0 then (none) else (if 0 ≤ (Int.tmod (wrap64 (Int.tdiv x14_1 t178)) a3) then (if (Int.tmod (wrap64 (Int.tdiv x14_1 t178)) a3) < (x183002_1.length : Int) then (if (rd_L1 x183002_1 (Int.tmod (wrap64 (Int.tdiv x14_1 t178)) a3)).length < 17592186044416 then (serinetteref06_Unbytes.l0 k2 l0 a2 a3 t178 (wrap64 (x14_1 + t178)) 0 0 a1 a2 (x183002_1.set ((Int.tmod (wrap64 (Int.tdiv x14_1 t178)) a3) : Int).toNat ((rd_L1 x183002_1 (Int.tmod (wrap64 (Int.tdiv x14_1 t178)) a3)) ++ [wrap64 (x15_2 - t185)]))) else (none)) else (none)) else (none)))) else (some (0, 0, ([] : List (List Int)), 6))) = some (r1, r2, r3, r4) := H
                              have A34 := Aside0.mk A340
                              clear A340
                              by_cases c35 : t186 = true
                              · subst c35
                                have H1 : (if t178 = 0 then (none) else (if a3 = 0 then (none) else (if 0 ≤ (Int.tmod (wrap64 (Int.tdiv x14_1 t178)) a3) then (if (Int.tmod (wrap64 (Int.tdiv x14_1 t178)) a3) < (x183002_1.length : Int) then (if (rd_L1 x183002_1 (Int.tmod (wrap64 (Int.tdiv x14_1 t178)) a3)).length < 17592186044416 then (serinetteref06_Unbytes.l0 k2 l0 a2 a3 t178 (wrap64 (x14_1 + t178)) 0 0 a1 a2 (x183002_1.set ((Int.tmod (wrap64 (Int.tdiv x14_1 t178)) a3) : Int).toNat ((rd_L1 x183002_1 (Int.tmod (wrap64 (Int.tdiv x14_1 t178)) a3)) ++ [wrap64 (x15_2 - t185)]))) else (none)) else (none)) else (none)))) = some (r1, r2, r3, r4) := by rw [if_pos rfl] at H; exact H
                                clear H
                                have H := H1
                                clear H1
                                by_cases c36 : t178 = 0
                                · rw [if_pos c36] at H
                                  exact absurd H (by simp)
                                · rw [if_neg c36] at H
                                  have c36b0 : (t178 == 0) = false := beq_eq_false_iff_ne.mpr c36
                                  have c36b1 : (t178 != 0) = true := bne_iff_ne.mpr c36
                                  by_cases c37 : a3 = 0
                                  · rw [if_pos c37] at H
                                    exact absurd H (by simp)
                                  · rw [if_neg c37] at H
                                    have c37b0 : (a3 == 0) = false := beq_eq_false_iff_ne.mpr c37
                                    have c37b1 : (a3 != 0) = true := bne_iff_ne.mpr c37
                                    obtain ⟨ji38, hji38⟩ : ∃ j_ : Int, (Int.tmod (wrap64 (Int.tdiv x14_1 t178)) a3) = j_ := ⟨_, rfl⟩
                                    replace H : (if 0 ≤ (ji38) then (if (ji38) < (x183002_1.length : Int) then (if (rd_L1 x183002_1 (ji38)).length < 17592186044416 then (serinetteref06_Unbytes.l0 k2 l0 a2 a3 t178 (wrap64 (x14_1 + t178)) 0 0 a1 a2 (x183002_1.set ((ji38) : Int).toNat ((rd_L1 x183002_1 (ji38)) ++ [wrap64 (x15_2 - t185)]))) else (none)) else (none)) else (none)) = some (r1, r2, r3, r4) := by first | (rw [hji38] at H; exact H) | (simp only [hji38] at H ⊢; exact H)
                                    (try rw [hji38] at A33)
                                    (try rw [hji38] at A34)
                                    by_cases c39 : 0 ≤ (ji38)
                                    · rw [if_pos c39] at H
                                      have c39b0 : decide (0 ≤ (ji38)) = true := decide_eq_true c39
                                      clear c39
                                      by_cases c40 : (ji38) < (x183002_1.length : Int)
                                      · rw [if_pos c40] at H
                                        have c40b0 : decide ((ji38) < (x183002_1.length : Int)) = true := decide_eq_true c40
                                        clear c40
                                        by_cases c41 : (rd_L1 x183002_1 (ji38)).length < 17592186044416
                                        · rw [if_pos c41] at H
                                          have LMc41 := Aside0.mk c41
                                          clear c41
                                          obtain ⟨y188, hy188⟩ : ∃ y_ : List Int, y_ = ((rd_L1 x183002_1 (ji38)) ++ [wrap64 (x15_2 - t185)]) := ⟨_, rfl⟩
                                          replace H : (serinetteref06_Unbytes.l0 k2 l0 a2 a3 t178 (wrap64 (x14_1 + t178)) 0 0 a1 a2 (x183002_1.set ((ji38) : Int).toNat y188)) = some (r1, r2, r3, r4) := by first | (rw [hy188]; with_reducible exact H) | (have H2_ := (Option.bind_some _ _).symm.trans H; rw [hy188]; with_reducible exact H2_) | (have H2_ := (Option.bind_some _ _).symm.trans H; with_reducible exact H2_) | with_reducible exact H | (rw [hy188]; exact H) | exact H
                                          have Ny188 := Aside0.mk hy188
                                          clear hy188
                                          obtain ⟨y191, hy191⟩ : ∃ y_ : List (List Int), y_ = (x183002_1.set ((ji38) : Int).toNat y188) := ⟨_, rfl⟩
                                          replace H : (serinetteref06_Unbytes.l0 k2 l0 a2 a3 t178 (wrap64 (x14_1 + t178)) 0 0 a1 a2 y191) = some (r1, r2, r3, r4) := by first | (rw [hy191]; with_reducible exact H) | (have H2_ := (Option.bind_some _ _).symm.trans H; rw [hy191]; with_reducible exact H2_) | (have H2_ := (Option.bind_some _ _).symm.trans H; with_reducible exact H2_) | with_reducible exact H | (rw [hy191]; exact H) | exact H
                                          have Ny191 := Aside0.mk hy191
                                          clear hy191
                                          have H' := Aside0.mk H
                                          clear H
                                          have p184 : 0 ≤ ((ji29) : Int) := of_decide_eq_true (by first | (with_reducible assumption) | assumption)
                                          have q184 : (ji29) < (l0.length : Int) := of_decide_eq_true (by first | (with_reducible assumption) | assumption)
                                          obtain ⟨ad184, e184, hx184_0⟩ := Kd.at_int HR0.out (ji29) p184 q184
                                          cases e184
                                          replace hx184_0 := (HB.out.cell (World.block_lt_of_cell? w _ hx184_0)).trans hx184_0
                                          replace p184 := eq_true p184
                                          replace q184 := eq_true q184
                                          try go_wp2_with (first | ((with_reducible refine gate_callee (f := 34) rfl ?_); refine goesL_ (some 77) rfl rfl Try.func34 (by kernel_rfl) rfl #[.int .i64 (wrap64 (8 * t178))] rfl (by (try simp only [List.map_toArray, List.map_cons, List.map_nil]); first | done | rfl | (simp only [List.length_drop, List.length_take]; rfl)) ?_; (with_reducible refine (serinetteref06_Power.calls k2 (wrap64 (8 * t178)) t185 _ A33.out).mono ?_); rintro e w' ⟨rfl, ⟨nd, rfl⟩⟩; refine ⟨_, rfl, ?_⟩; (try (rw [drewN_self wr]; generalize hq_ : World.drewN wr _ = wr; have n0_ : Aside0 (Kd.S (Kd.slice 3 (Kd.int .i64)) 45 wr w.heap.size (fun _ => True) u183002 x183002_1) := ⟨by rw [← hq_]; exact (by (with_reducible repeat (first | apply Kd.S_alloc | apply Kd.S_drewN | apply Kd.S_drew)); exact HO_183002.out)⟩; have n1_ : Aside0 (wr.heap[gb175]? = some (.cells #[.int .i64 x176000_1, .int .i64 x176001_1, .slice none 0 0] 24 (0, 0))) := ⟨by rw [← hq_]; exact (by (with_reducible repeat (first | refine blk_drewN ?_ _ | refine blk_drew ?_ | refine blk_alloc ?_ _)); exact BK175.out)⟩; have n2_ : Aside0 (wr.heap[gb176]? = some (.cells #[.int .i64 0, .int .i64 0, .slice none 0 0] 24 (0, 0))) := ⟨by rw [← hq_]; exact (by (with_reducible repeat (first | refine blk_drewN ?_ _ | refine blk_drew ?_ | refine blk_alloc ?_ _)); exact BK176.out)⟩; have n3_ : Aside0 (wr.heap[gb182]? = some (.cells #[.int .i64 a1, .int .i64 a2, u183002] 24 (0, 0))) := ⟨by rw [← hq_]; exact (by (with_reducible repeat (first | refine blk_drewN ?_ _ | refine blk_drew ?_ | refine blk_alloc ?_ _)); exact BK182.out)⟩; have n4_ : Aside0 (Below w.heap.size w wr) := ⟨by rw [← hq_]; exact (by repeat (first | (with_reducible first | exact HB.out | apply below_alloc | apply pw_below_drewN | apply below_drew1 | refine below_set ?_ GE175.out | refine below_set ?_ GE176.out | refine below_set ?_ GE182.out) | exact HB.out))⟩; clear HO_183002 BK175 BK176 BK182 HB hq_; have HO_183002 := n0_; have BK175 := n1_; have BK176 := n2_; have BK182 := n3_; have HB := n4_; clear n0_ n1_ n2_ n3_ n4_))) | ((with_reducible refine gate_callee (f := 16) rfl ?_); refine goesL_ (some 81) rfl rfl Try.func16 (by kernel_rfl) rfl #[.int .i64 (wrap64 (x15_2 - t185)), .int .i64 a2] rfl (by (try simp only [List.map_toArray, List.map_cons, List.map_nil]); first | done | rfl | (simp only [List.length_drop, List.length_take]; rfl)) ?_; (with_reducible refine (serinetteref06_In.calls k2 (wrap64 (x15_2 - t185)) a2 true _ A34.out).mono ?_); rintro e w' ⟨rfl, ⟨nd, rfl⟩⟩; refine ⟨_, rfl, ?_⟩; (try (rw [drewN_self wr]; generalize hq_ : World.drewN wr _ = wr; have n0_ : Aside0 (Kd.S (Kd.slice 3 (Kd.int .i64)) 45 wr w.heap.size (fun _ => True) u183002 x183002_1) := ⟨by rw [← hq_]; exact (by (with_reducible repeat (first | apply Kd.S_alloc | apply Kd.S_drewN | apply Kd.S_drew)); exact HO_183002.out)⟩; have n1_ : Aside0 (wr.heap[gb175]? = some (.cells #[.int .i64 x176000_1, .int .i64 x176001_1, .slice none 0 0] 24 (0, 0))) := ⟨by rw [← hq_]; exact (by (with_reducible repeat (first | refine blk_drewN ?_ _ | refine blk_drew ?_ | refine blk_alloc ?_ _)); exact BK175.out)⟩; have n2_ : Aside0 (wr.heap[gb176]? = some (.cells #[.int .i64 0, .int .i64 0, .slice none 0 0] 24 (0, 0))) := ⟨by rw [← hq_]; exact (by (with_reducible repeat (first | refine blk_drewN ?_ _ | refine blk_drew ?_ | refine blk_alloc ?_ _)); exact BK176.out)⟩; have n3_ : Aside0 (wr.heap[gb182]? = some (.cells #[.int .i64 a1, .int .i64 a2, u183002] 24 (0, 0))) := ⟨by rw [← hq_]; exact (by (with_reducible repeat (first | refine blk_drewN ?_ _ | refine blk_drew ?_ | refine blk_alloc ?_ _)); exact BK182.out)⟩; have n4_ : Aside0 (Below w.heap.size w wr) := ⟨by rw [← hq_]; exact (by repeat (first | (with_reducible first | exact HB.out | apply below_alloc | apply pw_below_drewN | apply below_drew1 | refine below_set ?_ GE175.out | refine below_set ?_ GE176.out | refine below_set ?_ GE182.out) | exact HB.out))⟩; clear HO_183002 BK175 BK176 BK182 HB hq_; have HO_183002 := n0_; have BK175 := n1_; have BK176 := n2_; have BK182 := n3_; have HB := n4_; clear n0_ n1_ n2_ n3_ n4_))))
                                          have n0_ := Aside0.mk (Kd.S_drew HO_183002.out)
                                          have n1_ := Aside0.mk (blk_drew BK175.out)
                                          have n2_ := Aside0.mk (blk_drew BK176.out)
                                          have n3_ := Aside0.mk (blk_drew BK182.out)
                                          have n4_ := Aside0.mk (below_drew1 HB.out)
                                          clear HO_183002
                                          clear BK175
                                          clear BK176
                                          clear BK182
                                          clear HB
                                          have HO_183002 := n0_
                                          have BK175 := n1_
                                          have BK176 := n2_
                                          have BK182 := n3_
                                          have HB := n4_
                                          clear n0_ n1_ n2_ n3_ n4_
                                          obtain ⟨Ao44, co44, eo44⟩ := Kd.S_slice HO_183002.out
                                          (first | subst eo44 | (injection eo44 with f1_ f2_ f3_; have f4_ := f1_.symm; have f5_ := f3_.symm; clear f1_ f2_ f3_; subst f4_; subst f5_))
                                          have p187 : 0 ≤ ((ji38) : Int) := of_decide_eq_true (by first | (with_reducible assumption) | assumption)
                                          have q187 : (ji38) < (x183002_1.length : Int) := of_decide_eq_true (by first | (with_reducible assumption) | assumption)
                                          obtain ⟨ad187, A187_0, c187_0, e187, hx187_0, hl187_0, hi187_0⟩ := at_L1 (Kd.S_reads' HO_183002.out).2.2 (ji38) p187 q187
                                          cases e187
                                          obtain ⟨ce187, hce187, hMe187, hcc187⟩ := Kd.S_get HO_183002.out [] (ji38) p187 (by first | exact q187 | exact of_decide_eq_true (by first | (with_reducible assumption) | assumption) | (have e_ := (Kd.S_reads' HO_183002.out).1; omega))
                                          obtain ⟨ve187_0, rfl, ge187_0⟩ := hMe187
                                          have hv187_0 := hcc187 0 _ rfl
                                          rw [Nat.add_zero, show ((Kd.slice 3 (Kd.int .i64))).sz = 1 from rfl, Nat.mul_one] at hv187_0
                                          replace hv187_0 := Option.some.inj (hv187_0.symm.trans hx187_0)
                                          rw [hv187_0] at ge187_0
                                          have HL187_0 := Aside0.mk (show Kd.R (Kd.int .i64) 3 _ _ _ _ (rd_L1 x183002_1 (ji38)) from ge187_0)
                                          clear hv187_0 ge187_0
                                          have HX187_0 := Aside0.mk hx187_0
                                          clear hcc187 hce187
                                          have HR187_0 := Aside0.mk hi187_0
                                          have HC187_0 := Aside0.mk hl187_0
                                          clear hi187_0 hl187_0
                                          replace p187 := eq_true p187
                                          replace q187 := eq_true q187
                                          obtain ⟨go45, co45, eo45, gb45, gl45, cl45, HG45⟩ := Kd.S_form HO_183002.out (by have h_ : ((ji38) : Int) < ((x183002_1.length : Int) : Int) := of_decide_eq_true (by first | (with_reducible assumption) | assumption); have h2_ : 0 ≤ ((ji38) : Int) := (of_decide_eq_true (by first | (with_reducible assumption) | assumption)); omega)
                                          (first | cases eo45 | (injection eo45 with ea_ en_ ec_; (first | subst ea_ | (injection ea_ with ea_; subst ea_)); subst ec_; clear en_))
                                          have GB45 := Aside0.mk gb45
                                          have GG45 := Aside0.mk HG45
                                          clear gb45 gl45 HG45
                                          (first | simp only [add_plain] at hx187_0 | skip)
                                          obtain ⟨oki45, ce45, hcl45, hM45, hcc45, _, _, hH45⟩ := Kd.S_elem HO_183002.out [] ((ji38) : Int) (of_decide_eq_true (by first | (with_reducible assumption) | assumption)) (by have h_ : ((ji38) : Int) < ((x183002_1.length : Int) : Int) := of_decide_eq_true (by first | (with_reducible assumption) | assumption); first | exact h_ | (have e_ := (Kd.S_reads' HO_183002.out).1; omega) | simpa using h_)
                                          obtain ⟨ve45_0, rfl, ge45_0⟩ := hM45
                                          have hv45 := hcc45 0 _ rfl
                                          have hX45 := HX187_0.out
                                          (try simp only [add_plain] at hX45)
                                          (try simp only [Nat.add_zero] at hv45)
                                          (try rw [show ((Kd.slice 3 (Kd.int .i64))).sz = 1 from rfl, Nat.mul_one] at hv45)
                                          replace hv45 := Option.some.inj (hv45.symm.trans hX45)
                                          subst hv45
                                          clear hX45 hcc45 hcl45
                                          have UU45 := Aside0.mk (show Kd.R (Kd.int .i64) 3 _ w.heap.size oki45 (.slice A187_0 (rd_L1 x183002_1 (ji38)).length c187_0) (rd_L1 x183002_1 (ji38)) from ge45_0)
                                          have HH45 := Aside0.mk hH45
                                          have HN45 := Aside0.mk (Kd.S_reads' HO_183002.out).1
                                          clear hH45 ge45_0
                                          refine start_ (n := 13) (S := fun w' => w'.cell? ⟨gb182, 0, none⟩ = some (.int .i64 a1) ∧ w'.cell? ⟨gb182, 1, none⟩ = some (.int .i64 a2) ∧ w'.cell? ⟨gb182, 2, none⟩ = some (.slice (some ⟨go45, 0, none⟩) x183002_1.length co44) ∧ w'.cell? ⟨go45, ((ji38)).toNat, none⟩ = some (.slice A187_0 (rd_L1 x183002_1 (ji38)).length c187_0)) (ds := [12]) #[false, false, false, false, false, false, false, false, false, false, false, false, false] (by kernel_rfl) rfl rfl ⟨(blk_cell BK182.out 0).trans rfl, (blk_cell BK182.out 1).trans rfl, (blk_cell BK182.out 2).trans rfl, hx187_0⟩ (fun hHeld => ?_); refine with_tabW serinetteref06_Unbytes.tab23 serinetteref06_Unbytes.bits23 (fun HT_ HW_ => ?_)
                                          generalize wr.drew = w43 at HO_183002 BK175 BK176 BK182 HB GG45 HH45 HL187_0 HR187_0 HX187_0 UU45 hx187_0 hHeld ⊢
                                          refine pure_ (i := 0) (N := some 90) (v := ?_) (a' := ?_) #[true, false, false, false, false, false, false, false, false, false, false, false, false] rfl rfl (any_of HT_.out (by kernel_rfl)) (fun _ _ _ h => h) (Or.inl ⟨by rfl, ?_⟩) ?_ ?_
                                          rotate_left
                                          · intro w'
                                            go_simp
                                            with_reducible rfl
                                          rotate_left
                                          · simp only [Act.put, List.setIfInBounds_toArray, List.set_cons_zero, List.set_cons_succ, i64_w, i32_w]
                                            rfl
                                          refine pure_ (i := 2) (N := some 92) (v := ?_) (a' := ?_) #[true, false, true, false, false, false, false, false, false, false, false, false, false] rfl rfl (any_of HT_.out (by kernel_rfl)) (fun _ _ _ h => h) (Or.inl ⟨by rfl, ?_⟩) ?_ ?_
                                          rotate_left
                                          · intro w'
                                            go_simp
                                            with_reducible rfl
                                          rotate_left
                                          · simp only [Act.put, List.setIfInBounds_toArray, List.set_cons_zero, List.set_cons_succ, i64_w, i32_w]
                                            rfl
                                          refine pure_ (i := 3) (N := some 93) (v := ?_) (a' := ?_) #[true, false, true, true, false, false, false, false, false, false, false, false, false] rfl rfl (any_of HT_.out (by kernel_rfl)) (fun _ _ _ h => h) (Or.inl ⟨by rfl, ?_⟩) ?_ ?_
                                          rotate_left
                                          · intro w'
                                            go_simp
                                            with_reducible rfl
                                          rotate_left
                                          · simp only [Act.put, List.setIfInBounds_toArray, List.set_cons_zero, List.set_cons_succ, i64_w, i32_w]
                                            rfl
                                          refine pure_ (i := 5) (N := some 95) (v := ?_) (a' := ?_) #[true, false, true, true, false, true, false, false, false, false, false, false, false] rfl rfl (any_of HT_.out (by kernel_rfl)) (fun _ _ _ h => h) (Or.inl ⟨by rfl, ?_⟩) ?_ ?_
                                          rotate_left
                                          · intro w'
                                            go_simp
                                            with_reducible rfl
                                          rotate_left
                                          · simp only [Act.put, List.setIfInBounds_toArray, List.set_cons_zero, List.set_cons_succ, i64_w, i32_w]
                                            rfl
                                          refine pure_ (i := 8) (N := some 98) (v := ?_) (a' := ?_) #[true, false, true, true, false, true, false, false, true, false, false, false, false] rfl rfl (any_of HT_.out (by kernel_rfl)) (fun _ _ _ h => h) (Or.inl ⟨by rfl, ?_⟩) ?_ ?_
                                          rotate_left
                                          · intro w'
                                            go_simp
                                            with_reducible rfl
                                          rotate_left
                                          · simp only [Act.put, List.setIfInBounds_toArray, List.set_cons_zero, List.set_cons_succ, i64_w, i32_w]
                                            rfl
                                          refine take_ (i := 1) (N := some 91) (v := ?_) (a' := ?_) #[true, true, true, true, false, true, false, false, true, false, false, false, false] rfl rfl (take_ofW HT_.out HW_.out (by kernel_rfl)) (fun _ _ _ h => h) (Or.inl ⟨by rfl, ?_⟩) hHeld ?_ ?_
                                          rotate_left
                                          · rintro w' ⟨s0, s1, s2, s3⟩
                                            go_simp
                                            with_reducible rfl
                                          rotate_left
                                          · simp only [Act.put, List.setIfInBounds_toArray, List.set_cons_zero, List.set_cons_succ, i64_w, i32_w]
                                            rfl
                                          refine take_ (i := 4) (N := some 94) (v := ?_) (a' := ?_) #[true, true, true, true, true, true, false, false, true, false, false, false, false] rfl rfl (take_ofW HT_.out HW_.out (by kernel_rfl)) (fun _ _ _ h => h) (Or.inl ⟨by rfl, ?_⟩) hHeld ?_ ?_
                                          rotate_left
                                          · rintro w' ⟨s0, s1, s2, s3⟩
                                            go_simp
                                            with_reducible rfl
                                          rotate_left
                                          · simp only [Act.put, List.setIfInBounds_toArray, List.set_cons_zero, List.set_cons_succ, i64_w, i32_w]
                                            rfl
                                          refine pure_ (i := 6) (N := some 96) (v := ?_) (a' := ?_) #[true, true, true, true, true, true, true, false, true, false, false, false, false] rfl rfl (any_of HT_.out (by kernel_rfl)) (fun _ _ _ h => h) (Or.inl ⟨by rfl, ?_⟩) ?_ ?_
                                          rotate_left
                                          · intro w'
                                            go_simp
                                            with_reducible rfl
                                          rotate_left
                                          · simp only [Act.put, List.setIfInBounds_toArray, List.set_cons_zero, List.set_cons_succ, i64_w, i32_w]
                                            rfl
                                          refine take_ (i := 7) (N := some 97) (v := ?_) (a' := ?_) #[true, true, true, true, true, true, true, true, true, false, false, false, false] rfl rfl (take_ofW HT_.out HW_.out (by kernel_rfl)) (fun _ _ _ h => h) (Or.inl ⟨by rfl, ?_⟩) hHeld ?_ ?_
                                          rotate_left
                                          · rintro w' ⟨s0, s1, s2, s3⟩
                                            go_simp
                                            with_reducible rfl
                                          rotate_left
                                          · simp only [Act.put, List.setIfInBounds_toArray, List.set_cons_zero, List.set_cons_succ, i64_w, i32_w]
                                            rfl
                                          refine one_ (i := 9) (N := some 99) #[true, true, true, true, true, true, true, true, true, true, false, false, false] rfl rfl (one_of HT_.out (by kernel_rfl)) (by decide) (fun K hK => ?_)
                                          refine value_ (w1 := ?_) (v := ?_) (by rfl) rfl ?_ ?_
                                          rotate_left 2
                                          · go_simp
                                            constructor
                                            · rfl
                                            · rfl
                                          refine hK.out _ _ ⟨(blk_cell (blk_alloc BK182.out _) 0).trans rfl, (blk_cell (blk_alloc BK182.out _) 1).trans rfl, (blk_cell (blk_alloc BK182.out _) 2).trans rfl, (World.cell?_alloc_lt _ _ _ (World.block_lt_of_cell? _ _ (hHeld.2.2.2))).trans (hHeld.2.2.2)⟩ (fun hHeld => ?_)
                                          clear hK K
                                          refine norm_ (a' := ?_) ?_ ?_
                                          rotate_left
                                          · show Act.put _ (some 99) _ = _
                                            simp only [Act.put, List.setIfInBounds_toArray, List.set_cons_zero, List.set_cons_succ, i64_w, i32_w]
                                            rfl
                                          refine one_ (i := 10) (N := some 100) #[true, true, true, true, true, true, true, true, true, true, true, false, false] rfl rfl (one_of HT_.out (by kernel_rfl)) (by decide) (fun K hK => ?_)
                                          refine Kd.R_append_step (Kd.int .i64) (w0 := w) w.heap.size (by rfl) (.tmp 97) (.tmp 99) 45 3 (.int .i64 0) 8 rfl Try.underlying45 info3 rfl (by decide) (by omega) (.slice A187_0 (rd_L1 x183002_1 (ji38)).length c187_0) (rd_L1 x183002_1 (ji38)) (wrap64 (x15_2 - t185)) [.int .i64 (wrap64 (x15_2 - t185))] (fun k_ => oki45 k_ ∨ ((fun _ => True)) k_ ∧ w43.heap.size ≤ k_) (fun _ => False) rfl rfl ?aP (fun _ hk => hk.elim) ?aF ?aO ?aB ?aS ?aL ?_
                                          (case aP => exact rfl)
                                          (case aB => exact (by repeat (first | (with_reducible first | exact HB.out | apply below_alloc | apply pw_below_drewN | apply below_drew1 | refine below_set ?_ GE175.out | refine below_set ?_ GE176.out | refine below_set ?_ GE182.out) | exact HB.out)))
                                          (case aF => exact (fun k_ hk => .inr ⟨trivial, hk⟩))
                                          (case aO => exact (by (with_reducible repeat (first | apply Kd.R_alloc | apply Kd.R_drewN | apply Kd.R_drew)); exact Kd.R_mono UU45.out (fun _ hk => .inl hk)))
                                          (case aS => exact (below_size (by repeat (first | (with_reducible first | exact HB.out | apply below_alloc | apply pw_below_drewN | apply below_drew1 | refine below_set ?_ GE175.out | refine below_set ?_ GE176.out | refine below_set ?_ GE182.out) | exact HB.out))))
                                          (case aL => have := LMc41.out; omega)
                                          intro v189 w46 ho hb hg hat
                                          (first | have HS3_ := cell_grown hg (hHeld.2.2.2) (by first | (rw [add_block]; exact (fun e_ => ((HL187_0.out.1 _ e_.symm).2) rfl)) | (show some (Addr.add _ _).block ≠ _; rw [add_block]; exact (fun e_ => ((HL187_0.out.1 _ e_.symm).2) rfl)) | exact (fun e_ => ((HL187_0.out.1 _ e_.symm).2) rfl)) | have HS3_ := cell_grown hg (cell_unalloc (hHeld.2.2.2) (by first | (rw [add_block]; exact Kd.S_lt HO_183002.out _ rfl) | (show (Addr.add _ _).block < _; rw [add_block]; exact Kd.S_lt HO_183002.out _ rfl) | exact Kd.S_lt HO_183002.out _ rfl)) (by first | (rw [add_block]; exact (fun e_ => ((HL187_0.out.1 _ e_.symm).2) rfl)) | (show some (Addr.add _ _).block ≠ _; rw [add_block]; exact (fun e_ => ((HL187_0.out.1 _ e_.symm).2) rfl)) | exact (fun e_ => ((HL187_0.out.1 _ e_.symm).2) rfl)))
                                          rw [← Ny188.out] at ho
                                          have n0_ := Aside0.mk (blk_grown (g := gb175) (o := .cells #[.int .i64 x176000_1, .int .i64 x176001_1, .slice none 0 0] 24 (0, 0)) (by (with_reducible repeat (first | refine blk_drewN ?_ _ | refine blk_drew ?_ | refine blk_alloc ?_ _)); exact BK175.out) hg (Kd.R_ne HL187_0.out BK175.out (by decide)))
                                          have n1_ := Aside0.mk (blk_grown (g := gb176) (o := .cells #[.int .i64 0, .int .i64 0, .slice none 0 0] 24 (0, 0)) (by (with_reducible repeat (first | refine blk_drewN ?_ _ | refine blk_drew ?_ | refine blk_alloc ?_ _)); exact BK176.out) hg (Kd.R_ne HL187_0.out BK176.out (by decide)))
                                          have n2_ := Aside0.mk (blk_grown (g := gb182) (o := .cells #[.int .i64 a1, .int .i64 a2, .slice (some ⟨go45, 0, none⟩) x183002_1.length co44] 24 (0, 0)) (by (with_reducible repeat (first | refine blk_drewN ?_ _ | refine blk_drew ?_ | refine blk_alloc ?_ _)); exact BK182.out) hg (Kd.R_ne HL187_0.out BK182.out (by decide)))
                                          have n3_ := Aside0.mk (hb)
                                          have n4_ := Aside0.mk (Kd.H_grown (Kd.H_widen (by repeat (first | exact HH45.out | refine Kd.H_alloc ?_ _ | refine Kd.H_drewN ?_ _ | refine Kd.H_drew ?_))) hg (fun k_ e_ => .inl (UU45.out.1 k_ e_)))
                                          have n5_ := Aside0.mk (ho)
                                          clear BK175
                                          clear BK176
                                          clear BK182
                                          clear HB
                                          clear HH45
                                          clear HO_183002
                                          clear UU45
                                          clear HL187_0
                                          have BK175 := n0_
                                          have BK176 := n1_
                                          have BK182 := n2_
                                          have HB := n3_
                                          have HH45 := n4_
                                          have HO190 := n5_
                                          clear n0_ n1_ n2_ n3_ n4_ n5_
                                          clear ho hb hg hat
                                          have p42 : 0 ≤ ((ji38) : Int) := of_decide_eq_true (by first | (with_reducible assumption) | assumption)
                                          have q42 : ((ji38) : Int) < ((x183002_1.length : Int) : Int) := of_decide_eq_true (by first | (with_reducible assumption) | assumption)
                                          replace p42 := eq_true p42
                                          replace q42 := eq_true q42
                                          obtain ⟨Ao49, co49, eo49⟩ := Kd.R_slice HO190.out
                                          (first | subst eo49 | (injection eo49 with f1_ f2_ f3_; have f4_ := f1_.symm; have f5_ := f3_.symm; clear f1_ f2_ f3_; subst f4_; subst f5_))
                                          obtain ⟨_, _, hraw47, _, _, hcc47, _⟩ := Kd.H_raw HH45.out (of_decide_eq_true (by first | (with_reducible assumption) | assumption)) (by have h_ : ((ji38) : Int) < ((x183002_1.length : Int) : Int) := of_decide_eq_true (by first | (with_reducible assumption) | assumption); first | exact h_ | (have e_ := (HN45.out); omega) | simpa using h_)
                                          obtain ⟨_, hfr47⟩ := Kd.H_at HH45.out (of_decide_eq_true (by first | (with_reducible assumption) | assumption)) (by have h_ : ((ji38) : Int) < ((x183002_1.length : Int) : Int) := of_decide_eq_true (by first | (with_reducible assumption) | assumption); first | exact h_ | (have e_ := (HN45.out); omega) | simpa using h_)
                                          have hx47_0 := hcc47 0 _ rfl
                                          have hf47_0 := hfr47 0
                                          (try simp only [Nat.add_zero] at hx47_0 hf47_0)
                                          (try rw [show ((Kd.slice 3 (Kd.int .i64))).sz = 1 from rfl, Nat.mul_one] at hx47_0)
                                          (try rw [show ((Kd.slice 3 (Kd.int .i64))).sz = 1 from rfl, Nat.mul_one] at hf47_0)
                                          have HP47 := Kd.S_seg0 HH45.out (of_decide_eq_true (by first | (with_reducible assumption) | assumption)) (by have h_ : ((ji38) : Int) < ((x183002_1.length : Int) : Int) := of_decide_eq_true (by first | (with_reducible assumption) | assumption); first | exact h_ | (have e_ := (HN45.out); omega) | simpa using h_) (seg := [.slice Ao49 y188.length co49]) (j := 0) (show 1 ≤ 1 from by decide) (x' := y188) (Kd.M_row HO190.out) (fun _ hk => hk)
                                          (try simp only [show ((Kd.slice 3 (Kd.int .i64))).sz = 1 from rfl, Nat.mul_one, Nat.add_zero] at HP47)
                                          clear hcc47 hfr47
                                          have HNB175_go45 := Aside0.mk (show gb175 ≠ go45 from by have h_ := Kd.R_ne hraw47 BK175.out (by decide); intro e_; exact h_ (by rw [e_]; rfl))
                                          have HNB176_go45 := Aside0.mk (show gb176 ≠ go45 from by have h_ := Kd.R_ne hraw47 BK176.out (by decide); intro e_; exact h_ (by rw [e_]; rfl))
                                          have HNB182_go45 := Aside0.mk (show gb182 ≠ go45 from by have h_ := Kd.R_ne hraw47 BK182.out (by decide); intro e_; exact h_ (by rw [e_]; rfl))
                                          have HS47 := HP47.1
                                          rw [← Ny191.out] at HS47
                                          have HQ47 := Aside0.mk HS47
                                          obtain ⟨_, hgg47⟩ := Kd.R_typed hraw47 go45 rfl
                                          have GG47_ := Aside0.mk hgg47
                                          clear HP47 HS47 hgg47
                                          refine hK.out _ _ ⟨(blk_cell BK182.out 0).trans rfl, (blk_cell BK182.out 1).trans rfl, (blk_cell BK182.out 2).trans rfl, HS3_⟩ (fun hHeld => ?_)
                                          clear hK K
                                          refine norm_ (a' := ?_) ?_ ?_
                                          rotate_left
                                          · show Act.put _ (some 100) _ = _
                                            simp only [Act.put, List.setIfInBounds_toArray, List.set_cons_zero, List.set_cons_succ, i64_w, i32_w]
                                            rfl
                                          refine pure_ (i := 11) (N := some 101) (v := ?_) (a' := ?_) #[true, true, true, true, true, true, true, true, true, true, true, true, false] rfl rfl (any_of HT_.out (by kernel_rfl)) (fun _ _ _ h => h) (Or.inl ⟨by rfl, ?_⟩) ?_ ?_
                                          rotate_left
                                          · intro w'
                                            go_simp
                                            with_reducible rfl
                                          rotate_left
                                          · simp only [Act.put, List.setIfInBounds_toArray, List.set_cons_zero, List.set_cons_succ, i64_w, i32_w]
                                            rfl
                                          refine last_ (i := 12) (N := none) #[true, true, true, true, true, true, true, true, true, true, true, true, true] rfl rfl (one_of HT_.out (by kernel_rfl)) (by decide) (fun K hK => ?_)
                                          refine skip_ (w1 := ?_) (by rfl) rfl ?_ ?_
                                          rotate_left
                                          · go_simp
                                            rfl
                                          refine hK.out _ _ ?_
                                          clear hK K
                                          refine done_ (done_of HT_.out (by kernel_rfl)) ?_
                                          try go_wp2
                                          go_roundg k2
                                          case measure => have := HK1.out; have := HK2.out; omega
                                          case rel => exact ⟨(wrap64 (x14_1 + t178)), (x176000_1), (x176001_1), (y191), (.slice (some ⟨go45, 0, none⟩) x183002_1.length co44), (by first | rfl | (simp; done) | (simp only [i64_w, i32_w]; done) | (simp [*]; done) | (simp only [i64_w, i32_w]; first | rfl | (simp; done) | (simp [*]; done))), H', ⟨by have := HK1.out; have := HK2.out; omega⟩, ⟨by (with_reducible repeat (first | apply Kd.S_alloc | apply Kd.S_drewN | apply Kd.S_drew)); exact HQ47.out⟩, ⟨by (with_reducible repeat (first | refine blk_drewN ?_ _ | refine blk_drew ?_ | refine blk_alloc ?_ _)); refine blk_far ?_ HNB175_go45.out _; (with_reducible repeat (first | refine blk_drewN ?_ _ | refine blk_drew ?_ | refine blk_alloc ?_ _)); exact BK175.out⟩, ⟨by (with_reducible repeat (first | refine blk_drewN ?_ _ | refine blk_drew ?_ | refine blk_alloc ?_ _)); refine blk_far ?_ HNB176_go45.out _; (with_reducible repeat (first | refine blk_drewN ?_ _ | refine blk_drew ?_ | refine blk_alloc ?_ _)); exact BK176.out⟩, ⟨by (with_reducible repeat (first | refine blk_drewN ?_ _ | refine blk_drew ?_ | refine blk_alloc ?_ _)); refine blk_far ?_ HNB182_go45.out _; (with_reducible repeat (first | refine blk_drewN ?_ _ | refine blk_drew ?_ | refine blk_alloc ?_ _)); exact BK182.out⟩, ⟨by repeat (first | (with_reducible first | exact HB.out | apply below_alloc | apply pw_below_drewN | apply below_drew1 | refine below_set ?_ GB45.out | refine below_set ?_ GE175.out | refine below_set ?_ GE176.out | refine below_set ?_ GE182.out) | exact HB.out)⟩⟩
                                        · rw [if_neg c41] at H
                                          exact absurd H (by simp)
                                      · rw [if_neg c40] at H
                                        exact absurd H (by simp)
                                    · rw [if_neg c39] at H
                                      exact absurd H (by simp)
                              · replace c35 := Bool.eq_false_iff.mpr c35
                                subst c35
                                have H1 : (some (0, 0, ([] : List (List Int)), 6)) = some (r1, r2, r3, r4) := by rw [if_neg (show ¬ (false = true) by decide)] at H; exact H
                                clear H
                                have H := H1
                                clear H1
                                simp only [Option.some.injEq, Prod.mk.injEq] at H
                                obtain ⟨rfl, rfl, rfl, rfl⟩ := H
                                have p184 : 0 ≤ ((ji29) : Int) := of_decide_eq_true (by first | (with_reducible assumption) | assumption)
                                have q184 : (ji29) < (l0.length : Int) := of_decide_eq_true (by first | (with_reducible assumption) | assumption)
                                obtain ⟨ad184, e184, hx184_0⟩ := Kd.at_int HR0.out (ji29) p184 q184
                                cases e184
                                replace hx184_0 := (HB.out.cell (World.block_lt_of_cell? w _ hx184_0)).trans hx184_0
                                replace p184 := eq_true p184
                                replace q184 := eq_true q184
                                go_wp2_with (first | ((with_reducible refine gate_callee (f := 34) rfl ?_); refine goesL_ (some 77) rfl rfl Try.func34 (by kernel_rfl) rfl #[.int .i64 (wrap64 (8 * t178))] rfl (by (try simp only [List.map_toArray, List.map_cons, List.map_nil]); first | done | rfl | (simp only [List.length_drop, List.length_take]; rfl)) ?_; (with_reducible refine (serinetteref06_Power.calls k2 (wrap64 (8 * t178)) t185 _ A33.out).mono ?_); rintro e w' ⟨rfl, ⟨nd, rfl⟩⟩; refine ⟨_, rfl, ?_⟩; (try (rw [drewN_self wr]; generalize hq_ : World.drewN wr _ = wr; have n0_ : Aside0 (Kd.S (Kd.slice 3 (Kd.int .i64)) 45 wr w.heap.size (fun _ => True) u183002 x183002_1) := ⟨by rw [← hq_]; exact (by (with_reducible repeat (first | apply Kd.S_alloc | apply Kd.S_drewN | apply Kd.S_drew)); exact HO_183002.out)⟩; have n1_ : Aside0 (wr.heap[gb175]? = some (.cells #[.int .i64 x176000_1, .int .i64 x176001_1, .slice none 0 0] 24 (0, 0))) := ⟨by rw [← hq_]; exact (by (with_reducible repeat (first | refine blk_drewN ?_ _ | refine blk_drew ?_ | refine blk_alloc ?_ _)); exact BK175.out)⟩; have n2_ : Aside0 (wr.heap[gb176]? = some (.cells #[.int .i64 0, .int .i64 0, .slice none 0 0] 24 (0, 0))) := ⟨by rw [← hq_]; exact (by (with_reducible repeat (first | refine blk_drewN ?_ _ | refine blk_drew ?_ | refine blk_alloc ?_ _)); exact BK176.out)⟩; have n3_ : Aside0 (wr.heap[gb182]? = some (.cells #[.int .i64 a1, .int .i64 a2, u183002] 24 (0, 0))) := ⟨by rw [← hq_]; exact (by (with_reducible repeat (first | refine blk_drewN ?_ _ | refine blk_drew ?_ | refine blk_alloc ?_ _)); exact BK182.out)⟩; have n4_ : Aside0 (Below w.heap.size w wr) := ⟨by rw [← hq_]; exact (by repeat (first | (with_reducible first | exact HB.out | apply below_alloc | apply pw_below_drewN | apply below_drew1 | refine below_set ?_ GE175.out | refine below_set ?_ GE176.out | refine below_set ?_ GE182.out) | exact HB.out))⟩; clear HO_183002 BK175 BK176 BK182 HB hq_; have HO_183002 := n0_; have BK175 := n1_; have BK176 := n2_; have BK182 := n3_; have HB := n4_; clear n0_ n1_ n2_ n3_ n4_))) | ((with_reducible refine gate_callee (f := 16) rfl ?_); refine goesL_ (some 81) rfl rfl Try.func16 (by kernel_rfl) rfl #[.int .i64 (wrap64 (x15_2 - t185)), .int .i64 a2] rfl (by (try simp only [List.map_toArray, List.map_cons, List.map_nil]); first | done | rfl | (simp only [List.length_drop, List.length_take]; rfl)) ?_; (with_reducible refine (serinetteref06_In.calls k2 (wrap64 (x15_2 - t185)) a2 false _ A34.out).mono ?_); rintro e w' ⟨rfl, ⟨nd, rfl⟩⟩; refine ⟨_, rfl, ?_⟩; (try (rw [drewN_self wr]; generalize hq_ : World.drewN wr _ = wr; have n0_ : Aside0 (Kd.S (Kd.slice 3 (Kd.int .i64)) 45 wr w.heap.size (fun _ => True) u183002 x183002_1) := ⟨by rw [← hq_]; exact (by (with_reducible repeat (first | apply Kd.S_alloc | apply Kd.S_drewN | apply Kd.S_drew)); exact HO_183002.out)⟩; have n1_ : Aside0 (wr.heap[gb175]? = some (.cells #[.int .i64 x176000_1, .int .i64 x176001_1, .slice none 0 0] 24 (0, 0))) := ⟨by rw [← hq_]; exact (by (with_reducible repeat (first | refine blk_drewN ?_ _ | refine blk_drew ?_ | refine blk_alloc ?_ _)); exact BK175.out)⟩; have n2_ : Aside0 (wr.heap[gb176]? = some (.cells #[.int .i64 0, .int .i64 0, .slice none 0 0] 24 (0, 0))) := ⟨by rw [← hq_]; exact (by (with_reducible repeat (first | refine blk_drewN ?_ _ | refine blk_drew ?_ | refine blk_alloc ?_ _)); exact BK176.out)⟩; have n3_ : Aside0 (wr.heap[gb182]? = some (.cells #[.int .i64 a1, .int .i64 a2, u183002] 24 (0, 0))) := ⟨by rw [← hq_]; exact (by (with_reducible repeat (first | refine blk_drewN ?_ _ | refine blk_drew ?_ | refine blk_alloc ?_ _)); exact BK182.out)⟩; have n4_ : Aside0 (Below w.heap.size w wr) := ⟨by rw [← hq_]; exact (by repeat (first | (with_reducible first | exact HB.out | apply below_alloc | apply pw_below_drewN | apply below_drew1 | refine below_set ?_ GE175.out | refine below_set ?_ GE176.out | refine below_set ?_ GE182.out) | exact HB.out))⟩; clear HO_183002 BK175 BK176 BK182 HB hq_; have HO_183002 := n0_; have BK175 := n1_; have BK176 := n2_; have BK182 := n3_; have HB := n4_; clear n0_ n1_ n2_ n3_ n4_)); have hnb50 := NB176_175.out; have hnc50 := NB175_176.out; have hnb51 := NB176_182.out; have hnc51 := NB182_176.out; have hcz52_0 : wr.cell? ⟨gb176, 0, none⟩ = some (.int .i64 0) := (blk_cell BK176.out 0).trans rfl; have hcz52_1 : wr.cell? ⟨gb176, 1, none⟩ = some (.int .i64 0) := (blk_cell BK176.out 1).trans rfl; have hcz52_2 : wr.cell? ⟨gb176, 2, none⟩ = some (.slice none 0 0) := (blk_cell BK176.out 2).trans rfl; have hfz52_0 := blk_frozen BK176.out 0; have hfz52_1 := blk_frozen BK176.out 1; have hfz52_2 := blk_frozen BK176.out 2; have hnb53 := NB175_182.out; have hnc53 := NB182_175.out; have hcz54_0 : wr.cell? ⟨gb175, 0, none⟩ = some (.int .i64 x176000_1) := (blk_cell BK175.out 0).trans rfl; have hcz54_1 : wr.cell? ⟨gb175, 1, none⟩ = some (.int .i64 x176001_1) := (blk_cell BK175.out 1).trans rfl; have hcz54_2 : wr.cell? ⟨gb175, 2, none⟩ = some (.slice none 0 0) := (blk_cell BK175.out 2).trans rfl; have hfz54_0 := blk_frozen BK175.out 0; have hfz54_1 := blk_frozen BK175.out 1; have hfz54_2 := blk_frozen BK175.out 2))
                                refine bodyPost_ret (results_ct rfl _ _ gb175 24 #[.int .i64 0, .int .i64 0, .slice none 0 0] (0, 0) _ rfl (by (with_reducible repeat (first | refine blk_drewN ?_ _ | refine blk_drew ?_ | refine blk_alloc ?_ _)); refine blk_put (cs := #[.int .i64 0, .int .i64 0, .slice none 0 0]) ?_ 2 _ rfl; (with_reducible repeat (first | refine blk_drewN ?_ _ | refine blk_drew ?_ | refine blk_alloc ?_ _)); refine blk_put (cs := #[.int .i64 0, .int .i64 x176001_1, .slice none 0 0]) ?_ 1 _ rfl; (with_reducible repeat (first | refine blk_drewN ?_ _ | refine blk_drew ?_ | refine blk_alloc ?_ _)); refine blk_put (cs := #[.int .i64 x176000_1, .int .i64 x176001_1, .slice none 0 0]) ?_ 0 _ rfl; (with_reducible repeat (first | refine blk_drewN ?_ _ | refine blk_drew ?_ | refine blk_alloc ?_ _)); exact BK175.out) Try.underlying24 rfl (by kernel_rfl)) rfl ?_
                                exact ⟨_, by first | rfl | (simp [errW_none, errW_some] <;> rfl) | (simp only [← hji29]; first | rfl | (simp [errW_none, errW_some] <;> rfl)) | (simp [*, errW_none, errW_some] <;> rfl), by first | exact Kd.S_nil _ _ _ _ _ | exact Kd.N_nil _ _ _ _ _ | exact Kd.V_nil _ _ _ _ _ | exact Kd.Q_nil _ _ _ _ _ | exact Kd.R_nil _ _ _ _ _, by repeat (first | (with_reducible first | exact HB.out | apply below_alloc | apply pw_below_drewN | apply below_drew1 | refine below_set ?_ GE175.out | refine below_set ?_ GE176.out | refine below_set ?_ GE182.out) | exact HB.out)⟩
                            · rw [if_neg c32] at H
                              have c32b0 : decide (128 ≤ (rd l0 (ji29))) = false := decide_eq_false c32
                              clear c32
                              replace H := Option.bind_eq_some_iff.mp H
                              obtain ⟨t192, A550, H⟩ := H
                              replace H : (if t192 = true then (if t178 = 0 then (none) else (if a3 = 0 then (none) else (if 0 ≤ (Int.tmod (wrap64 (Int.tdiv x14_1 t178)) a3) then (if (Int.tmod (wrap64 (Int.tdiv x14_1 t178)) a3) < (x183002_1.length : Int) then (if (rd_L1 x183002_1 (Int.tmod (wrap64 (Int.tdiv x14_1 t178)) a3)).length < 17592186044416 then (serinetteref06_Unbytes.l0 k2 l0 a2 a3 t178 (wrap64 (x14_1 + t178)) 0 0 a1 a2 (x183002_1.set ((Int.tmod (wrap64 (Int.tdiv x14_1 t178)) a3) : Int).toNat ((rd_L1 x183002_1 (Int.tmod (wrap64 (Int.tdiv x14_1 t178)) a3)) ++ [x15_2]))) else (none)) else (none)) else (none)))) else (some (0, 0, ([] : List (List Int)), 6))) = some (r1, r2, r3, r4) := H
                              have A55 := Aside0.mk A550
                              clear A550
                              by_cases c56 : t192 = true
                              · subst c56
                                have H1 : (if t178 = 0 then (none) else (if a3 = 0 then (none) else (if 0 ≤ (Int.tmod (wrap64 (Int.tdiv x14_1 t178)) a3) then (if (Int.tmod (wrap64 (Int.tdiv x14_1 t178)) a3) < (x183002_1.length : Int) then (if (rd_L1 x183002_1 (Int.tmod (wrap64 (Int.tdiv x14_1 t178)) a3)).length < 17592186044416 then (serinetteref06_Unbytes.l0 k2 l0 a2 a3 t178 (wrap64 (x14_1 + t178)) 0 0 a1 a2 (x183002_1.set ((Int.tmod (wrap64 (Int.tdiv x14_1 t178)) a3) : Int).toNat ((rd_L1 x183002_1 (Int.tmod (wrap64 (Int.tdiv x14_1 t178)) a3)) ++ [x15_2]))) else (none)) else (none)) else (none)))) = some (r1, r2, r3, r4) := by rw [if_pos rfl] at H; exact H
                                clear H
                                have H := H1
                                clear H1
                                by_cases c57 : t178 = 0
                                · rw [if_pos c57] at H
                                  exact absurd H (by simp)
                                · rw [if_neg c57] at H
                                  have c57b0 : (t178 == 0) = false := beq_eq_false_iff_ne.mpr c57
                                  have c57b1 : (t178 != 0) = true := bne_iff_ne.mpr c57
                                  by_cases c58 : a3 = 0
                                  · rw [if_pos c58] at H
                                    exact absurd H (by simp)
                                  · rw [if_neg c58] at H
                                    have c58b0 : (a3 == 0) = false := beq_eq_false_iff_ne.mpr c58
                                    have c58b1 : (a3 != 0) = true := bne_iff_ne.mpr c58
                                    obtain ⟨ji59, hji59⟩ : ∃ j_ : Int, (Int.tmod (wrap64 (Int.tdiv x14_1 t178)) a3) = j_ := ⟨_, rfl⟩
                                    replace H : (if 0 ≤ (ji59) then (if (ji59) < (x183002_1.length : Int) then (if (rd_L1 x183002_1 (ji59)).length < 17592186044416 then (serinetteref06_Unbytes.l0 k2 l0 a2 a3 t178 (wrap64 (x14_1 + t178)) 0 0 a1 a2 (x183002_1.set ((ji59) : Int).toNat ((rd_L1 x183002_1 (ji59)) ++ [x15_2]))) else (none)) else (none)) else (none)) = some (r1, r2, r3, r4) := by first | (rw [hji59] at H; exact H) | (simp only [hji59] at H ⊢; exact H)
                                    (try rw [hji59] at A55)
                                    by_cases c60 : 0 ≤ (ji59)
                                    · rw [if_pos c60] at H
                                      have c60b0 : decide (0 ≤ (ji59)) = true := decide_eq_true c60
                                      clear c60
                                      by_cases c61 : (ji59) < (x183002_1.length : Int)
                                      · rw [if_pos c61] at H
                                        have c61b0 : decide ((ji59) < (x183002_1.length : Int)) = true := decide_eq_true c61
                                        clear c61
                                        by_cases c62 : (rd_L1 x183002_1 (ji59)).length < 17592186044416
                                        · rw [if_pos c62] at H
                                          have LMc62 := Aside0.mk c62
                                          clear c62
                                          obtain ⟨y194, hy194⟩ : ∃ y_ : List Int, y_ = ((rd_L1 x183002_1 (ji59)) ++ [x15_2]) := ⟨_, rfl⟩
                                          replace H : (serinetteref06_Unbytes.l0 k2 l0 a2 a3 t178 (wrap64 (x14_1 + t178)) 0 0 a1 a2 (x183002_1.set ((ji59) : Int).toNat y194)) = some (r1, r2, r3, r4) := by first | (rw [hy194]; with_reducible exact H) | (have H2_ := (Option.bind_some _ _).symm.trans H; rw [hy194]; with_reducible exact H2_) | (have H2_ := (Option.bind_some _ _).symm.trans H; with_reducible exact H2_) | with_reducible exact H | (rw [hy194]; exact H) | exact H
                                          have Ny194 := Aside0.mk hy194
                                          clear hy194
                                          obtain ⟨y197, hy197⟩ : ∃ y_ : List (List Int), y_ = (x183002_1.set ((ji59) : Int).toNat y194) := ⟨_, rfl⟩
                                          replace H : (serinetteref06_Unbytes.l0 k2 l0 a2 a3 t178 (wrap64 (x14_1 + t178)) 0 0 a1 a2 y197) = some (r1, r2, r3, r4) := by first | (rw [hy197]; with_reducible exact H) | (have H2_ := (Option.bind_some _ _).symm.trans H; rw [hy197]; with_reducible exact H2_) | (have H2_ := (Option.bind_some _ _).symm.trans H; with_reducible exact H2_) | with_reducible exact H | (rw [hy197]; exact H) | exact H
                                          have Ny197 := Aside0.mk hy197
                                          clear hy197
                                          have H' := Aside0.mk H
                                          clear H
                                          have p184 : 0 ≤ ((ji29) : Int) := of_decide_eq_true (by first | (with_reducible assumption) | assumption)
                                          have q184 : (ji29) < (l0.length : Int) := of_decide_eq_true (by first | (with_reducible assumption) | assumption)
                                          obtain ⟨ad184, e184, hx184_0⟩ := Kd.at_int HR0.out (ji29) p184 q184
                                          cases e184
                                          replace hx184_0 := (HB.out.cell (World.block_lt_of_cell? w _ hx184_0)).trans hx184_0
                                          replace p184 := eq_true p184
                                          replace q184 := eq_true q184
                                          try go_wp2_with (first | ((with_reducible refine gate_callee (f := 16) rfl ?_); refine goesL_ (some 81) rfl rfl Try.func16 (by kernel_rfl) rfl #[.int .i64 x15_2, .int .i64 a2] rfl (by (try simp only [List.map_toArray, List.map_cons, List.map_nil]); first | done | rfl | (simp only [List.length_drop, List.length_take]; rfl)) ?_; (with_reducible refine (serinetteref06_In.calls k2 x15_2 a2 true _ A55.out).mono ?_); rintro e w' ⟨rfl, ⟨nd, rfl⟩⟩; refine ⟨_, rfl, ?_⟩; (try (rw [drewN_self wr]; generalize hq_ : World.drewN wr _ = wr; have n0_ : Aside0 (Kd.S (Kd.slice 3 (Kd.int .i64)) 45 wr w.heap.size (fun _ => True) u183002 x183002_1) := ⟨by rw [← hq_]; exact (by (with_reducible repeat (first | apply Kd.S_alloc | apply Kd.S_drewN | apply Kd.S_drew)); exact HO_183002.out)⟩; have n1_ : Aside0 (wr.heap[gb175]? = some (.cells #[.int .i64 x176000_1, .int .i64 x176001_1, .slice none 0 0] 24 (0, 0))) := ⟨by rw [← hq_]; exact (by (with_reducible repeat (first | refine blk_drewN ?_ _ | refine blk_drew ?_ | refine blk_alloc ?_ _)); exact BK175.out)⟩; have n2_ : Aside0 (wr.heap[gb176]? = some (.cells #[.int .i64 0, .int .i64 0, .slice none 0 0] 24 (0, 0))) := ⟨by rw [← hq_]; exact (by (with_reducible repeat (first | refine blk_drewN ?_ _ | refine blk_drew ?_ | refine blk_alloc ?_ _)); exact BK176.out)⟩; have n3_ : Aside0 (wr.heap[gb182]? = some (.cells #[.int .i64 a1, .int .i64 a2, u183002] 24 (0, 0))) := ⟨by rw [← hq_]; exact (by (with_reducible repeat (first | refine blk_drewN ?_ _ | refine blk_drew ?_ | refine blk_alloc ?_ _)); exact BK182.out)⟩; have n4_ : Aside0 (Below w.heap.size w wr) := ⟨by rw [← hq_]; exact (by repeat (first | (with_reducible first | exact HB.out | apply below_alloc | apply pw_below_drewN | apply below_drew1 | refine below_set ?_ GE175.out | refine below_set ?_ GE176.out | refine below_set ?_ GE182.out) | exact HB.out))⟩; clear HO_183002 BK175 BK176 BK182 HB hq_; have HO_183002 := n0_; have BK175 := n1_; have BK176 := n2_; have BK182 := n3_; have HB := n4_; clear n0_ n1_ n2_ n3_ n4_))))
                                          have n0_ := Aside0.mk (Kd.S_drew HO_183002.out)
                                          have n1_ := Aside0.mk (blk_drew BK175.out)
                                          have n2_ := Aside0.mk (blk_drew BK176.out)
                                          have n3_ := Aside0.mk (blk_drew BK182.out)
                                          have n4_ := Aside0.mk (below_drew1 HB.out)
                                          clear HO_183002
                                          clear BK175
                                          clear BK176
                                          clear BK182
                                          clear HB
                                          have HO_183002 := n0_
                                          have BK175 := n1_
                                          have BK176 := n2_
                                          have BK182 := n3_
                                          have HB := n4_
                                          clear n0_ n1_ n2_ n3_ n4_
                                          obtain ⟨Ao65, co65, eo65⟩ := Kd.S_slice HO_183002.out
                                          (first | subst eo65 | (injection eo65 with f1_ f2_ f3_; have f4_ := f1_.symm; have f5_ := f3_.symm; clear f1_ f2_ f3_; subst f4_; subst f5_))
                                          have p193 : 0 ≤ ((ji59) : Int) := of_decide_eq_true (by first | (with_reducible assumption) | assumption)
                                          have q193 : (ji59) < (x183002_1.length : Int) := of_decide_eq_true (by first | (with_reducible assumption) | assumption)
                                          obtain ⟨ad193, A193_0, c193_0, e193, hx193_0, hl193_0, hi193_0⟩ := at_L1 (Kd.S_reads' HO_183002.out).2.2 (ji59) p193 q193
                                          cases e193
                                          obtain ⟨ce193, hce193, hMe193, hcc193⟩ := Kd.S_get HO_183002.out [] (ji59) p193 (by first | exact q193 | exact of_decide_eq_true (by first | (with_reducible assumption) | assumption) | (have e_ := (Kd.S_reads' HO_183002.out).1; omega))
                                          obtain ⟨ve193_0, rfl, ge193_0⟩ := hMe193
                                          have hv193_0 := hcc193 0 _ rfl
                                          rw [Nat.add_zero, show ((Kd.slice 3 (Kd.int .i64))).sz = 1 from rfl, Nat.mul_one] at hv193_0
                                          replace hv193_0 := Option.some.inj (hv193_0.symm.trans hx193_0)
                                          rw [hv193_0] at ge193_0
                                          have HL193_0 := Aside0.mk (show Kd.R (Kd.int .i64) 3 _ _ _ _ (rd_L1 x183002_1 (ji59)) from ge193_0)
                                          clear hv193_0 ge193_0
                                          have HX193_0 := Aside0.mk hx193_0
                                          clear hcc193 hce193
                                          have HR193_0 := Aside0.mk hi193_0
                                          have HC193_0 := Aside0.mk hl193_0
                                          clear hi193_0 hl193_0
                                          replace p193 := eq_true p193
                                          replace q193 := eq_true q193
                                          obtain ⟨go66, co66, eo66, gb66, gl66, cl66, HG66⟩ := Kd.S_form HO_183002.out (by have h_ : ((ji59) : Int) < ((x183002_1.length : Int) : Int) := of_decide_eq_true (by first | (with_reducible assumption) | assumption); have h2_ : 0 ≤ ((ji59) : Int) := (of_decide_eq_true (by first | (with_reducible assumption) | assumption)); omega)
                                          (first | cases eo66 | (injection eo66 with ea_ en_ ec_; (first | subst ea_ | (injection ea_ with ea_; subst ea_)); subst ec_; clear en_))
                                          have GB66 := Aside0.mk gb66
                                          have GG66 := Aside0.mk HG66
                                          clear gb66 gl66 HG66
                                          (first | simp only [add_plain] at hx193_0 | skip)
                                          obtain ⟨oki66, ce66, hcl66, hM66, hcc66, _, _, hH66⟩ := Kd.S_elem HO_183002.out [] ((ji59) : Int) (of_decide_eq_true (by first | (with_reducible assumption) | assumption)) (by have h_ : ((ji59) : Int) < ((x183002_1.length : Int) : Int) := of_decide_eq_true (by first | (with_reducible assumption) | assumption); first | exact h_ | (have e_ := (Kd.S_reads' HO_183002.out).1; omega) | simpa using h_)
                                          obtain ⟨ve66_0, rfl, ge66_0⟩ := hM66
                                          have hv66 := hcc66 0 _ rfl
                                          have hX66 := HX193_0.out
                                          (try simp only [add_plain] at hX66)
                                          (try simp only [Nat.add_zero] at hv66)
                                          (try rw [show ((Kd.slice 3 (Kd.int .i64))).sz = 1 from rfl, Nat.mul_one] at hv66)
                                          replace hv66 := Option.some.inj (hv66.symm.trans hX66)
                                          subst hv66
                                          clear hX66 hcc66 hcl66
                                          have UU66 := Aside0.mk (show Kd.R (Kd.int .i64) 3 _ w.heap.size oki66 (.slice A193_0 (rd_L1 x183002_1 (ji59)).length c193_0) (rd_L1 x183002_1 (ji59)) from ge66_0)
                                          have HH66 := Aside0.mk hH66
                                          have HN66 := Aside0.mk (Kd.S_reads' HO_183002.out).1
                                          clear hH66 ge66_0
                                          refine start_ (n := 13) (S := fun w' => w'.cell? ⟨gb182, 0, none⟩ = some (.int .i64 a1) ∧ w'.cell? ⟨gb182, 1, none⟩ = some (.int .i64 a2) ∧ w'.cell? ⟨gb182, 2, none⟩ = some (.slice (some ⟨go66, 0, none⟩) x183002_1.length co65) ∧ w'.cell? ⟨go66, ((ji59)).toNat, none⟩ = some (.slice A193_0 (rd_L1 x183002_1 (ji59)).length c193_0)) (ds := [12]) #[false, false, false, false, false, false, false, false, false, false, false, false, false] (by kernel_rfl) rfl rfl ⟨(blk_cell BK182.out 0).trans rfl, (blk_cell BK182.out 1).trans rfl, (blk_cell BK182.out 2).trans rfl, hx193_0⟩ (fun hHeld => ?_); refine with_tabW serinetteref06_Unbytes.tab23 serinetteref06_Unbytes.bits23 (fun HT_ HW_ => ?_)
                                          generalize wr.drew = w64 at HO_183002 BK175 BK176 BK182 HB GG66 HH66 HL193_0 HR193_0 HX193_0 UU66 hx193_0 hHeld ⊢
                                          refine pure_ (i := 0) (N := some 90) (v := ?_) (a' := ?_) #[true, false, false, false, false, false, false, false, false, false, false, false, false] rfl rfl (any_of HT_.out (by kernel_rfl)) (fun _ _ _ h => h) (Or.inl ⟨by rfl, ?_⟩) ?_ ?_
                                          rotate_left
                                          · intro w'
                                            go_simp
                                            with_reducible rfl
                                          rotate_left
                                          · simp only [Act.put, List.setIfInBounds_toArray, List.set_cons_zero, List.set_cons_succ, i64_w, i32_w]
                                            rfl
                                          refine pure_ (i := 2) (N := some 92) (v := ?_) (a' := ?_) #[true, false, true, false, false, false, false, false, false, false, false, false, false] rfl rfl (any_of HT_.out (by kernel_rfl)) (fun _ _ _ h => h) (Or.inl ⟨by rfl, ?_⟩) ?_ ?_
                                          rotate_left
                                          · intro w'
                                            go_simp
                                            with_reducible rfl
                                          rotate_left
                                          · simp only [Act.put, List.setIfInBounds_toArray, List.set_cons_zero, List.set_cons_succ, i64_w, i32_w]
                                            rfl
                                          refine pure_ (i := 3) (N := some 93) (v := ?_) (a' := ?_) #[true, false, true, true, false, false, false, false, false, false, false, false, false] rfl rfl (any_of HT_.out (by kernel_rfl)) (fun _ _ _ h => h) (Or.inl ⟨by rfl, ?_⟩) ?_ ?_
                                          rotate_left
                                          · intro w'
                                            go_simp
                                            with_reducible rfl
                                          rotate_left
                                          · simp only [Act.put, List.setIfInBounds_toArray, List.set_cons_zero, List.set_cons_succ, i64_w, i32_w]
                                            rfl
                                          refine pure_ (i := 5) (N := some 95) (v := ?_) (a' := ?_) #[true, false, true, true, false, true, false, false, false, false, false, false, false] rfl rfl (any_of HT_.out (by kernel_rfl)) (fun _ _ _ h => h) (Or.inl ⟨by rfl, ?_⟩) ?_ ?_
                                          rotate_left
                                          · intro w'
                                            go_simp
                                            with_reducible rfl
                                          rotate_left
                                          · simp only [Act.put, List.setIfInBounds_toArray, List.set_cons_zero, List.set_cons_succ, i64_w, i32_w]
                                            rfl
                                          refine pure_ (i := 8) (N := some 98) (v := ?_) (a' := ?_) #[true, false, true, true, false, true, false, false, true, false, false, false, false] rfl rfl (any_of HT_.out (by kernel_rfl)) (fun _ _ _ h => h) (Or.inl ⟨by rfl, ?_⟩) ?_ ?_
                                          rotate_left
                                          · intro w'
                                            go_simp
                                            with_reducible rfl
                                          rotate_left
                                          · simp only [Act.put, List.setIfInBounds_toArray, List.set_cons_zero, List.set_cons_succ, i64_w, i32_w]
                                            rfl
                                          refine take_ (i := 1) (N := some 91) (v := ?_) (a' := ?_) #[true, true, true, true, false, true, false, false, true, false, false, false, false] rfl rfl (take_ofW HT_.out HW_.out (by kernel_rfl)) (fun _ _ _ h => h) (Or.inl ⟨by rfl, ?_⟩) hHeld ?_ ?_
                                          rotate_left
                                          · rintro w' ⟨s0, s1, s2, s3⟩
                                            go_simp
                                            with_reducible rfl
                                          rotate_left
                                          · simp only [Act.put, List.setIfInBounds_toArray, List.set_cons_zero, List.set_cons_succ, i64_w, i32_w]
                                            rfl
                                          refine take_ (i := 4) (N := some 94) (v := ?_) (a' := ?_) #[true, true, true, true, true, true, false, false, true, false, false, false, false] rfl rfl (take_ofW HT_.out HW_.out (by kernel_rfl)) (fun _ _ _ h => h) (Or.inl ⟨by rfl, ?_⟩) hHeld ?_ ?_
                                          rotate_left
                                          · rintro w' ⟨s0, s1, s2, s3⟩
                                            go_simp
                                            with_reducible rfl
                                          rotate_left
                                          · simp only [Act.put, List.setIfInBounds_toArray, List.set_cons_zero, List.set_cons_succ, i64_w, i32_w]
                                            rfl
                                          refine pure_ (i := 6) (N := some 96) (v := ?_) (a' := ?_) #[true, true, true, true, true, true, true, false, true, false, false, false, false] rfl rfl (any_of HT_.out (by kernel_rfl)) (fun _ _ _ h => h) (Or.inl ⟨by rfl, ?_⟩) ?_ ?_
                                          rotate_left
                                          · intro w'
                                            go_simp
                                            with_reducible rfl
                                          rotate_left
                                          · simp only [Act.put, List.setIfInBounds_toArray, List.set_cons_zero, List.set_cons_succ, i64_w, i32_w]
                                            rfl
                                          refine take_ (i := 7) (N := some 97) (v := ?_) (a' := ?_) #[true, true, true, true, true, true, true, true, true, false, false, false, false] rfl rfl (take_ofW HT_.out HW_.out (by kernel_rfl)) (fun _ _ _ h => h) (Or.inl ⟨by rfl, ?_⟩) hHeld ?_ ?_
                                          rotate_left
                                          · rintro w' ⟨s0, s1, s2, s3⟩
                                            go_simp
                                            with_reducible rfl
                                          rotate_left
                                          · simp only [Act.put, List.setIfInBounds_toArray, List.set_cons_zero, List.set_cons_succ, i64_w, i32_w]
                                            rfl
                                          refine one_ (i := 9) (N := some 99) #[true, true, true, true, true, true, true, true, true, true, false, false, false] rfl rfl (one_of HT_.out (by kernel_rfl)) (by decide) (fun K hK => ?_)
                                          refine value_ (w1 := ?_) (v := ?_) (by rfl) rfl ?_ ?_
                                          rotate_left 2
                                          · go_simp
                                            constructor
                                            · rfl
                                            · rfl
                                          refine hK.out _ _ ⟨(blk_cell (blk_alloc BK182.out _) 0).trans rfl, (blk_cell (blk_alloc BK182.out _) 1).trans rfl, (blk_cell (blk_alloc BK182.out _) 2).trans rfl, (World.cell?_alloc_lt _ _ _ (World.block_lt_of_cell? _ _ (hHeld.2.2.2))).trans (hHeld.2.2.2)⟩ (fun hHeld => ?_)
                                          clear hK K
                                          refine norm_ (a' := ?_) ?_ ?_
                                          rotate_left
                                          · show Act.put _ (some 99) _ = _
                                            simp only [Act.put, List.setIfInBounds_toArray, List.set_cons_zero, List.set_cons_succ, i64_w, i32_w]
                                            rfl
                                          refine one_ (i := 10) (N := some 100) #[true, true, true, true, true, true, true, true, true, true, true, false, false] rfl rfl (one_of HT_.out (by kernel_rfl)) (by decide) (fun K hK => ?_)
                                          refine Kd.R_append_step (Kd.int .i64) (w0 := w) w.heap.size (by rfl) (.tmp 97) (.tmp 99) 45 3 (.int .i64 0) 8 rfl Try.underlying45 info3 rfl (by decide) (by omega) (.slice A193_0 (rd_L1 x183002_1 (ji59)).length c193_0) (rd_L1 x183002_1 (ji59)) x15_2 [.int .i64 x15_2] (fun k_ => oki66 k_ ∨ ((fun _ => True)) k_ ∧ w64.heap.size ≤ k_) (fun _ => False) rfl rfl ?aP (fun _ hk => hk.elim) ?aF ?aO ?aB ?aS ?aL ?_
                                          (case aP => exact rfl)
                                          (case aB => exact (by repeat (first | (with_reducible first | exact HB.out | apply below_alloc | apply pw_below_drewN | apply below_drew1 | refine below_set ?_ GE175.out | refine below_set ?_ GE176.out | refine below_set ?_ GE182.out) | exact HB.out)))
                                          (case aF => exact (fun k_ hk => .inr ⟨trivial, hk⟩))
                                          (case aO => exact (by (with_reducible repeat (first | apply Kd.R_alloc | apply Kd.R_drewN | apply Kd.R_drew)); exact Kd.R_mono UU66.out (fun _ hk => .inl hk)))
                                          (case aS => exact (below_size (by repeat (first | (with_reducible first | exact HB.out | apply below_alloc | apply pw_below_drewN | apply below_drew1 | refine below_set ?_ GE175.out | refine below_set ?_ GE176.out | refine below_set ?_ GE182.out) | exact HB.out))))
                                          (case aL => have := LMc62.out; omega)
                                          intro v195 w67 ho hb hg hat
                                          (first | have HS3_ := cell_grown hg (hHeld.2.2.2) (by first | (rw [add_block]; exact (fun e_ => ((HL193_0.out.1 _ e_.symm).2) rfl)) | (show some (Addr.add _ _).block ≠ _; rw [add_block]; exact (fun e_ => ((HL193_0.out.1 _ e_.symm).2) rfl)) | exact (fun e_ => ((HL193_0.out.1 _ e_.symm).2) rfl)) | have HS3_ := cell_grown hg (cell_unalloc (hHeld.2.2.2) (by first | (rw [add_block]; exact Kd.S_lt HO_183002.out _ rfl) | (show (Addr.add _ _).block < _; rw [add_block]; exact Kd.S_lt HO_183002.out _ rfl) | exact Kd.S_lt HO_183002.out _ rfl)) (by first | (rw [add_block]; exact (fun e_ => ((HL193_0.out.1 _ e_.symm).2) rfl)) | (show some (Addr.add _ _).block ≠ _; rw [add_block]; exact (fun e_ => ((HL193_0.out.1 _ e_.symm).2) rfl)) | exact (fun e_ => ((HL193_0.out.1 _ e_.symm).2) rfl)))
                                          rw [← Ny194.out] at ho
                                          have n0_ := Aside0.mk (blk_grown (g := gb175) (o := .cells #[.int .i64 x176000_1, .int .i64 x176001_1, .slice none 0 0] 24 (0, 0)) (by (with_reducible repeat (first | refine blk_drewN ?_ _ | refine blk_drew ?_ | refine blk_alloc ?_ _)); exact BK175.out) hg (Kd.R_ne HL193_0.out BK175.out (by decide)))
                                          have n1_ := Aside0.mk (blk_grown (g := gb176) (o := .cells #[.int .i64 0, .int .i64 0, .slice none 0 0] 24 (0, 0)) (by (with_reducible repeat (first | refine blk_drewN ?_ _ | refine blk_drew ?_ | refine blk_alloc ?_ _)); exact BK176.out) hg (Kd.R_ne HL193_0.out BK176.out (by decide)))
                                          have n2_ := Aside0.mk (blk_grown (g := gb182) (o := .cells #[.int .i64 a1, .int .i64 a2, .slice (some ⟨go66, 0, none⟩) x183002_1.length co65] 24 (0, 0)) (by (with_reducible repeat (first | refine blk_drewN ?_ _ | refine blk_drew ?_ | refine blk_alloc ?_ _)); exact BK182.out) hg (Kd.R_ne HL193_0.out BK182.out (by decide)))
                                          have n3_ := Aside0.mk (hb)
                                          have n4_ := Aside0.mk (Kd.H_grown (Kd.H_widen (by repeat (first | exact HH66.out | refine Kd.H_alloc ?_ _ | refine Kd.H_drewN ?_ _ | refine Kd.H_drew ?_))) hg (fun k_ e_ => .inl (UU66.out.1 k_ e_)))
                                          have n5_ := Aside0.mk (ho)
                                          clear BK175
                                          clear BK176
                                          clear BK182
                                          clear HB
                                          clear HH66
                                          clear HO_183002
                                          clear UU66
                                          clear HL193_0
                                          have BK175 := n0_
                                          have BK176 := n1_
                                          have BK182 := n2_
                                          have HB := n3_
                                          have HH66 := n4_
                                          have HO196 := n5_
                                          clear n0_ n1_ n2_ n3_ n4_ n5_
                                          clear ho hb hg hat
                                          have p63 : 0 ≤ ((ji59) : Int) := of_decide_eq_true (by first | (with_reducible assumption) | assumption)
                                          have q63 : ((ji59) : Int) < ((x183002_1.length : Int) : Int) := of_decide_eq_true (by first | (with_reducible assumption) | assumption)
                                          replace p63 := eq_true p63
                                          replace q63 := eq_true q63
                                          obtain ⟨Ao70, co70, eo70⟩ := Kd.R_slice HO196.out
                                          (first | subst eo70 | (injection eo70 with f1_ f2_ f3_; have f4_ := f1_.symm; have f5_ := f3_.symm; clear f1_ f2_ f3_; subst f4_; subst f5_))
                                          obtain ⟨_, _, hraw68, _, _, hcc68, _⟩ := Kd.H_raw HH66.out (of_decide_eq_true (by first | (with_reducible assumption) | assumption)) (by have h_ : ((ji59) : Int) < ((x183002_1.length : Int) : Int) := of_decide_eq_true (by first | (with_reducible assumption) | assumption); first | exact h_ | (have e_ := (HN66.out); omega) | simpa using h_)
                                          obtain ⟨_, hfr68⟩ := Kd.H_at HH66.out (of_decide_eq_true (by first | (with_reducible assumption) | assumption)) (by have h_ : ((ji59) : Int) < ((x183002_1.length : Int) : Int) := of_decide_eq_true (by first | (with_reducible assumption) | assumption); first | exact h_ | (have e_ := (HN66.out); omega) | simpa using h_)
                                          have hx68_0 := hcc68 0 _ rfl
                                          have hf68_0 := hfr68 0
                                          (try simp only [Nat.add_zero] at hx68_0 hf68_0)
                                          (try rw [show ((Kd.slice 3 (Kd.int .i64))).sz = 1 from rfl, Nat.mul_one] at hx68_0)
                                          (try rw [show ((Kd.slice 3 (Kd.int .i64))).sz = 1 from rfl, Nat.mul_one] at hf68_0)
                                          have HP68 := Kd.S_seg0 HH66.out (of_decide_eq_true (by first | (with_reducible assumption) | assumption)) (by have h_ : ((ji59) : Int) < ((x183002_1.length : Int) : Int) := of_decide_eq_true (by first | (with_reducible assumption) | assumption); first | exact h_ | (have e_ := (HN66.out); omega) | simpa using h_) (seg := [.slice Ao70 y194.length co70]) (j := 0) (show 1 ≤ 1 from by decide) (x' := y194) (Kd.M_row HO196.out) (fun _ hk => hk)
                                          (try simp only [show ((Kd.slice 3 (Kd.int .i64))).sz = 1 from rfl, Nat.mul_one, Nat.add_zero] at HP68)
                                          clear hcc68 hfr68
                                          have HNB175_go66 := Aside0.mk (show gb175 ≠ go66 from by have h_ := Kd.R_ne hraw68 BK175.out (by decide); intro e_; exact h_ (by rw [e_]; rfl))
                                          have HNB176_go66 := Aside0.mk (show gb176 ≠ go66 from by have h_ := Kd.R_ne hraw68 BK176.out (by decide); intro e_; exact h_ (by rw [e_]; rfl))
                                          have HNB182_go66 := Aside0.mk (show gb182 ≠ go66 from by have h_ := Kd.R_ne hraw68 BK182.out (by decide); intro e_; exact h_ (by rw [e_]; rfl))
                                          have HS68 := HP68.1
                                          rw [← Ny197.out] at HS68
                                          have HQ68 := Aside0.mk HS68
                                          obtain ⟨_, hgg68⟩ := Kd.R_typed hraw68 go66 rfl
                                          have GG68_ := Aside0.mk hgg68
                                          clear HP68 HS68 hgg68
                                          refine hK.out _ _ ⟨(blk_cell BK182.out 0).trans rfl, (blk_cell BK182.out 1).trans rfl, (blk_cell BK182.out 2).trans rfl, HS3_⟩ (fun hHeld => ?_)
                                          clear hK K
                                          refine norm_ (a' := ?_) ?_ ?_
                                          rotate_left
                                          · show Act.put _ (some 100) _ = _
                                            simp only [Act.put, List.setIfInBounds_toArray, List.set_cons_zero, List.set_cons_succ, i64_w, i32_w]
                                            rfl
                                          refine pure_ (i := 11) (N := some 101) (v := ?_) (a' := ?_) #[true, true, true, true, true, true, true, true, true, true, true, true, false] rfl rfl (any_of HT_.out (by kernel_rfl)) (fun _ _ _ h => h) (Or.inl ⟨by rfl, ?_⟩) ?_ ?_
                                          rotate_left
                                          · intro w'
                                            go_simp
                                            with_reducible rfl
                                          rotate_left
                                          · simp only [Act.put, List.setIfInBounds_toArray, List.set_cons_zero, List.set_cons_succ, i64_w, i32_w]
                                            rfl
                                          refine last_ (i := 12) (N := none) #[true, true, true, true, true, true, true, true, true, true, true, true, true] rfl rfl (one_of HT_.out (by kernel_rfl)) (by decide) (fun K hK => ?_)
                                          refine skip_ (w1 := ?_) (by rfl) rfl ?_ ?_
                                          rotate_left
                                          · go_simp
                                            rfl
                                          refine hK.out _ _ ?_
                                          clear hK K
                                          refine done_ (done_of HT_.out (by kernel_rfl)) ?_
                                          try go_wp2
                                          go_roundg k2
                                          case measure => have := HK1.out; have := HK2.out; omega
                                          case rel => exact ⟨(wrap64 (x14_1 + t178)), (x176000_1), (x176001_1), (y197), (.slice (some ⟨go66, 0, none⟩) x183002_1.length co65), (by first | rfl | (simp; done) | (simp only [i64_w, i32_w]; done) | (simp [*]; done) | (simp only [i64_w, i32_w]; first | rfl | (simp; done) | (simp [*]; done))), H', ⟨by have := HK1.out; have := HK2.out; omega⟩, ⟨by (with_reducible repeat (first | apply Kd.S_alloc | apply Kd.S_drewN | apply Kd.S_drew)); exact HQ68.out⟩, ⟨by (with_reducible repeat (first | refine blk_drewN ?_ _ | refine blk_drew ?_ | refine blk_alloc ?_ _)); refine blk_far ?_ HNB175_go66.out _; (with_reducible repeat (first | refine blk_drewN ?_ _ | refine blk_drew ?_ | refine blk_alloc ?_ _)); exact BK175.out⟩, ⟨by (with_reducible repeat (first | refine blk_drewN ?_ _ | refine blk_drew ?_ | refine blk_alloc ?_ _)); refine blk_far ?_ HNB176_go66.out _; (with_reducible repeat (first | refine blk_drewN ?_ _ | refine blk_drew ?_ | refine blk_alloc ?_ _)); exact BK176.out⟩, ⟨by (with_reducible repeat (first | refine blk_drewN ?_ _ | refine blk_drew ?_ | refine blk_alloc ?_ _)); refine blk_far ?_ HNB182_go66.out _; (with_reducible repeat (first | refine blk_drewN ?_ _ | refine blk_drew ?_ | refine blk_alloc ?_ _)); exact BK182.out⟩, ⟨by repeat (first | (with_reducible first | exact HB.out | apply below_alloc | apply pw_below_drewN | apply below_drew1 | refine below_set ?_ GB66.out | refine below_set ?_ GE175.out | refine below_set ?_ GE176.out | refine below_set ?_ GE182.out) | exact HB.out)⟩⟩
                                        · rw [if_neg c62] at H
                                          exact absurd H (by simp)
                                      · rw [if_neg c61] at H
                                        exact absurd H (by simp)
                                    · rw [if_neg c60] at H
                                      exact absurd H (by simp)
                              · replace c56 := Bool.eq_false_iff.mpr c56
                                subst c56
                                have H1 : (some (0, 0, ([] : List (List Int)), 6)) = some (r1, r2, r3, r4) := by rw [if_neg (show ¬ (false = true) by decide)] at H; exact H
                                clear H
                                have H := H1
                                clear H1
                                simp only [Option.some.injEq, Prod.mk.injEq] at H
                                obtain ⟨rfl, rfl, rfl, rfl⟩ := H
                                have p184 : 0 ≤ ((ji29) : Int) := of_decide_eq_true (by first | (with_reducible assumption) | assumption)
                                have q184 : (ji29) < (l0.length : Int) := of_decide_eq_true (by first | (with_reducible assumption) | assumption)
                                obtain ⟨ad184, e184, hx184_0⟩ := Kd.at_int HR0.out (ji29) p184 q184
                                cases e184
                                replace hx184_0 := (HB.out.cell (World.block_lt_of_cell? w _ hx184_0)).trans hx184_0
                                replace p184 := eq_true p184
                                replace q184 := eq_true q184
                                go_wp2_with (first | ((with_reducible refine gate_callee (f := 16) rfl ?_); refine goesL_ (some 81) rfl rfl Try.func16 (by kernel_rfl) rfl #[.int .i64 x15_2, .int .i64 a2] rfl (by (try simp only [List.map_toArray, List.map_cons, List.map_nil]); first | done | rfl | (simp only [List.length_drop, List.length_take]; rfl)) ?_; (with_reducible refine (serinetteref06_In.calls k2 x15_2 a2 false _ A55.out).mono ?_); rintro e w' ⟨rfl, ⟨nd, rfl⟩⟩; refine ⟨_, rfl, ?_⟩; (try (rw [drewN_self wr]; generalize hq_ : World.drewN wr _ = wr; have n0_ : Aside0 (Kd.S (Kd.slice 3 (Kd.int .i64)) 45 wr w.heap.size (fun _ => True) u183002 x183002_1) := ⟨by rw [← hq_]; exact (by (with_reducible repeat (first | apply Kd.S_alloc | apply Kd.S_drewN | apply Kd.S_drew)); exact HO_183002.out)⟩; have n1_ : Aside0 (wr.heap[gb175]? = some (.cells #[.int .i64 x176000_1, .int .i64 x176001_1, .slice none 0 0] 24 (0, 0))) := ⟨by rw [← hq_]; exact (by (with_reducible repeat (first | refine blk_drewN ?_ _ | refine blk_drew ?_ | refine blk_alloc ?_ _)); exact BK175.out)⟩; have n2_ : Aside0 (wr.heap[gb176]? = some (.cells #[.int .i64 0, .int .i64 0, .slice none 0 0] 24 (0, 0))) := ⟨by rw [← hq_]; exact (by (with_reducible repeat (first | refine blk_drewN ?_ _ | refine blk_drew ?_ | refine blk_alloc ?_ _)); exact BK176.out)⟩; have n3_ : Aside0 (wr.heap[gb182]? = some (.cells #[.int .i64 a1, .int .i64 a2, u183002] 24 (0, 0))) := ⟨by rw [← hq_]; exact (by (with_reducible repeat (first | refine blk_drewN ?_ _ | refine blk_drew ?_ | refine blk_alloc ?_ _)); exact BK182.out)⟩; have n4_ : Aside0 (Below w.heap.size w wr) := ⟨by rw [← hq_]; exact (by repeat (first | (with_reducible first | exact HB.out | apply below_alloc | apply pw_below_drewN | apply below_drew1 | refine below_set ?_ GE175.out | refine below_set ?_ GE176.out | refine below_set ?_ GE182.out) | exact HB.out))⟩; clear HO_183002 BK175 BK176 BK182 HB hq_; have HO_183002 := n0_; have BK175 := n1_; have BK176 := n2_; have BK182 := n3_; have HB := n4_; clear n0_ n1_ n2_ n3_ n4_)); have hnb71 := NB176_175.out; have hnc71 := NB175_176.out; have hnb72 := NB176_182.out; have hnc72 := NB182_176.out; have hcz73_0 : wr.cell? ⟨gb176, 0, none⟩ = some (.int .i64 0) := (blk_cell BK176.out 0).trans rfl; have hcz73_1 : wr.cell? ⟨gb176, 1, none⟩ = some (.int .i64 0) := (blk_cell BK176.out 1).trans rfl; have hcz73_2 : wr.cell? ⟨gb176, 2, none⟩ = some (.slice none 0 0) := (blk_cell BK176.out 2).trans rfl; have hfz73_0 := blk_frozen BK176.out 0; have hfz73_1 := blk_frozen BK176.out 1; have hfz73_2 := blk_frozen BK176.out 2; have hnb74 := NB175_182.out; have hnc74 := NB182_175.out; have hcz75_0 : wr.cell? ⟨gb175, 0, none⟩ = some (.int .i64 x176000_1) := (blk_cell BK175.out 0).trans rfl; have hcz75_1 : wr.cell? ⟨gb175, 1, none⟩ = some (.int .i64 x176001_1) := (blk_cell BK175.out 1).trans rfl; have hcz75_2 : wr.cell? ⟨gb175, 2, none⟩ = some (.slice none 0 0) := (blk_cell BK175.out 2).trans rfl; have hfz75_0 := blk_frozen BK175.out 0; have hfz75_1 := blk_frozen BK175.out 1; have hfz75_2 := blk_frozen BK175.out 2))
                                refine bodyPost_ret (results_ct rfl _ _ gb175 24 #[.int .i64 0, .int .i64 0, .slice none 0 0] (0, 0) _ rfl (by (with_reducible repeat (first | refine blk_drewN ?_ _ | refine blk_drew ?_ | refine blk_alloc ?_ _)); refine blk_put (cs := #[.int .i64 0, .int .i64 0, .slice none 0 0]) ?_ 2 _ rfl; (with_reducible repeat (first | refine blk_drewN ?_ _ | refine blk_drew ?_ | refine blk_alloc ?_ _)); refine blk_put (cs := #[.int .i64 0, .int .i64 x176001_1, .slice none 0 0]) ?_ 1 _ rfl; (with_reducible repeat (first | refine blk_drewN ?_ _ | refine blk_drew ?_ | refine blk_alloc ?_ _)); refine blk_put (cs := #[.int .i64 x176000_1, .int .i64 x176001_1, .slice none 0 0]) ?_ 0 _ rfl; (with_reducible repeat (first | refine blk_drewN ?_ _ | refine blk_drew ?_ | refine blk_alloc ?_ _)); exact BK175.out) Try.underlying24 rfl (by kernel_rfl)) rfl ?_
                                exact ⟨_, by first | rfl | (simp [errW_none, errW_some] <;> rfl) | (simp only [← hji29]; first | rfl | (simp [errW_none, errW_some] <;> rfl)) | (simp [*, errW_none, errW_some] <;> rfl), by first | exact Kd.S_nil _ _ _ _ _ | exact Kd.N_nil _ _ _ _ _ | exact Kd.V_nil _ _ _ _ _ | exact Kd.Q_nil _ _ _ _ _ | exact Kd.R_nil _ _ _ _ _, by repeat (first | (with_reducible first | exact HB.out | apply below_alloc | apply pw_below_drewN | apply below_drew1 | refine below_set ?_ GE175.out | refine below_set ?_ GE176.out | refine below_set ?_ GE182.out) | exact HB.out)⟩
                          · rw [if_neg c31] at H
                            exact absurd H (by simp)
                        · rw [if_neg c30] at H
                          exact absurd H (by simp)
                · rw [if_neg c24] at H
                  have c24b0 : decide (x14_1 < (l0.length : Int)) = false := decide_eq_false c24
                  clear c24
                  simp only [Option.some.injEq, Prod.mk.injEq] at H
                  obtain ⟨rfl, rfl, rfl, rfl⟩ := H
                  have hnb76 := NB182_175.out
                  have hnc76 := NB175_182.out
                  have hnb77 := NB182_176.out
                  have hnc77 := NB176_182.out
                  have hcz78_0 : wr.cell? ⟨gb182, 0, none⟩ = some (.int .i64 a1) := (blk_cell BK182.out 0).trans rfl
                  have hcz78_1 : wr.cell? ⟨gb182, 1, none⟩ = some (.int .i64 a2) := (blk_cell BK182.out 1).trans rfl
                  have hcz78_2 : wr.cell? ⟨gb182, 2, none⟩ = some (u183002) := (blk_cell BK182.out 2).trans rfl
                  have hfz78_0 := blk_frozen BK182.out 0
                  have hfz78_1 := blk_frozen BK182.out 1
                  have hfz78_2 := blk_frozen BK182.out 2
                  have hnb79 := NB175_176.out
                  have hnc79 := NB176_175.out
                  have hcz80_0 : wr.cell? ⟨gb175, 0, none⟩ = some (.int .i64 x176000_1) := (blk_cell BK175.out 0).trans rfl
                  have hcz80_1 : wr.cell? ⟨gb175, 1, none⟩ = some (.int .i64 x176001_1) := (blk_cell BK175.out 1).trans rfl
                  have hcz80_2 : wr.cell? ⟨gb175, 2, none⟩ = some (.slice none 0 0) := (blk_cell BK175.out 2).trans rfl
                  have hfz80_0 := blk_frozen BK175.out 0
                  have hfz80_1 := blk_frozen BK175.out 1
                  have hfz80_2 := blk_frozen BK175.out 2
                  obtain ⟨Ao81, co81, eo81⟩ := Kd.S_slice HO_183002.out
                  subst eo81
                  go_wp2
                  refine bodyPost_ret (results_ct rfl _ _ gb175 24 #[.int .i64 a1, .int .i64 a2, .slice Ao81 x183002_1.length co81] (0, 0) _ rfl (by (with_reducible repeat (first | refine blk_drewN ?_ _ | refine blk_drew ?_ | refine blk_alloc ?_ _)); refine blk_put (cs := #[.int .i64 a1, .int .i64 a2, .slice none 0 0]) ?_ 2 _ rfl; (with_reducible repeat (first | refine blk_drewN ?_ _ | refine blk_drew ?_ | refine blk_alloc ?_ _)); refine blk_put (cs := #[.int .i64 a1, .int .i64 x176001_1, .slice none 0 0]) ?_ 1 _ rfl; (with_reducible repeat (first | refine blk_drewN ?_ _ | refine blk_drew ?_ | refine blk_alloc ?_ _)); refine blk_put (cs := #[.int .i64 x176000_1, .int .i64 x176001_1, .slice none 0 0]) ?_ 0 _ rfl; (with_reducible repeat (first | refine blk_drewN ?_ _ | refine blk_drew ?_ | refine blk_alloc ?_ _)); exact BK175.out) Try.underlying24 rfl (by kernel_rfl)) rfl ?_
                  exact ⟨_, by first | rfl | (simp [errW_none, errW_some] <;> rfl) | (simp [*, errW_none, errW_some] <;> rfl), by (with_reducible repeat (first | apply Kd.S_alloc | apply Kd.S_drewN | apply Kd.S_drew)); exact Kd.S_mono (Kd.S_far (p := ⟨gb175, 2, none⟩) (Kd.S_far (p := ⟨gb175, 1, none⟩) (Kd.S_far (p := ⟨gb175, 0, none⟩) (Kd.S_types HO_183002.out BK175.out (by decide)) (fun _ hk => hk.2) (.int .i64 a1)) (fun _ hk => hk.2) (.int .i64 a2)) (fun _ hk => hk.2) (.slice Ao81 x183002_1.length co81)) (fun _ hk => trivial), by repeat (first | (with_reducible first | exact HB.out | apply below_alloc | apply pw_below_drewN | apply below_drew1 | refine below_set ?_ GE175.out | refine below_set ?_ GE176.out | refine below_set ?_ GE182.out) | exact HB.out)⟩
          · rw [if_neg c11] at H
            exact absurd H (by simp)
        · rw [if_neg c10] at H
          exact absurd H (by simp)
      · rw [if_neg c9] at H
        have c9b0 : (((l0.length : Int) % (wrap64 (t178 * a3))) == 0) = false := beq_eq_false_iff_ne.mpr c9
        have c9b1 : (((l0.length : Int) % (wrap64 (t178 * a3))) != 0) = true := bne_iff_ne.mpr c9
        simp only [Option.some.injEq, Prod.mk.injEq] at H
        obtain ⟨rfl, rfl, rfl, rfl⟩ := H
        go_enter Try.func20, Try.ntmps20
        go_wp2_with (first | ((with_reducible refine gate_dst (N := 8) rfl ?_); refine box_event ?hg (N := 8) ?hd (cs := #[.int .i64 0, .int .i64 0, .slice none 0 0]) (t := 24) ?hr ?_; (case hd => rfl); (case hg => rfl); (case hr => first | (go_simp; done) | (go_simp; rfl)); intro gb175 hg w82 hbox hb; have n0_ := Aside0.mk (below_step (by repeat (first | (with_reducible first | exact HB.out | apply below_alloc | apply pw_below_drewN | apply below_drew1) | exact HB.out)) hb); have n1_ := Aside0.mk (hbox); have n2_ := Aside0.mk ((by rw [hg]; exact (below_size (by repeat (first | (with_reducible first | exact HB.out | apply below_alloc | apply pw_below_drewN | apply below_drew1) | exact HB.out))) : w.heap.size ≤ gb175)); have n3_ := Aside0.mk ((by rw [hg]; exact (below_size (by repeat (first | (with_reducible first | exact HB.out | apply below_alloc | apply pw_below_drewN | apply below_drew1) | exact HB.out))) : w.heap.size ≤ gb175)); clear HB; have HB := n0_; have BK175 := n1_; have GW175 := n2_; have GE175 := n3_; clear n0_ n1_ n2_ n3_; clear hb hbox hg) | ((with_reducible refine gate_dst (N := 10) rfl ?_); refine box_event ?hg (N := 10) ?hd (cs := #[.int .i64 0, .int .i64 0, .slice none 0 0]) (t := 24) ?hr ?_; (case hd => rfl); (case hg => rfl); (case hr => first | (go_simp; done) | (go_simp; rfl)); intro gb176 hg w83 hbox hb; have n0_ := Aside0.mk (blk_below (g := gb175) (o := .cells #[.int .i64 0, .int .i64 0, .slice none 0 0] 24 (0, 0)) (by (with_reducible repeat (first | refine blk_drewN ?_ _ | refine blk_drew ?_ | refine blk_alloc ?_ _)); exact BK175.out) hb); have n1_ := Aside0.mk (below_step (by repeat (first | (with_reducible first | exact HB.out | apply below_alloc | apply pw_below_drewN | apply below_drew1 | refine below_set ?_ GE175.out) | exact HB.out)) hb); have n2_ := Aside0.mk (hbox); have n3_ := Aside0.mk ((by rw [hg]; exact (below_size (by repeat (first | (with_reducible first | exact HB.out | apply below_alloc | apply pw_below_drewN | apply below_drew1 | refine below_set ?_ GE175.out) | exact HB.out))) : w.heap.size ≤ gb176)); have n4_ := Aside0.mk ((by rw [hg]; exact (below_size (by repeat (first | (with_reducible first | exact HB.out | apply below_alloc | apply pw_below_drewN | apply below_drew1 | refine below_set ?_ GE175.out) | exact HB.out))) : w.heap.size ≤ gb176)); have n5_ := Aside0.mk ((by rw [hg]; exact Nat.ne_of_lt (blk_lt (g := gb175) (o := .cells #[.int .i64 0, .int .i64 0, .slice none 0 0] 24 (0, 0)) (by (with_reducible repeat (first | refine blk_drewN ?_ _ | refine blk_drew ?_ | refine blk_alloc ?_ _)); exact BK175.out)) : gb175 ≠ gb176)); have n6_ := Aside0.mk ((by rw [hg]; exact Nat.ne_of_gt (blk_lt (g := gb175) (o := .cells #[.int .i64 0, .int .i64 0, .slice none 0 0] 24 (0, 0)) (by (with_reducible repeat (first | refine blk_drewN ?_ _ | refine blk_drew ?_ | refine blk_alloc ?_ _)); exact BK175.out)) : gb176 ≠ gb175)); clear BK175; clear HB; have BK175 := n0_; have HB := n1_; have BK176 := n2_; have GW176 := n3_; have GE176 := n4_; have NB175_176 := n5_; have NB176_175 := n6_; clear n0_ n1_ n2_ n3_ n4_ n5_ n6_; clear hb hbox hg; have hnb84 := NB176_175.out; have hnc84 := NB175_176.out; have hcz85_0 : w83.cell? ⟨gb176, 0, none⟩ = some (.int .i64 0) := (blk_cell BK176.out 0).trans rfl; have hcz85_1 : w83.cell? ⟨gb176, 1, none⟩ = some (.int .i64 0) := (blk_cell BK176.out 1).trans rfl; have hcz85_2 : w83.cell? ⟨gb176, 2, none⟩ = some (.slice none 0 0) := (blk_cell BK176.out 2).trans rfl; have hfz85_0 := blk_frozen BK176.out 0; have hfz85_1 := blk_frozen BK176.out 1; have hfz85_2 := blk_frozen BK176.out 2) | ((with_reducible refine gate_callee (f := 33) rfl ?_); refine goesL_ (some 23) rfl rfl Try.func33 (by kernel_rfl) rfl #[.int .i64 a1, .int .i64 a2, .int .i64 a3] rfl (by (try simp only [List.map_toArray, List.map_cons, List.map_nil]); first | done | rfl | (simp only [List.length_drop, List.length_take]; rfl)) ?_; (with_reducible refine (serinetteref06_wrong.calls k a1 a2 a3 t177 _ A5.out).mono ?_); rintro e w' ⟨rfl, ⟨nd, rfl⟩⟩; refine ⟨_, rfl, ?_⟩) | ((with_reducible refine gate_callee (f := 18) rfl ?_); refine goesL_ (some 29) rfl rfl Try.func18 (by kernel_rfl) rfl #[.int .i64 a2] rfl (by (try simp only [List.map_toArray, List.map_cons, List.map_nil]); first | done | rfl | (simp only [List.length_drop, List.length_take]; rfl)) ?_; (with_reducible refine (serinetteref06_Each.calls a2 t178 _ A7.out).mono ?_); rintro e w86 ⟨rfl, hb⟩; refine ⟨_, rfl, ?_⟩; have n0_ := Aside0.mk (blk_below (g := gb175) (o := .cells #[.int .i64 0, .int .i64 0, .slice none 0 0] 24 (0, 0)) (by (with_reducible repeat (first | refine blk_drewN ?_ _ | refine blk_drew ?_ | refine blk_alloc ?_ _)); refine blk_far ?_ NB175_176.out _; (with_reducible repeat (first | refine blk_drewN ?_ _ | refine blk_drew ?_ | refine blk_alloc ?_ _)); refine blk_far ?_ NB175_176.out _; (with_reducible repeat (first | refine blk_drewN ?_ _ | refine blk_drew ?_ | refine blk_alloc ?_ _)); refine blk_far ?_ NB175_176.out _; (with_reducible repeat (first | refine blk_drewN ?_ _ | refine blk_drew ?_ | refine blk_alloc ?_ _)); exact BK175.out) hb); have n1_ := Aside0.mk (blk_below (g := gb176) (o := .cells #[.int .i64 0, .int .i64 0, .slice none 0 0] 24 (0, 0)) (by (with_reducible repeat (first | refine blk_drewN ?_ _ | refine blk_drew ?_ | refine blk_alloc ?_ _)); refine blk_put (cs := #[.int .i64 0, .int .i64 0, .slice none 0 0]) ?_ 2 _ rfl; (with_reducible repeat (first | refine blk_drewN ?_ _ | refine blk_drew ?_ | refine blk_alloc ?_ _)); refine blk_put (cs := #[.int .i64 0, .int .i64 0, .slice none 0 0]) ?_ 1 _ rfl; (with_reducible repeat (first | refine blk_drewN ?_ _ | refine blk_drew ?_ | refine blk_alloc ?_ _)); refine blk_put (cs := #[.int .i64 0, .int .i64 0, .slice none 0 0]) ?_ 0 _ rfl; (with_reducible repeat (first | refine blk_drewN ?_ _ | refine blk_drew ?_ | refine blk_alloc ?_ _)); exact BK176.out) hb); have n2_ := Aside0.mk (below_step (by repeat (first | (with_reducible first | exact HB.out | apply below_alloc | apply pw_below_drewN | apply below_drew1 | refine below_set ?_ GE175.out | refine below_set ?_ GE176.out) | exact HB.out)) hb); clear BK175; clear BK176; clear HB; have BK175 := n0_; have BK176 := n1_; have HB := n2_; clear n0_ n1_ n2_; (try clear hb); (try clear hb2); (try clear hk); (try clear hi); have hcz87_0 : w86.cell? ⟨gb176, 0, none⟩ = some (.int .i64 0) := (blk_cell BK176.out 0).trans rfl; have hcz87_1 : w86.cell? ⟨gb176, 1, none⟩ = some (.int .i64 0) := (blk_cell BK176.out 1).trans rfl; have hcz87_2 : w86.cell? ⟨gb176, 2, none⟩ = some (.slice none 0 0) := (blk_cell BK176.out 2).trans rfl; have hfz87_0 := blk_frozen BK176.out 0; have hfz87_1 := blk_frozen BK176.out 1; have hfz87_2 := blk_frozen BK176.out 2; have hcz88_0 : w86.cell? ⟨gb175, 0, none⟩ = some (.int .i64 0) := (blk_cell BK175.out 0).trans rfl; have hcz88_1 : w86.cell? ⟨gb175, 1, none⟩ = some (.int .i64 0) := (blk_cell BK175.out 1).trans rfl; have hcz88_2 : w86.cell? ⟨gb175, 2, none⟩ = some (.slice none 0 0) := (blk_cell BK175.out 2).trans rfl; have hfz88_0 := blk_frozen BK175.out 0; have hfz88_1 := blk_frozen BK175.out 1; have hfz88_2 := blk_frozen BK175.out 2))
        refine bodyPost_ret (results_ct rfl _ _ gb175 24 #[.int .i64 0, .int .i64 0, .slice none 0 0] (0, 0) _ rfl (by (with_reducible repeat (first | refine blk_drewN ?_ _ | refine blk_drew ?_ | refine blk_alloc ?_ _)); refine blk_put (cs := #[.int .i64 0, .int .i64 0, .slice none 0 0]) ?_ 2 _ rfl; (with_reducible repeat (first | refine blk_drewN ?_ _ | refine blk_drew ?_ | refine blk_alloc ?_ _)); refine blk_put (cs := #[.int .i64 0, .int .i64 0, .slice none 0 0]) ?_ 1 _ rfl; (with_reducible repeat (first | refine blk_drewN ?_ _ | refine blk_drew ?_ | refine blk_alloc ?_ _)); refine blk_put (cs := #[.int .i64 0, .int .i64 0, .slice none 0 0]) ?_ 0 _ rfl; (with_reducible repeat (first | refine blk_drewN ?_ _ | refine blk_drew ?_ | refine blk_alloc ?_ _)); exact BK175.out) Try.underlying24 rfl (by kernel_rfl)) rfl ?_
        exact ⟨_, by first | rfl | (simp [errW_none, errW_some] <;> rfl) | (simp [*, errW_none, errW_some] <;> rfl), by first | exact Kd.S_nil _ _ _ _ _ | exact Kd.N_nil _ _ _ _ _ | exact Kd.V_nil _ _ _ _ _ | exact Kd.Q_nil _ _ _ _ _ | exact Kd.R_nil _ _ _ _ _, by repeat (first | (with_reducible first | exact HB.out | apply below_alloc | apply pw_below_drewN | apply below_drew1 | refine below_set ?_ GE175.out | refine below_set ?_ GE176.out) | exact HB.out)⟩
  · rw [if_neg c6] at H
    have c6b0 : (t177 == 0) = false := beq_eq_false_iff_ne.mpr c6
    have c6b1 : (t177 != 0) = true := bne_iff_ne.mpr c6
    simp only [Option.some.injEq, Prod.mk.injEq] at H
    obtain ⟨rfl, rfl, rfl, rfl⟩ := H
    go_enter Try.func20, Try.ntmps20
    go_wp2_with (first | ((with_reducible refine gate_dst (N := 8) rfl ?_); refine box_event ?hg (N := 8) ?hd (cs := #[.int .i64 0, .int .i64 0, .slice none 0 0]) (t := 24) ?hr ?_; (case hd => rfl); (case hg => rfl); (case hr => first | (go_simp; done) | (go_simp; rfl)); intro gb175 hg w89 hbox hb; have n0_ := Aside0.mk (below_step (by repeat (first | (with_reducible first | exact HB.out | apply below_alloc | apply pw_below_drewN | apply below_drew1) | exact HB.out)) hb); have n1_ := Aside0.mk (hbox); have n2_ := Aside0.mk ((by rw [hg]; exact (below_size (by repeat (first | (with_reducible first | exact HB.out | apply below_alloc | apply pw_below_drewN | apply below_drew1) | exact HB.out))) : w.heap.size ≤ gb175)); have n3_ := Aside0.mk ((by rw [hg]; exact (below_size (by repeat (first | (with_reducible first | exact HB.out | apply below_alloc | apply pw_below_drewN | apply below_drew1) | exact HB.out))) : w.heap.size ≤ gb175)); clear HB; have HB := n0_; have BK175 := n1_; have GW175 := n2_; have GE175 := n3_; clear n0_ n1_ n2_ n3_; clear hb hbox hg) | ((with_reducible refine gate_dst (N := 10) rfl ?_); refine box_event ?hg (N := 10) ?hd (cs := #[.int .i64 0, .int .i64 0, .slice none 0 0]) (t := 24) ?hr ?_; (case hd => rfl); (case hg => rfl); (case hr => first | (go_simp; done) | (go_simp; rfl)); intro gb176 hg w90 hbox hb; have n0_ := Aside0.mk (blk_below (g := gb175) (o := .cells #[.int .i64 0, .int .i64 0, .slice none 0 0] 24 (0, 0)) (by (with_reducible repeat (first | refine blk_drewN ?_ _ | refine blk_drew ?_ | refine blk_alloc ?_ _)); exact BK175.out) hb); have n1_ := Aside0.mk (below_step (by repeat (first | (with_reducible first | exact HB.out | apply below_alloc | apply pw_below_drewN | apply below_drew1 | refine below_set ?_ GE175.out) | exact HB.out)) hb); have n2_ := Aside0.mk (hbox); have n3_ := Aside0.mk ((by rw [hg]; exact (below_size (by repeat (first | (with_reducible first | exact HB.out | apply below_alloc | apply pw_below_drewN | apply below_drew1 | refine below_set ?_ GE175.out) | exact HB.out))) : w.heap.size ≤ gb176)); have n4_ := Aside0.mk ((by rw [hg]; exact (below_size (by repeat (first | (with_reducible first | exact HB.out | apply below_alloc | apply pw_below_drewN | apply below_drew1 | refine below_set ?_ GE175.out) | exact HB.out))) : w.heap.size ≤ gb176)); have n5_ := Aside0.mk ((by rw [hg]; exact Nat.ne_of_lt (blk_lt (g := gb175) (o := .cells #[.int .i64 0, .int .i64 0, .slice none 0 0] 24 (0, 0)) (by (with_reducible repeat (first | refine blk_drewN ?_ _ | refine blk_drew ?_ | refine blk_alloc ?_ _)); exact BK175.out)) : gb175 ≠ gb176)); have n6_ := Aside0.mk ((by rw [hg]; exact Nat.ne_of_gt (blk_lt (g := gb175) (o := .cells #[.int .i64 0, .int .i64 0, .slice none 0 0] 24 (0, 0)) (by (with_reducible repeat (first | refine blk_drewN ?_ _ | refine blk_drew ?_ | refine blk_alloc ?_ _)); exact BK175.out)) : gb176 ≠ gb175)); clear BK175; clear HB; have BK175 := n0_; have HB := n1_; have BK176 := n2_; have GW176 := n3_; have GE176 := n4_; have NB175_176 := n5_; have NB176_175 := n6_; clear n0_ n1_ n2_ n3_ n4_ n5_ n6_; clear hb hbox hg; have hnb91 := NB176_175.out; have hnc91 := NB175_176.out; have hcz92_0 : w90.cell? ⟨gb176, 0, none⟩ = some (.int .i64 0) := (blk_cell BK176.out 0).trans rfl; have hcz92_1 : w90.cell? ⟨gb176, 1, none⟩ = some (.int .i64 0) := (blk_cell BK176.out 1).trans rfl; have hcz92_2 : w90.cell? ⟨gb176, 2, none⟩ = some (.slice none 0 0) := (blk_cell BK176.out 2).trans rfl; have hfz92_0 := blk_frozen BK176.out 0; have hfz92_1 := blk_frozen BK176.out 1; have hfz92_2 := blk_frozen BK176.out 2) | ((with_reducible refine gate_callee (f := 33) rfl ?_); refine goesL_ (some 23) rfl rfl Try.func33 (by kernel_rfl) rfl #[.int .i64 a1, .int .i64 a2, .int .i64 a3] rfl (by (try simp only [List.map_toArray, List.map_cons, List.map_nil]); first | done | rfl | (simp only [List.length_drop, List.length_take]; rfl)) ?_; (with_reducible refine (serinetteref06_wrong.calls k a1 a2 a3 t177 _ A5.out).mono ?_); rintro e w' ⟨rfl, ⟨nd, rfl⟩⟩; refine ⟨_, rfl, ?_⟩; have hcz93_0 : w90.cell? ⟨gb175, 0, none⟩ = some (.int .i64 0) := (blk_cell BK175.out 0).trans rfl; have hcz93_1 : w90.cell? ⟨gb175, 1, none⟩ = some (.int .i64 0) := (blk_cell BK175.out 1).trans rfl; have hcz93_2 : w90.cell? ⟨gb175, 2, none⟩ = some (.slice none 0 0) := (blk_cell BK175.out 2).trans rfl; have hfz93_0 := blk_frozen BK175.out 0; have hfz93_1 := blk_frozen BK175.out 1; have hfz93_2 := blk_frozen BK175.out 2))
    refine bodyPost_ret (results_ct rfl _ _ gb175 24 #[.int .i64 0, .int .i64 0, .slice none 0 0] (0, 0) _ rfl (by (with_reducible repeat (first | refine blk_drewN ?_ _ | refine blk_drew ?_ | refine blk_alloc ?_ _)); refine blk_put (cs := #[.int .i64 0, .int .i64 0, .slice none 0 0]) ?_ 2 _ rfl; (with_reducible repeat (first | refine blk_drewN ?_ _ | refine blk_drew ?_ | refine blk_alloc ?_ _)); refine blk_put (cs := #[.int .i64 0, .int .i64 0, .slice none 0 0]) ?_ 1 _ rfl; (with_reducible repeat (first | refine blk_drewN ?_ _ | refine blk_drew ?_ | refine blk_alloc ?_ _)); refine blk_put (cs := #[.int .i64 0, .int .i64 0, .slice none 0 0]) ?_ 0 _ rfl; (with_reducible repeat (first | refine blk_drewN ?_ _ | refine blk_drew ?_ | refine blk_alloc ?_ _)); refine blk_far ?_ NB175_176.out _; (with_reducible repeat (first | refine blk_drewN ?_ _ | refine blk_drew ?_ | refine blk_alloc ?_ _)); refine blk_far ?_ NB175_176.out _; (with_reducible repeat (first | refine blk_drewN ?_ _ | refine blk_drew ?_ | refine blk_alloc ?_ _)); refine blk_far ?_ NB175_176.out _; (with_reducible repeat (first | refine blk_drewN ?_ _ | refine blk_drew ?_ | refine blk_alloc ?_ _)); exact BK175.out) Try.underlying24 rfl (by kernel_rfl)) rfl ?_
    exact ⟨_, by first | rfl | (simp [errW_none, errW_some] <;> rfl) | (simp [*, errW_none, errW_some] <;> rfl), by first | exact Kd.S_nil _ _ _ _ _ | exact Kd.N_nil _ _ _ _ _ | exact Kd.V_nil _ _ _ _ _ | exact Kd.Q_nil _ _ _ _ _ | exact Kd.R_nil _ _ _ _ _, by repeat (first | (with_reducible first | exact HB.out | apply below_alloc | apply pw_below_drewN | apply below_drew1 | refine below_set ?_ GE175.out | refine below_set ?_ GE176.out) | exact HB.out)⟩

end Go.Proofs.Ytfjefocjplljcaa.PA
