/- What the law SectionBest needs, part 3: texts of this claim, merged; the row itself stands in the last part. Conditions: as each theorem says. -/
import Derived.Test.YtokdjeoecnnckaaMBestB
section
namespace Go.Proofs.Ytokdjeoecnnckaa.PA
open Go.RowKit Go.Proofs.YtokdjeoecnnckaaW.PrintWords Go.Proofs.YtokdjeoecnnckaaW.PrintLast Go.Proofs.YtokdjeoecnnckaaW.PrintMore
attribute [local go_sem] max2_int min2_int max_two min_two max_three min_three max_four min_four   -- for this text's walks alone
set_option linter.unusedVariables false
set_option linter.unusedSimpArgs false

mutual
def parts_Bits.j0 : Nat → List Int → List Int → Bool → Bool → Int → List (S50) → Option (Int)
  | 0, _, _, _, _, _, _ => none
  | k + 1, x0, x7, x31, x124000, x124001, x124002 => if x31 = true then (some (-1)) else ((parts_top.f x124000).bind fun bt127 => (parts_Bits.l0 k x0 bt127.1 bt127.2 6 x7 (x7.length : Int) 0 x124000 x124001 x124002))
def parts_Bits.l0 : Nat → List Int → Int → Int → Int → List Int → Int → Int → Bool → Int → List (S50) → Option (Int)
  | 0, _, _, _, _, _, _, _, _, _, _ => none
  | k + 1, x0, x8, x9, x10, x38, x39, x40, x124000, x124001, x124002 => if x40 < x39 then (if 0 ≤ x40 then (if x40 < (x38.length : Int) then (if x40 < (x124002.length : Int) then (if 0 ≤ (rd x38 x40) then (if (rd x38 x40) ≤ (x0.length : Int) then ((cost_Each.f k (x0.take ((rd x38 x40) : Int).toNat) ((rd_T50 x124002 x40).f0) ((rd_T50 x124002 x40).f1)).bind fun t137 => (if t137 < 0 then (some (-1)) else (if ((rd_T50 x124002 x40).f1 = true) then (parts_Bits.l0 k (x0.drop ((rd x38 x40) : Int).toNat) x8 x9 (wrap64 (x10 + (wrap64 (x9 + t137)))) x38 x39 (wrap64 (x40 + 1)) x124000 x124001 x124002) else (if ((rd_T50 x124002 x40).f0) < 0 then (some (-1)) else (if ((rd_T50 x124002 x40).f0) > x8 then (some (-1)) else (parts_Bits.l0 k (x0.drop ((rd x38 x40) : Int).toNat) x8 x9 (wrap64 (x10 + (wrap64 (x9 + t137)))) x38 x39 (wrap64 (x40 + 1)) x124000 x124001 x124002)))))) else (none)) else (none)) else (none)) else (none)) else (none)) else (some x10)
end
def parts_Bits.f (k : Nat) (l0 : List Int) (a1 : Int) (a2_0 : Bool) (a2_1 : Int) (l2_2 : List (S50)) : Option (Int) := (parts_Cuts.f k (l0.length : Int) a1 a2_1).bind fun t124 => (if (t124.length : Int) = 0 then (parts_Bits.j0 k l0 t124 true a2_0 a2_1 l2_2) else (parts_Bits.j0 k l0 t124 ((t124.length : Int) != (l2_2.length : Int)) a2_0 a2_1 l2_2))
set_option maxHeartbeats 8000000 in
set_option maxRecDepth 100000 in
theorem parts_Bits.calls (k : Nat) (P0_ : Nat → Prop) (A0 : Option Addr) (c0 : Nat) (l0 : List Int) (a1 : Int) (a2_0 : Bool) (a2_1 : Int) (A2_2 : Option Addr) (c2_2 : Nat) (l2_2 : List (S50)) (r : Int) (w : World) (hs0 : Kd.V (Kd.int .i64) 3 w w.heap.size (fun k_ => P0_ k_) (.slice A0 l0.length c0) l0) (hr2_2 : Kd.C k50 w A2_2 l2_2.length l2_2) (hc2_2 : l2_2.length ≤ c2_2) (h : parts_Bits.f k l0 a1 a2_0 a2_1 l2_2 = some r) :
    Calls Try.prog 10 #[.slice A0 l0.length c0, .int .i64 a1, .agg #[.bool a2_0, .int .i64 a2_1, .slice A2_2 l2_2.length c2_2]] w fun e w' => e = .returned (.int .i64 r) ∧ Below w.heap.size w w' := by
  have hu25 := Try.underlying25
  have hu50 := Try.underlying50
  have HO0 := zG.mk (show Kd.V (Kd.int .i64) 3 w w.heap.size (fun k_ => (P0_ k_ ∨ w.heap.size ≤ k_)) (.slice A0 l0.length c0) l0 from Kd.V_mono hs0 (fun k_ hk => .inl hk))
  have HR2_2 := zG.mk hr2_2
  have HC2_2 := zG.mk hc2_2
  clear hr2_2 hc2_2
  have HB := zG.mk (Below.refl w.heap.size w)
  have H : ((parts_Cuts.f k (l0.length : Int) a1 a2_1).bind fun t124 => (if (t124.length : Int) = 0 then (parts_Bits.j0 k l0 t124 true a2_0 a2_1 l2_2) else (parts_Bits.j0 k l0 t124 ((t124.length : Int) != (l2_2.length : Int)) a2_0 a2_1 l2_2))) = some r := h
  clear h
  replace H := Option.bind_eq_some_iff.mp H
  obtain ⟨t124, A40, H⟩ := H
  replace H : (if (t124.length : Int) = 0 then (parts_Bits.j0 k l0 t124 true a2_0 a2_1 l2_2) else (parts_Bits.j0 k l0 t124 ((t124.length : Int) != (l2_2.length : Int)) a2_0 a2_1 l2_2)) = some r := H
  have A4 := zG.mk A40
  clear A40
  have HC5 := zG.mk H
  clear H
  go_enter Try.func10, Try.ntmps10
  go_upto_region 2 with (first | ((with_reducible refine gate_dst (N := 5) rfl ?_); (try (refine gate_guard (by rfl) ?_; dsimp only)); refine box_event ?hg (N := 5) ?hd (cs := #[.bool a2_0, .int .i64 a2_1, .slice A2_2 l2_2.length c2_2]) (t := 25) ?hr ?_; (case hd => rfl); (case hg => rfl); (case hr => first | (go_simp; done) | (go_simp; rfl)); intro gb123 hg w6 hbox hb; have n0_ := zG.mk (Kd.V_below (Kd.V_elderB (by (with_reducible repeat (first | apply Kd.V_alloc | apply Kd.V_drewN | apply Kd.V_drew)); exact HO0.out) gb123 (Nat.le_of_eq hg.symm)) hb); have n1_ := zG.mk (below_step (by repeat (first | (with_reducible first | exact HB.out | apply zF | apply zC | apply zD) | exact HB.out)) hb); have n2_ := zG.mk (hbox); have n3_ := zG.mk ((by rw [hg]; exact (below_size (by repeat (first | (with_reducible first | exact HB.out | apply zF | apply zC | apply zD) | exact HB.out))) : w.heap.size ≤ gb123)); have n4_ := zG.mk ((by rw [hg]; exact (below_size (by repeat (first | (with_reducible first | exact HB.out | apply zF | apply zC | apply zD) | exact HB.out))) : w.heap.size ≤ gb123)); clear HO0; clear HB; have HO0 := n0_; have HB := n1_; have BK123 := n2_; have GW123 := n3_; have GE123 := n4_; clear n0_ n1_ n2_ n3_ n4_; clear hb hbox hg; have hcz7_0 : w6.cell? ⟨gb123, 0, none⟩ = some (.bool a2_0) := (zN BK123.out 0).trans rfl; have hcz7_1 : w6.cell? ⟨gb123, 1, none⟩ = some (.int .i64 a2_1) := (zN BK123.out 1).trans rfl; have hcz7_2 : w6.cell? ⟨gb123, 2, none⟩ = some (.slice A2_2 l2_2.length c2_2) := (zN BK123.out 2).trans rfl; have hfz7_0 := zO BK123.out 0; have hfz7_1 := zO BK123.out 1; have hfz7_2 := zO BK123.out 2) | ((with_reducible refine gate_callee (f := 28) rfl ?_); refine goesL_ (some 20) rfl rfl Try.func28 (by kernel_rfl) rfl #[.int .i64 (l0.length : Int), .int .i64 a1, .int .i64 a2_1] rfl (by (try simp only [List.map_toArray, List.map_cons, List.map_nil]); first | done | rfl | (simp only [List.length_drop, List.length_take]; rfl)) ?_; (with_reducible refine (parts_Cuts.calls k (l0.length : Int) a1 a2_1 t124 _ A4.out).mono ?_); rintro e w8 ⟨v125, rfl, ho0, hb⟩; refine ⟨_, rfl, ?_⟩; have n0_ := zG.mk (Kd.V_elder' (by (with_reducible repeat (first | apply Kd.V_alloc | apply Kd.V_drewN | apply Kd.V_drew)); exact HO0.out) (Kd.R_base ho0) hb); have n1_ := zG.mk (Kd.R_lower (Kd.R_newM (M := fun k_ => (w.heap.size ≤ k_)) ho0 (below_size (by repeat (first | (with_reducible first | exact HB.out | apply zF | apply zC | apply zD | refine zE ?_ GE123.out) | exact HB.out))) (fun k_ h_ => h_)) (below_size (by repeat (first | (with_reducible first | exact HB.out | apply zF | apply zC | apply zD | refine zE ?_ GE123.out) | exact HB.out)))); have n2_ := zG.mk (blk_below (g := gb123) (o := .cells #[.bool a2_0, .int .i64 a2_1, .slice A2_2 l2_2.length c2_2] 25 (0, 0)) (by (with_reducible repeat (first | refine zL ?_ _ | refine zM ?_ | refine zK ?_ _)); exact BK123.out) hb); have n3_ := zG.mk (below_step (by repeat (first | (with_reducible first | exact HB.out | apply zF | apply zC | apply zD | refine zE ?_ GE123.out) | exact HB.out)) hb); clear HO0; clear BK123; clear HB; have HO0 := n0_; have HO126 := n1_; have BK123 := n2_; have HB := n3_; clear n0_ n1_ n2_ n3_; (try clear hb); (try clear hb2); (try clear hk); (try clear hi); (try clear ho0)))
  (try simp only [Act.put, List.setIfInBounds_toArray, List.set_cons_zero, List.set_cons_succ])
  go_cut [31] (fun v31 wc => ∃ (kq : Nat) (x31_4 : Bool), v31 = .bool x31_4 ∧ zG (parts_Bits.j0 kq l0 t124 x31_4 a2_0 a2_1 l2_2 = some r) ∧ zG (kq ≤ k) ∧ zG (Kd.V (Kd.int .i64) 3 wc w.heap.size (fun k_ => (P0_ k_ ∨ w.heap.size ≤ k_) ∧ some k_ ≠ (v125 : Value).ownBlock ∧ k_ ≠ gb123) (.slice A0 l0.length c0) l0) ∧ zG (Kd.R (Kd.int .i64) 3 wc w.heap.size (fun k_ => (w.heap.size ≤ k_)) v125 t124) ∧ zG (wc.heap[gb123]? = some (.cells #[.bool a2_0, .int .i64 a2_1, (.slice A2_2 l2_2.length c2_2)] 25 (0, 0))) ∧ zG (Below w.heap.size w wc))
  case first =>
    have H := HC5.out
    clear HC5
    by_cases c9 : (t124.length : Int) = 0
    · rw [if_pos c9] at H
      have c9b0 : ((t124.length : Int) == 0) = true := beq_iff_eq.mpr c9
      have c9b1 : ((t124.length : Int) != 0) = false := bne_eq_false_iff_eq.mpr c9
      clear c9
      (first | rw [c9b0] | (simp only [i64_w, i32_w]; rw [c9b0]) | skip)
      have H' := zG.mk H
      clear H
      obtain ⟨Ao10, co10, eo10⟩ := Kd.R_slice HO126.out
      subst eo10
      go_wp2
      go_meet
      case rel => exact ⟨_, (true), (by first | rfl | (simp; done) | (simp only [i64_w, i32_w]; done) | (simp [*]; done) | (simp only [i64_w, i32_w]; first | rfl | (simp; done) | (simp [*]; done))), H', ⟨by first | omega | exact Nat.le_refl _⟩, ⟨by (with_reducible repeat (first | apply Kd.V_alloc | apply Kd.V_drewN | apply Kd.V_drew)); exact Kd.V_mono HO0.out (fun _ hk => ⟨hk.1.1, ⟨hk.2, hk.1.2⟩⟩)⟩, ⟨by (with_reducible repeat (first | apply Kd.zS | apply Kd.zQ | apply Kd.zR)); exact Kd.R_mono HO126.out (fun _ hk => hk.1)⟩, ⟨by (with_reducible repeat (first | refine zL ?_ _ | refine zM ?_ | refine zK ?_ _)); exact BK123.out⟩, ⟨by repeat (first | (with_reducible first | exact HB.out | apply zF | apply zC | apply zD | refine zE ?_ GE123.out) | exact HB.out)⟩⟩
    · rw [if_neg c9] at H
      have c9b0 : ((t124.length : Int) == 0) = false := beq_eq_false_iff_ne.mpr c9
      have c9b1 : ((t124.length : Int) != 0) = true := bne_iff_ne.mpr c9
      have c9b2 : ¬ (t124 = []) := fun h_ => c9 (by rw [h_]; rfl)
      (first | rw [c9b0] | (simp only [i64_w, i32_w]; rw [c9b0]) | skip)
      have H' := zG.mk H
      clear H
      obtain ⟨Ao11, co11, eo11⟩ := Kd.R_slice HO126.out
      subst eo11
      have hcz12_0 : w8.cell? ⟨gb123, 0, none⟩ = some (.bool a2_0) := (zN BK123.out 0).trans rfl
      have hcz12_1 : w8.cell? ⟨gb123, 1, none⟩ = some (.int .i64 a2_1) := (zN BK123.out 1).trans rfl
      have hcz12_2 : w8.cell? ⟨gb123, 2, none⟩ = some (.slice A2_2 l2_2.length c2_2) := (zN BK123.out 2).trans rfl
      have hfz12_0 := zO BK123.out 0
      have hfz12_1 := zO BK123.out 1
      have hfz12_2 := zO BK123.out 2
      go_wp2
      go_meet
      case rel => exact ⟨_, (((t124.length : Int) != (l2_2.length : Int))), (by first | rfl | (simp; done) | (simp only [i64_w, i32_w]; done) | (simp [*]; done) | (simp only [i64_w, i32_w]; first | rfl | (simp; done) | (simp [*]; done))), H', ⟨by first | omega | exact Nat.le_refl _⟩, ⟨by (with_reducible repeat (first | apply Kd.V_alloc | apply Kd.V_drewN | apply Kd.V_drew)); exact Kd.V_mono HO0.out (fun _ hk => ⟨hk.1.1, ⟨hk.2, hk.1.2⟩⟩)⟩, ⟨by (with_reducible repeat (first | apply Kd.zS | apply Kd.zQ | apply Kd.zR)); exact Kd.R_mono HO126.out (fun _ hk => hk.1)⟩, ⟨by (with_reducible repeat (first | refine zL ?_ _ | refine zM ?_ | refine zK ?_ _)); exact BK123.out⟩, ⟨by repeat (first | (with_reducible first | exact HB.out | apply zF | apply zC | apply zD | refine zE ?_ GE123.out) | exact HB.out)⟩⟩
  case rest =>
    clear HC5
    try clear c1
    try clear c2
    try clear p2
    try clear c9
    try clear c9b0
    try clear c9b1
    try clear c9b2
    try clear c10
    try clear hcz12_0
    try clear hcz12_1
    try clear hcz12_2
    try clear hcz7_0
    try clear hcz7_1
    try clear hcz7_2
    try clear hfz12_0
    try clear hfz12_1
    try clear hfz12_2
    try clear hfz7_0
    try clear hfz7_1
    try clear hfz7_2
    obtain ⟨kq, x31_4, rfl, HA, HJ4, HO_0, HO_7, BK123, HB⟩ := hcut
    cases kq with
    | zero => exact absurd HA.out (by simp [parts_Bits.j0])
    | succ kj4 =>
      have H := HA.out
      clear HA
      simp only [parts_Bits.j0] at H
      by_cases c13 : x31_4 = true
      · subst c13
        have H1 : (some (-1)) = some r := by rw [if_pos rfl] at H; exact H
        clear H
        have H := H1
        clear H1
        obtain rfl := Option.some.inj H
        go_wp2
        go_ret
        exact ⟨by first | rfl | (simp [errW_none, errW_some] <;> rfl) | (simp [*, errW_none, errW_some] <;> rfl), by repeat (first | (with_reducible first | exact HB.out | apply zF | apply zC | apply zD | refine zE ?_ GE123.out) | exact HB.out)⟩
      · replace c13 := Bool.eq_false_iff.mpr c13
        subst c13
        have H1 : ((parts_top.f a2_0).bind fun bt127 => (parts_Bits.l0 kj4 l0 bt127.1 bt127.2 6 t124 (t124.length : Int) 0 a2_0 a2_1 l2_2)) = some r := by rw [if_neg (show ¬ (false = true) by decide)] at H; exact H
        clear H
        have H := H1
        clear H1
        replace H := Option.bind_eq_some_iff.mp H
        obtain ⟨⟨t127, t128⟩, A140, H⟩ := H
        replace H : (parts_Bits.l0 kj4 l0 t127 t128 6 t124 (t124.length : Int) 0 a2_0 a2_1 l2_2) = some r := H
        have A14 := zG.mk A140
        clear A140
        have H' := zG.mk H
        clear H
        have hcz15_0 : wc.cell? ⟨gb123, 0, none⟩ = some (.bool a2_0) := (zN BK123.out 0).trans rfl
        have hcz15_1 : wc.cell? ⟨gb123, 1, none⟩ = some (.int .i64 a2_1) := (zN BK123.out 1).trans rfl
        have hcz15_2 : wc.cell? ⟨gb123, 2, none⟩ = some (.slice A2_2 l2_2.length c2_2) := (zN BK123.out 2).trans rfl
        have hfz15_0 := zO BK123.out 0
        have hfz15_1 := zO BK123.out 1
        have hfz15_2 := zO BK123.out 2
        go_wp2_with (first | ((with_reducible refine gate_callee (f := 29) rfl ?_); refine goesL_ (some 35) rfl rfl Try.func29 (by kernel_rfl) rfl #[.bool a2_0] rfl (by (try simp only [List.map_toArray, List.map_cons, List.map_nil]); first | done | rfl | (simp only [List.length_drop, List.length_take]; rfl)) ?_; (with_reducible refine (parts_top.calls a2_0 t127 t128 _ A14.out).mono ?_); rintro e w' ⟨rfl, ⟨nd, rfl⟩⟩; refine ⟨_, rfl, ?_⟩; obtain ⟨Ao16, co16, eo16⟩ := Kd.R_slice HO_7.out; subst eo16))
        go_loopg [0, 10, 40] kj4 (fun kq v0 v10 v40 w' => ∃ (x0_2 : List Int) (x10_2 : Int) (x40_2 : Int), v10 = .int .i64 x10_2 ∧ v40 = .int .i64 x40_2 ∧ zG (parts_Bits.l0 kq x0_2 t127 t128 x10_2 t124 (t124.length : Int) x40_2 a2_0 a2_1 l2_2 = some r) ∧ zG (kq ≤ kj4) ∧ zG (Kd.V (Kd.int .i64) 3 w' w.heap.size (fun k_ => (P0_ k_ ∨ w.heap.size ≤ k_) ∧ some k_ ≠ ((.slice Ao16 t124.length co16) : Value).ownBlock ∧ k_ ≠ gb123) v0 x0_2) ∧ zG (Kd.R (Kd.int .i64) 3 w' w.heap.size (fun k_ => (w.heap.size ≤ k_)) (.slice Ao16 t124.length co16) t124) ∧ zG (w'.heap[gb123]? = some (.cells #[.bool a2_0, .int .i64 a2_1, (.slice A2_2 l2_2.length c2_2)] 25 (0, 0))) ∧ zG (Below w.heap.size w w'))
        case atStart => exact ⟨(l0), (6), (0), (by first | rfl | (simp; done) | (simp only [i64_w, i32_w]; done) | (simp [*]; done) | (simp only [i64_w, i32_w]; first | rfl | (simp; done) | (simp [*]; done))), (by first | rfl | (simp; done) | (simp only [i64_w, i32_w]; done) | (simp [*]; done) | (simp only [i64_w, i32_w]; first | rfl | (simp; done) | (simp [*]; done))), H', ⟨Nat.le_refl _⟩, ⟨by (with_reducible repeat (first | apply Kd.V_alloc | apply Kd.V_drewN | apply Kd.V_drew)); exact HO_0.out⟩, ⟨by (with_reducible repeat (first | apply Kd.zS | apply Kd.zQ | apply Kd.zR)); exact HO_7.out⟩, ⟨by (with_reducible repeat (first | refine zL ?_ _ | refine zM ?_ | refine zK ?_ _)); exact BK123.out⟩, ⟨by repeat (first | (with_reducible first | exact HB.out | apply zF | apply zC | apply zD | refine zE ?_ GE123.out) | exact HB.out)⟩⟩
        case round =>
          clear H'
          try clear c1
          try clear c2
          try clear p2
          try clear c9
          try clear c9b0
          try clear c9b1
          try clear c9b2
          try clear c10
          try clear c13
          try clear hcz12_0
          try clear hcz12_1
          try clear hcz12_2
          try clear hcz15_0
          try clear hcz15_1
          try clear hcz15_2
          try clear hcz7_0
          try clear hcz7_1
          try clear hcz7_2
          try clear hfz12_0
          try clear hfz12_1
          try clear hfz12_2
          try clear hfz15_0
          try clear hfz15_1
          try clear hfz15_2
          try clear hfz7_0
          try clear hfz7_1
          try clear hfz7_2
          try clear p2
          obtain ⟨x0_2, x10_2, x40_2, rfl, rfl, HA, HK2, HO_0, HO_38, BK123, HB⟩ := hrel
          cases gk with
          | zero => exact absurd HA.out (by simp [parts_Bits.l0])
          | succ k2 =>
            have H := HA.out
            clear HA
            simp only [parts_Bits.l0] at H
            by_cases c17 : x40_2 < (t124.length : Int)
            · rw [if_pos c17] at H
              have c17b0 : decide (x40_2 < (t124.length : Int)) = true := decide_eq_true c17
              clear c17
              by_cases c18 : 0 ≤ x40_2
              · rw [if_pos c18] at H
                have c18b0 : decide (0 ≤ x40_2) = true := decide_eq_true c18
                clear c18
                by_cases c19 : x40_2 < (t124.length : Int)
                · rw [if_pos c19] at H
                  have c19b0 : decide (x40_2 < (t124.length : Int)) = true := decide_eq_true c19
                  clear c19
                  by_cases c20 : x40_2 < (l2_2.length : Int)
                  · rw [if_pos c20] at H
                    have c20b0 : decide (x40_2 < (l2_2.length : Int)) = true := decide_eq_true c20
                    clear c20
                    by_cases c21 : 0 ≤ (rd t124 x40_2)
                    · rw [if_pos c21] at H
                      have c21b0 := eq_true c21
                      have c21b1 : decide (0 ≤ (rd t124 x40_2)) = true := decide_eq_true c21
                      clear c21
                      by_cases c22 : (rd t124 x40_2) ≤ (x0_2.length : Int)
                      · rw [if_pos c22] at H
                        have c22b0 := eq_true c22
                        have c22b1 : decide ((rd t124 x40_2) ≤ (x0_2.length : Int)) = true := decide_eq_true c22
                        clear c22
                        obtain ⟨y132, hy132⟩ : ∃ y_ : List Int, y_ = (x0_2.take ((rd t124 x40_2) : Int).toNat) := ⟨_, rfl⟩
                        replace H : ((cost_Each.f k2 y132 ((rd_T50 l2_2 x40_2).f0) ((rd_T50 l2_2 x40_2).f1)).bind fun t137 => (if t137 < 0 then (some (-1)) else (if ((rd_T50 l2_2 x40_2).f1 = true) then (parts_Bits.l0 k2 (x0_2.drop ((rd t124 x40_2) : Int).toNat) t127 t128 (wrap64 (x10_2 + (wrap64 (t128 + t137)))) t124 (t124.length : Int) (wrap64 (x40_2 + 1)) a2_0 a2_1 l2_2) else (if ((rd_T50 l2_2 x40_2).f0) < 0 then (some (-1)) else (if ((rd_T50 l2_2 x40_2).f0) > t127 then (some (-1)) else (parts_Bits.l0 k2 (x0_2.drop ((rd t124 x40_2) : Int).toNat) t127 t128 (wrap64 (x10_2 + (wrap64 (t128 + t137)))) t124 (t124.length : Int) (wrap64 (x40_2 + 1)) a2_0 a2_1 l2_2)))))) = some r := by first | (rw [hy132]; with_reducible exact H) | (have H2_ := (Option.bind_some _ _).symm.trans H; rw [hy132]; with_reducible exact H2_) | (have H2_ := (Option.bind_some _ _).symm.trans H; with_reducible exact H2_) | with_reducible exact H | (rw [hy132]; exact H) | exact H
                        have Ny132 := zG.mk hy132
                        clear hy132
                        replace H := Option.bind_eq_some_iff.mp H
                        obtain ⟨t137, A230, H⟩ := H
                        replace H : (if t137 < 0 then (some (-1)) else (if ((rd_T50 l2_2 x40_2).f1 = true) then (parts_Bits.l0 k2 (x0_2.drop ((rd t124 x40_2) : Int).toNat) t127 t128 (wrap64 (x10_2 + (wrap64 (t128 + t137)))) t124 (t124.length : Int) (wrap64 (x40_2 + 1)) a2_0 a2_1 l2_2) else (if ((rd_T50 l2_2 x40_2).f0) < 0 then (some (-1)) else (if ((rd_T50 l2_2 x40_2).f0) > t127 then (some (-1)) else (parts_Bits.l0 k2 (x0_2.drop ((rd t124 x40_2) : Int).toNat) t127 t128 (wrap64 (x10_2 + (wrap64 (t128 + t137)))) t124 (t124.length : Int) (wrap64 (x40_2 + 1)) a2_0 a2_1 l2_2))))) = some r := H
                        have A23 := zG.mk A230
                        clear A230
                        by_cases c24 : t137 < 0
                        · rw [if_pos c24] at H
                          have c24b0 : decide (t137 < 0) = true := decide_eq_true c24
                          clear c24
                          obtain rfl := Option.some.inj H
                          have p129 : 0 ≤ (x40_2 : Int) := of_decide_eq_true (by first | (with_reducible assumption) | assumption)
                          have q129 : x40_2 < (t124.length : Int) := of_decide_eq_true (by first | (with_reducible assumption) | assumption)
                          obtain ⟨ad129, e129, hx129_0⟩ := Kd.at_int (Kd.R_reads' HO_38.out).2.2 x40_2 p129 q129
                          cases e129
                          replace p129 := eq_true p129
                          replace q129 := eq_true q129
                          have hcz25_0 : wr.cell? ⟨gb123, 0, none⟩ = some (.bool a2_0) := (zN BK123.out 0).trans rfl
                          have hcz25_1 : wr.cell? ⟨gb123, 1, none⟩ = some (.int .i64 a2_1) := (zN BK123.out 1).trans rfl
                          have hcz25_2 : wr.cell? ⟨gb123, 2, none⟩ = some (.slice A2_2 l2_2.length c2_2) := (zN BK123.out 2).trans rfl
                          have hfz25_0 := zO BK123.out 0
                          have hfz25_1 := zO BK123.out 1
                          have hfz25_2 := zO BK123.out 2
                          have p130 : 0 ≤ (x40_2 : Int) := of_decide_eq_true (by first | (with_reducible assumption) | assumption)
                          have q130 : x40_2 < (l2_2.length : Int) := of_decide_eq_true (by first | (with_reducible assumption) | assumption)
                          obtain ⟨ad130, e130, hx130_0, hx130_1⟩ := at_T50 HR2_2.out x40_2 p130 q130
                          cases e130
                          replace hx130_0 := (HB.out.cell (World.block_lt_of_cell? w _ hx130_0)).trans hx130_0
                          replace hx130_1 := (HB.out.cell (World.block_lt_of_cell? w _ hx130_1)).trans hx130_1
                          replace p130 := eq_true p130
                          replace q130 := eq_true q130
                          try go_wp2_with (first | ((with_reducible refine gate_dst (N := 13) rfl ?_); (try (refine gate_guard (by rfl) ?_; dsimp only)); refine box_event ?hg (N := 13) ?hd (cs := #[.int .i64 0, .bool false]) (t := 50) ?hr ?_; (case hd => rfl); (case hg => rfl); (case hr => first | (go_simp; done) | (go_simp; rfl)); intro gb131 hg w26 hbox hb; have n0_ := zG.mk (Kd.V_below (Kd.V_elderB (by (with_reducible repeat (first | apply Kd.V_alloc | apply Kd.V_drewN | apply Kd.V_drew)); exact HO_0.out) gb131 (Nat.le_of_eq hg.symm)) hb); have n1_ := zG.mk (Kd.R_below (by (with_reducible repeat (first | apply Kd.zS | apply Kd.zQ | apply Kd.zR)); exact HO_38.out) hb); have n2_ := zG.mk (blk_below (g := gb123) (o := .cells #[.bool a2_0, .int .i64 a2_1, .slice (some ad130) l2_2.length c2_2] 25 (0, 0)) (by (with_reducible repeat (first | refine zL ?_ _ | refine zM ?_ | refine zK ?_ _)); exact BK123.out) hb); have n3_ := zG.mk (below_step (by repeat (first | (with_reducible first | exact HB.out | apply zF | apply zC | apply zD | refine zE ?_ GE123.out) | exact HB.out)) hb); have n4_ := zG.mk (hbox); have n5_ := zG.mk ((by rw [hg]; exact (below_size (by repeat (first | (with_reducible first | exact HB.out | apply zF | apply zC | apply zD | refine zE ?_ GE123.out) | exact HB.out))) : w.heap.size ≤ gb131)); have n6_ := zG.mk ((by rw [hg]; exact (below_size (by repeat (first | (with_reducible first | exact HB.out | apply zF | apply zC | apply zD | refine zE ?_ GE123.out) | exact HB.out))) : w.heap.size ≤ gb131)); have n7_ := zG.mk ((by rw [hg]; exact Nat.ne_of_lt (blk_lt (g := gb123) (o := .cells #[.bool a2_0, .int .i64 a2_1, .slice (some ad130) l2_2.length c2_2] 25 (0, 0)) (by (with_reducible repeat (first | refine zL ?_ _ | refine zM ?_ | refine zK ?_ _)); exact BK123.out)) : gb123 ≠ gb131)); have n8_ := zG.mk ((by rw [hg]; exact Nat.ne_of_gt (blk_lt (g := gb123) (o := .cells #[.bool a2_0, .int .i64 a2_1, .slice (some ad130) l2_2.length c2_2] 25 (0, 0)) (by (with_reducible repeat (first | refine zL ?_ _ | refine zM ?_ | refine zK ?_ _)); exact BK123.out)) : gb131 ≠ gb123)); clear HO_0; clear HO_38; clear BK123; clear HB; have HO_0 := n0_; have HO_38 := n1_; have BK123 := n2_; have HB := n3_; have BK131 := n4_; have GW131 := n5_; have GE131 := n6_; have NB123_131 := n7_; have NB131_123 := n8_; clear n0_ n1_ n2_ n3_ n4_ n5_ n6_ n7_ n8_; clear hb hbox hg; have hnb27 := NB131_123.out; have hnc27 := NB123_131.out; have hcz28_0 : w26.cell? ⟨gb131, 0, none⟩ = some (.int .i64 0) := (zN BK131.out 0).trans rfl; have hcz28_1 : w26.cell? ⟨gb131, 1, none⟩ = some (.bool false) := (zN BK131.out 1).trans rfl; have hfz28_0 := zO BK131.out 0; have hfz28_1 := zO BK131.out 1))
                          have n0_ : zG (Kd.V (Kd.int .i64) 3 ((w26.setCell ⟨gb131, 0, none⟩ (.int .i64 ((rd_T50 l2_2 x40_2).f0))).setCell ⟨gb131, 1, none⟩ (.bool ((rd_T50 l2_2 x40_2).f1))) w.heap.size (fun k_ => (P0_ k_ ∨ w.heap.size ≤ k_) ∧ some k_ ≠ (.slice (some ad129) t124.length co16 : Value).ownBlock ∧ k_ ≠ gb123 ∧ k_ ≠ gb131) u0 x0_2) := ⟨by (with_reducible repeat (first | apply Kd.V_alloc | apply Kd.V_drewN | apply Kd.V_drew)); exact Kd.V_mono (Kd.V_far (p := ⟨gb131, 1, none⟩) (Kd.V_far (p := ⟨gb131, 0, none⟩) (Kd.V_mono HO_0.out (fun k_ hk => (⟨hk, hk.2⟩ : _ ∧ k_ ≠ gb131))) (fun _ hk => hk.2) (.int .i64 ((rd_T50 l2_2 x40_2).f0))) (fun _ hk => hk.2) (.bool ((rd_T50 l2_2 x40_2).f1))) (fun _ hk => ⟨hk.1.1.1, ⟨hk.1.1.2.1, ⟨hk.1.1.2.2, hk.1.2⟩⟩⟩)⟩
                          have n1_ : zG (Kd.R (Kd.int .i64) 3 ((w26.setCell ⟨gb131, 0, none⟩ (.int .i64 ((rd_T50 l2_2 x40_2).f0))).setCell ⟨gb131, 1, none⟩ (.bool ((rd_T50 l2_2 x40_2).f1))) w.heap.size (fun k_ => (w.heap.size ≤ k_)) (.slice (some ad129) t124.length co16) t124) := ⟨by (with_reducible repeat (first | apply Kd.zS | apply Kd.zQ | apply Kd.zR)); exact Kd.R_mono (Kd.R_far (p := ⟨gb131, 1, none⟩) (Kd.R_far (p := ⟨gb131, 0, none⟩) (Kd.R_types HO_38.out BK131.out (by decide)) (fun _ hk => hk.2) (.int .i64 ((rd_T50 l2_2 x40_2).f0))) (fun _ hk => hk.2) (.bool ((rd_T50 l2_2 x40_2).f1))) (fun _ hk => hk.1)⟩
                          have n2_ : zG (((w26.setCell ⟨gb131, 0, none⟩ (.int .i64 ((rd_T50 l2_2 x40_2).f0))).setCell ⟨gb131, 1, none⟩ (.bool ((rd_T50 l2_2 x40_2).f1))).heap[gb123]? = some (.cells #[.bool a2_0, .int .i64 a2_1, .slice (some ad130) l2_2.length c2_2] 25 (0, 0))) := ⟨by (with_reducible repeat (first | refine zL ?_ _ | refine zM ?_ | refine zK ?_ _)); refine zP ?_ NB123_131.out _; (with_reducible repeat (first | refine zL ?_ _ | refine zM ?_ | refine zK ?_ _)); refine zP ?_ NB123_131.out _; (with_reducible repeat (first | refine zL ?_ _ | refine zM ?_ | refine zK ?_ _)); exact BK123.out⟩
                          have n3_ : zG (((w26.setCell ⟨gb131, 0, none⟩ (.int .i64 ((rd_T50 l2_2 x40_2).f0))).setCell ⟨gb131, 1, none⟩ (.bool ((rd_T50 l2_2 x40_2).f1))).heap[gb131]? = some (.cells #[.int .i64 ((rd_T50 l2_2 x40_2).f0), .bool ((rd_T50 l2_2 x40_2).f1)] 50 (0, 0))) := ⟨by (with_reducible repeat (first | refine zL ?_ _ | refine zM ?_ | refine zK ?_ _)); refine blk_put (cs := #[.int .i64 ((rd_T50 l2_2 x40_2).f0), .bool false]) ?_ 1 _ rfl; (with_reducible repeat (first | refine zL ?_ _ | refine zM ?_ | refine zK ?_ _)); refine blk_put (cs := #[.int .i64 0, .bool false]) ?_ 0 _ rfl; (with_reducible repeat (first | refine zL ?_ _ | refine zM ?_ | refine zK ?_ _)); exact BK131.out⟩
                          have n4_ : zG (Below w.heap.size w ((w26.setCell ⟨gb131, 0, none⟩ (.int .i64 ((rd_T50 l2_2 x40_2).f0))).setCell ⟨gb131, 1, none⟩ (.bool ((rd_T50 l2_2 x40_2).f1)))) := ⟨by repeat (first | (with_reducible first | exact HB.out | apply zF | apply zC | apply zD | refine zE ?_ GE123.out | refine zE ?_ GE131.out) | exact HB.out)⟩
                          (try clear HO_0)
                          (try clear HO_38)
                          (try clear BK123)
                          (try clear BK131)
                          (try clear HB)
                          generalize ((w26.setCell ⟨gb131, 0, none⟩ (.int .i64 ((rd_T50 l2_2 x40_2).f0))).setCell ⟨gb131, 1, none⟩ (.bool ((rd_T50 l2_2 x40_2).f1))) = w29 at n0_ n1_ n2_ n3_ n4_ ⊢
                          have HO_0 := n0_
                          have HO_38 := n1_
                          have BK123 := n2_
                          have BK131 := n3_
                          have HB := n4_
                          clear n0_ n1_ n2_ n3_ n4_
                          have n0_ := zG.mk (Kd.V_drew HO_0.out)
                          have n1_ := zG.mk (Kd.zR HO_38.out)
                          have n2_ := zG.mk (zM BK123.out)
                          have n3_ := zG.mk (zM BK131.out)
                          have n4_ := zG.mk (zD HB.out)
                          clear HO_0
                          clear HO_38
                          clear BK123
                          clear BK131
                          clear HB
                          have HO_0 := n0_
                          have HO_38 := n1_
                          have BK123 := n2_
                          have BK131 := n3_
                          have HB := n4_
                          clear n0_ n1_ n2_ n3_ n4_
                          obtain ⟨Ao32, co32, eo32⟩ := Kd.V_slice HO_0.out
                          (first | subst eo32 | (injection eo32 with f1_ f2_ f3_; have f4_ := f1_.symm; have f5_ := f3_.symm; clear f1_ f2_ f3_; subst f4_; subst f5_))
                          have q31 : ((rd t124 x40_2) : Int) ≤ ((x0_2.length : Int) : Int) := of_decide_eq_true (by first | (with_reducible assumption) | assumption)
                          obtain ⟨i031, hi031, _, hsz31, _⟩ := info_parts info3
                          have hroom31 : x0_2.length ≤ co32 := (Kd.V_reads' HO_0.out).2.1
                          have hC31 : Kd.F (Kd.int .i64) _ _ Ao32 x0_2.length x0_2 := (Kd.V_at (base := w.heap.size) HO_0.out).2.2
                          have hcut31 := cut_to (P := Try.prog) 22 3 .i64 Try.underlying22 hi031 Ao32 x0_2.length co32 (rd t124 x40_2) (of_decide_eq_true (by first | (with_reducible assumption) | assumption)) q31 hroom31
                          have hr31 := Kd.F_take (m := ((rd t124 x40_2) : Int).toNat) hC31 (by omega)
                          have hy31 : y132.length = ((rd t124 x40_2) : Int).toNat := (by rw [Ny132.out, List.length_take]; omega)
                          rw [← Ny132.out] at hr31
                          rw [← hy31] at hcut31
                          have HO136 := zG.mk (show Kd.V (Kd.int .i64) 3 _ w.heap.size _ (.slice Ao32 y132.length co32) y132 from Kd.V_mk (by omega) hr31)
                          have HC136 := zG.mk (show y132.length ≤ co32 from by omega)
                          clear hr31 hC31 hroom31 hi031 hsz31
                          have KY31 := zG.mk hy31
                          clear hy31
                          replace q31 := eq_true q31
                          refine start_ (n := 6) (S := fun w' => w'.cell? ⟨gb131, 0, none⟩ = some (.int .i64 ((rd_T50 l2_2 x40_2).f0)) ∧ w'.cell? ⟨gb131, 1, none⟩ = some (.bool ((rd_T50 l2_2 x40_2).f1))) (ds := []) #[false, false, false, false, false, false] (by kernel_rfl) rfl rfl ⟨(zN BK131.out 0).trans rfl, (zN BK131.out 1).trans rfl⟩ (fun hHeld => ?_)
                          generalize w29.drew = w30 at HO_0 HO_38 BK123 BK131 HB HO136 hHeld ⊢
                          refine pure_ (i := 0) (N := some 50) (v := ?_) (a' := ?_) #[true, false, false, false, false, false] rfl rfl (by kernel_rfl) (fun _ _ _ h => h) (Or.inl ⟨by rfl, ?_⟩) ?_ ?_
                          rotate_left
                          · intro w'
                            go_simp
                            with_reducible rfl
                          rotate_left
                          · simp only [Act.put, List.setIfInBounds_toArray, List.set_cons_zero, List.set_cons_succ, i64_w, i32_w]
                            rfl
                          refine pure_ (i := 1) (N := some 51) (v := ?_) (a' := ?_) #[true, true, false, false, false, false] rfl rfl (by kernel_rfl) (fun _ _ _ h => h) (Or.inl ⟨by rfl, ?_⟩) ?_ ?_
                          rotate_left
                          · intro w'
                            go_simp
                            with_reducible rfl
                          rotate_left
                          · simp only [Act.put, List.setIfInBounds_toArray, List.set_cons_zero, List.set_cons_succ, i64_w, i32_w]
                            rfl
                          refine pure_ (i := 2) (N := some 52) (v := ?_) (a' := ?_) #[true, true, true, false, false, false] rfl rfl (by kernel_rfl) (fun _ _ _ h => h) (Or.inl ⟨by rfl, ?_⟩) ?_ ?_
                          rotate_left
                          · intro w'
                            go_simp
                            with_reducible rfl
                          rotate_left
                          · simp only [Act.put, List.setIfInBounds_toArray, List.set_cons_zero, List.set_cons_succ, i64_w, i32_w]
                            rfl
                          refine take_ (i := 3) (N := some 53) (v := ?_) (a' := ?_) #[true, true, true, true, false, false] rfl rfl (by kernel_rfl) (fun _ _ _ h => h) (Or.inl ⟨by rfl, ?_⟩) hHeld ?_ ?_
                          rotate_left
                          · rintro w' ⟨s0, s1⟩
                            go_simp
                            with_reducible rfl
                          rotate_left
                          · simp only [Act.put, List.setIfInBounds_toArray, List.set_cons_zero, List.set_cons_succ, i64_w, i32_w]
                            rfl
                          refine one_ (i := 4) (N := some 54) #[true, true, true, true, true, false] rfl rfl (by kernel_rfl) (by decide) (fun K hK => ?_)
                          refine goes_ Try.func30 (by kernel_rfl) rfl #[.slice Ao32 y132.length co32, .agg #[.int .i64 ((rd_T50 l2_2 x40_2).f0), .bool ((rd_T50 l2_2 x40_2).f1)]] (by rfl) rfl rfl (by (try simp only [List.map_toArray, List.map_cons, List.map_nil]); first | done | rfl | (simp only [List.length_drop, List.length_take]; rfl)) ?_
                          with_reducible refine (cost_Each.calls k2 _ _ y132 ((rd_T50 l2_2 x40_2).f0) ((rd_T50 l2_2 x40_2).f1) t137 _ ?side1 ?side2 A23.out).mono ?_
                          (case side1 => repeat (first | exact (Kd.V_reads' HO136.out).2.2 | (with_reducible refine Kd.zV ?_ _) | (with_reducible refine Kd.zT ?_ _) | (with_reducible refine Kd.zU ?_)))
                          (case side2 => exact (Kd.V_reads' HO136.out).2.1)
                          rintro e w33 ⟨rfl, hb⟩
                          refine ⟨_, rfl, ?_⟩
                          have n0_ := zG.mk (Kd.V_below (by (with_reducible repeat (first | apply Kd.V_alloc | apply Kd.V_drewN | apply Kd.V_drew)); exact HO_0.out) hb)
                          have n1_ := zG.mk (Kd.R_below (by (with_reducible repeat (first | apply Kd.zS | apply Kd.zQ | apply Kd.zR)); exact HO_38.out) hb)
                          have n2_ := zG.mk (Kd.V_below (by (with_reducible repeat (first | apply Kd.V_alloc | apply Kd.V_drewN | apply Kd.V_drew)); exact HO136.out) hb)
                          have n3_ := zG.mk (blk_below (g := gb123) (o := .cells #[.bool a2_0, .int .i64 a2_1, .slice (some ad130) l2_2.length c2_2] 25 (0, 0)) (by (with_reducible repeat (first | refine zL ?_ _ | refine zM ?_ | refine zK ?_ _)); exact BK123.out) hb)
                          have n4_ := zG.mk (blk_below (g := gb131) (o := .cells #[.int .i64 ((rd_T50 l2_2 x40_2).f0), .bool ((rd_T50 l2_2 x40_2).f1)] 50 (0, 0)) (by (with_reducible repeat (first | refine zL ?_ _ | refine zM ?_ | refine zK ?_ _)); exact BK131.out) hb)
                          have n5_ := zG.mk (below_step (by repeat (first | (with_reducible first | exact HB.out | apply zF | apply zC | apply zD | refine zE ?_ GE123.out | refine zE ?_ GE131.out) | exact HB.out)) hb)
                          clear HO_0
                          clear HO_38
                          clear HO136
                          clear BK123
                          clear BK131
                          clear HB
                          have HO_0 := n0_
                          have HO_38 := n1_
                          have HO136 := n2_
                          have BK123 := n3_
                          have BK131 := n4_
                          have HB := n5_
                          clear n0_ n1_ n2_ n3_ n4_ n5_
                          (try clear hb)
                          (try clear hb2)
                          (try clear hk)
                          (try clear hi)
                          refine hK.out _ _ ⟨(zN BK131.out 0).trans rfl, (zN BK131.out 1).trans rfl⟩ (fun hHeld => ?_)
                          clear hK K
                          refine norm_ (a' := ?_) ?_ ?_
                          rotate_left
                          · show Act.put _ (some 54) _ = _
                            simp only [Act.put, List.setIfInBounds_toArray, List.set_cons_zero, List.set_cons_succ, i64_w, i32_w]
                            rfl
                          refine pure_ (i := 5) (N := some 14) (v := ?_) (a' := ?_) #[true, true, true, true, true, true] rfl rfl (by kernel_rfl) (fun _ _ _ h => h) (Or.inl ⟨by rfl, ?_⟩) ?_ ?_
                          rotate_left
                          · intro w'
                            go_simp
                            with_reducible rfl
                          rotate_left
                          · simp only [Act.put, List.setIfInBounds_toArray, List.set_cons_zero, List.set_cons_succ, i64_w, i32_w]
                            rfl
                          refine done_ (by kernel_rfl) ?_
                          try go_wp2
                          go_ret
                          exact ⟨by first | rfl | (simp [errW_none, errW_some] <;> rfl) | (simp [*, errW_none, errW_some] <;> rfl), by repeat (first | (with_reducible first | exact HB.out | apply zF | apply zC | apply zD | refine zE ?_ GE123.out | refine zE ?_ GE131.out) | exact HB.out)⟩
                        · rw [if_neg c24] at H
                          have c24b0 : decide (t137 < 0) = false := decide_eq_false c24
                          clear c24
                          obtain ⟨bq34, hbq34⟩ : ∃ b_ : Bool, b_ = ((rd_T50 l2_2 x40_2).f1) := ⟨_, rfl⟩
                          replace H : (if (bq34 = true) then (parts_Bits.l0 k2 (x0_2.drop ((rd t124 x40_2) : Int).toNat) t127 t128 (wrap64 (x10_2 + (wrap64 (t128 + t137)))) t124 (t124.length : Int) (wrap64 (x40_2 + 1)) a2_0 a2_1 l2_2) else (if ((rd_T50 l2_2 x40_2).f0) < 0 then (some (-1)) else (if ((rd_T50 l2_2 x40_2).f0) > t127 then (some (-1)) else (parts_Bits.l0 k2 (x0_2.drop ((rd t124 x40_2) : Int).toNat) t127 t128 (wrap64 (x10_2 + (wrap64 (t128 + t137)))) t124 (t124.length : Int) (wrap64 (x40_2 + 1)) a2_0 a2_1 l2_2)))) = some r := by rw [← hbq34] at H; exact H
                          have Nbq34 := zG.mk hbq34
                          clear hbq34
                          by_cases c35 : (bq34 = true)
                          · subst c35
                            have H1 : (parts_Bits.l0 k2 (x0_2.drop ((rd t124 x40_2) : Int).toNat) t127 t128 (wrap64 (x10_2 + (wrap64 (t128 + t137)))) t124 (t124.length : Int) (wrap64 (x40_2 + 1)) a2_0 a2_1 l2_2) = some r := by rw [if_pos rfl] at H; exact H
                            clear H
                            have H := H1
                            clear H1
                            have c36b0 := eq_true (of_decide_eq_true (by first | (with_reducible assumption) | assumption) : 0 ≤ (rd t124 x40_2))
                            have c37b0 := eq_true (of_decide_eq_true (by first | (with_reducible assumption) | assumption) : (rd t124 x40_2) ≤ (x0_2.length : Int))
                            obtain ⟨y138, hy138⟩ : ∃ y_ : List Int, y_ = (x0_2.drop ((rd t124 x40_2) : Int).toNat) := ⟨_, rfl⟩
                            replace H : (parts_Bits.l0 k2 y138 t127 t128 (wrap64 (x10_2 + (wrap64 (t128 + t137)))) t124 (t124.length : Int) (wrap64 (x40_2 + 1)) a2_0 a2_1 l2_2) = some r := by first | (rw [hy138]; with_reducible exact H) | (have H2_ := (Option.bind_some _ _).symm.trans H; rw [hy138]; with_reducible exact H2_) | (have H2_ := (Option.bind_some _ _).symm.trans H; with_reducible exact H2_) | with_reducible exact H | (rw [hy138]; exact H) | exact H
                            have Ny138 := zG.mk hy138
                            clear hy138
                            have H' := zG.mk H
                            clear H
                            have p129 : 0 ≤ (x40_2 : Int) := of_decide_eq_true (by first | (with_reducible assumption) | assumption)
                            have q129 : x40_2 < (t124.length : Int) := of_decide_eq_true (by first | (with_reducible assumption) | assumption)
                            obtain ⟨ad129, e129, hx129_0⟩ := Kd.at_int (Kd.R_reads' HO_38.out).2.2 x40_2 p129 q129
                            cases e129
                            replace p129 := eq_true p129
                            replace q129 := eq_true q129
                            have hcz38_0 : wr.cell? ⟨gb123, 0, none⟩ = some (.bool a2_0) := (zN BK123.out 0).trans rfl
                            have hcz38_1 : wr.cell? ⟨gb123, 1, none⟩ = some (.int .i64 a2_1) := (zN BK123.out 1).trans rfl
                            have hcz38_2 : wr.cell? ⟨gb123, 2, none⟩ = some (.slice A2_2 l2_2.length c2_2) := (zN BK123.out 2).trans rfl
                            have hfz38_0 := zO BK123.out 0
                            have hfz38_1 := zO BK123.out 1
                            have hfz38_2 := zO BK123.out 2
                            have p130 : 0 ≤ (x40_2 : Int) := of_decide_eq_true (by first | (with_reducible assumption) | assumption)
                            have q130 : x40_2 < (l2_2.length : Int) := of_decide_eq_true (by first | (with_reducible assumption) | assumption)
                            obtain ⟨ad130, e130, hx130_0, hx130_1⟩ := at_T50 HR2_2.out x40_2 p130 q130
                            (try rw [← Nbq34.out] at hx130_1)
                            cases e130
                            replace hx130_0 := (HB.out.cell (World.block_lt_of_cell? w _ hx130_0)).trans hx130_0
                            replace hx130_1 := (HB.out.cell (World.block_lt_of_cell? w _ hx130_1)).trans hx130_1
                            replace p130 := eq_true p130
                            replace q130 := eq_true q130
                            try go_wp2_with (first | ((with_reducible refine gate_dst (N := 13) rfl ?_); (try (refine gate_guard (by rfl) ?_; dsimp only)); refine box_event ?hg (N := 13) ?hd (cs := #[.int .i64 0, .bool false]) (t := 50) ?hr ?_; (case hd => rfl); (case hg => rfl); (case hr => first | (go_simp; done) | (go_simp; rfl)); intro gb131 hg w39 hbox hb; have n0_ := zG.mk (Kd.V_below (Kd.V_elderB (by (with_reducible repeat (first | apply Kd.V_alloc | apply Kd.V_drewN | apply Kd.V_drew)); exact HO_0.out) gb131 (Nat.le_of_eq hg.symm)) hb); have n1_ := zG.mk (Kd.R_below (by (with_reducible repeat (first | apply Kd.zS | apply Kd.zQ | apply Kd.zR)); exact HO_38.out) hb); have n2_ := zG.mk (blk_below (g := gb123) (o := .cells #[.bool a2_0, .int .i64 a2_1, .slice (some ad130) l2_2.length c2_2] 25 (0, 0)) (by (with_reducible repeat (first | refine zL ?_ _ | refine zM ?_ | refine zK ?_ _)); exact BK123.out) hb); have n3_ := zG.mk (below_step (by repeat (first | (with_reducible first | exact HB.out | apply zF | apply zC | apply zD | refine zE ?_ GE123.out) | exact HB.out)) hb); have n4_ := zG.mk (hbox); have n5_ := zG.mk ((by rw [hg]; exact (below_size (by repeat (first | (with_reducible first | exact HB.out | apply zF | apply zC | apply zD | refine zE ?_ GE123.out) | exact HB.out))) : w.heap.size ≤ gb131)); have n6_ := zG.mk ((by rw [hg]; exact (below_size (by repeat (first | (with_reducible first | exact HB.out | apply zF | apply zC | apply zD | refine zE ?_ GE123.out) | exact HB.out))) : w.heap.size ≤ gb131)); have n7_ := zG.mk ((by rw [hg]; exact Nat.ne_of_lt (blk_lt (g := gb123) (o := .cells #[.bool a2_0, .int .i64 a2_1, .slice (some ad130) l2_2.length c2_2] 25 (0, 0)) (by (with_reducible repeat (first | refine zL ?_ _ | refine zM ?_ | refine zK ?_ _)); exact BK123.out)) : gb123 ≠ gb131)); have n8_ := zG.mk ((by rw [hg]; exact Nat.ne_of_gt (blk_lt (g := gb123) (o := .cells #[.bool a2_0, .int .i64 a2_1, .slice (some ad130) l2_2.length c2_2] 25 (0, 0)) (by (with_reducible repeat (first | refine zL ?_ _ | refine zM ?_ | refine zK ?_ _)); exact BK123.out)) : gb131 ≠ gb123)); clear HO_0; clear HO_38; clear BK123; clear HB; have HO_0 := n0_; have HO_38 := n1_; have BK123 := n2_; have HB := n3_; have BK131 := n4_; have GW131 := n5_; have GE131 := n6_; have NB123_131 := n7_; have NB131_123 := n8_; clear n0_ n1_ n2_ n3_ n4_ n5_ n6_ n7_ n8_; clear hb hbox hg; have hnb40 := NB131_123.out; have hnc40 := NB123_131.out; have hcz41_0 : w39.cell? ⟨gb131, 0, none⟩ = some (.int .i64 0) := (zN BK131.out 0).trans rfl; have hcz41_1 : w39.cell? ⟨gb131, 1, none⟩ = some (.bool false) := (zN BK131.out 1).trans rfl; have hfz41_0 := zO BK131.out 0; have hfz41_1 := zO BK131.out 1))
                            have n0_ : zG (Kd.V (Kd.int .i64) 3 ((w39.setCell ⟨gb131, 0, none⟩ (.int .i64 ((rd_T50 l2_2 x40_2).f0))).setCell ⟨gb131, 1, none⟩ (.bool true)) w.heap.size (fun k_ => (P0_ k_ ∨ w.heap.size ≤ k_) ∧ some k_ ≠ (.slice (some ad129) t124.length co16 : Value).ownBlock ∧ k_ ≠ gb123 ∧ k_ ≠ gb131) u0 x0_2) := ⟨by (with_reducible repeat (first | apply Kd.V_alloc | apply Kd.V_drewN | apply Kd.V_drew)); exact Kd.V_mono (Kd.V_far (p := ⟨gb131, 1, none⟩) (Kd.V_far (p := ⟨gb131, 0, none⟩) (Kd.V_mono HO_0.out (fun k_ hk => (⟨hk, hk.2⟩ : _ ∧ k_ ≠ gb131))) (fun _ hk => hk.2) (.int .i64 ((rd_T50 l2_2 x40_2).f0))) (fun _ hk => hk.2) (.bool true)) (fun _ hk => ⟨hk.1.1.1, ⟨hk.1.1.2.1, ⟨hk.1.1.2.2, hk.1.2⟩⟩⟩)⟩
                            have n1_ : zG (Kd.R (Kd.int .i64) 3 ((w39.setCell ⟨gb131, 0, none⟩ (.int .i64 ((rd_T50 l2_2 x40_2).f0))).setCell ⟨gb131, 1, none⟩ (.bool true)) w.heap.size (fun k_ => (w.heap.size ≤ k_)) (.slice (some ad129) t124.length co16) t124) := ⟨by (with_reducible repeat (first | apply Kd.zS | apply Kd.zQ | apply Kd.zR)); exact Kd.R_mono (Kd.R_far (p := ⟨gb131, 1, none⟩) (Kd.R_far (p := ⟨gb131, 0, none⟩) (Kd.R_types HO_38.out BK131.out (by decide)) (fun _ hk => hk.2) (.int .i64 ((rd_T50 l2_2 x40_2).f0))) (fun _ hk => hk.2) (.bool true)) (fun _ hk => hk.1)⟩
                            have n2_ : zG (((w39.setCell ⟨gb131, 0, none⟩ (.int .i64 ((rd_T50 l2_2 x40_2).f0))).setCell ⟨gb131, 1, none⟩ (.bool true)).heap[gb123]? = some (.cells #[.bool a2_0, .int .i64 a2_1, .slice (some ad130) l2_2.length c2_2] 25 (0, 0))) := ⟨by (with_reducible repeat (first | refine zL ?_ _ | refine zM ?_ | refine zK ?_ _)); refine zP ?_ NB123_131.out _; (with_reducible repeat (first | refine zL ?_ _ | refine zM ?_ | refine zK ?_ _)); refine zP ?_ NB123_131.out _; (with_reducible repeat (first | refine zL ?_ _ | refine zM ?_ | refine zK ?_ _)); exact BK123.out⟩
                            have n3_ : zG (((w39.setCell ⟨gb131, 0, none⟩ (.int .i64 ((rd_T50 l2_2 x40_2).f0))).setCell ⟨gb131, 1, none⟩ (.bool true)).heap[gb131]? = some (.cells #[.int .i64 ((rd_T50 l2_2 x40_2).f0), .bool true] 50 (0, 0))) := ⟨by (with_reducible repeat (first | refine zL ?_ _ | refine zM ?_ | refine zK ?_ _)); refine blk_put (cs := #[.int .i64 ((rd_T50 l2_2 x40_2).f0), .bool false]) ?_ 1 _ rfl; (with_reducible repeat (first | refine zL ?_ _ | refine zM ?_ | refine zK ?_ _)); refine blk_put (cs := #[.int .i64 0, .bool false]) ?_ 0 _ rfl; (with_reducible repeat (first | refine zL ?_ _ | refine zM ?_ | refine zK ?_ _)); exact BK131.out⟩
                            have n4_ : zG (Below w.heap.size w ((w39.setCell ⟨gb131, 0, none⟩ (.int .i64 ((rd_T50 l2_2 x40_2).f0))).setCell ⟨gb131, 1, none⟩ (.bool true))) := ⟨by repeat (first | (with_reducible first | exact HB.out | apply zF | apply zC | apply zD | refine zE ?_ GE123.out | refine zE ?_ GE131.out) | exact HB.out)⟩
                            (try clear HO_0)
                            (try clear HO_38)
                            (try clear BK123)
                            (try clear BK131)
                            (try clear HB)
                            generalize ((w39.setCell ⟨gb131, 0, none⟩ (.int .i64 ((rd_T50 l2_2 x40_2).f0))).setCell ⟨gb131, 1, none⟩ (.bool true)) = w42 at n0_ n1_ n2_ n3_ n4_ ⊢
                            have HO_0 := n0_
                            have HO_38 := n1_
                            have BK123 := n2_
                            have BK131 := n3_
                            have HB := n4_
                            clear n0_ n1_ n2_ n3_ n4_
                            have n0_ := zG.mk (Kd.V_drew HO_0.out)
                            have n1_ := zG.mk (Kd.zR HO_38.out)
                            have n2_ := zG.mk (zM BK123.out)
                            have n3_ := zG.mk (zM BK131.out)
                            have n4_ := zG.mk (zD HB.out)
                            clear HO_0
                            clear HO_38
                            clear BK123
                            clear BK131
                            clear HB
                            have HO_0 := n0_
                            have HO_38 := n1_
                            have BK123 := n2_
                            have BK131 := n3_
                            have HB := n4_
                            clear n0_ n1_ n2_ n3_ n4_
                            obtain ⟨Ao45, co45, eo45⟩ := Kd.V_slice HO_0.out
                            (first | subst eo45 | (injection eo45 with f1_ f2_ f3_; have f4_ := f1_.symm; have f5_ := f3_.symm; clear f1_ f2_ f3_; subst f4_; subst f5_))
                            have q44 : ((rd t124 x40_2) : Int) ≤ ((x0_2.length : Int) : Int) := of_decide_eq_true (by first | (with_reducible assumption) | assumption)
                            obtain ⟨i044, hi044, _, hsz44, _⟩ := info_parts info3
                            have hroom44 : x0_2.length ≤ co45 := (Kd.V_reads' HO_0.out).2.1
                            have hC44 : Kd.F (Kd.int .i64) _ _ Ao45 x0_2.length x0_2 := (Kd.V_at (base := w.heap.size) HO_0.out).2.2
                            have hcut44 := cut_to (P := Try.prog) 22 3 .i64 Try.underlying22 hi044 Ao45 x0_2.length co45 (rd t124 x40_2) (of_decide_eq_true (by first | (with_reducible assumption) | assumption)) q44 hroom44
                            have hr44 := Kd.F_take (m := ((rd t124 x40_2) : Int).toNat) hC44 (by omega)
                            have hy44 : y132.length = ((rd t124 x40_2) : Int).toNat := (by rw [Ny132.out, List.length_take]; omega)
                            rw [← Ny132.out] at hr44
                            rw [← hy44] at hcut44
                            have HO136 := zG.mk (show Kd.V (Kd.int .i64) 3 _ w.heap.size _ (.slice Ao45 y132.length co45) y132 from Kd.V_mk (by omega) hr44)
                            have HC136 := zG.mk (show y132.length ≤ co45 from by omega)
                            clear hr44 hC44 hroom44 hi044 hsz44
                            have KY44 := zG.mk hy44
                            clear hy44
                            replace q44 := eq_true q44
                            refine start_ (n := 6) (S := fun w' => w'.cell? ⟨gb131, 0, none⟩ = some (.int .i64 ((rd_T50 l2_2 x40_2).f0)) ∧ w'.cell? ⟨gb131, 1, none⟩ = some (.bool true)) (ds := []) #[false, false, false, false, false, false] (by kernel_rfl) rfl rfl ⟨(zN BK131.out 0).trans rfl, (zN BK131.out 1).trans rfl⟩ (fun hHeld => ?_)
                            generalize w42.drew = w43 at HO_0 HO_38 BK123 BK131 HB HO136 hHeld ⊢
                            refine pure_ (i := 0) (N := some 50) (v := ?_) (a' := ?_) #[true, false, false, false, false, false] rfl rfl (by kernel_rfl) (fun _ _ _ h => h) (Or.inl ⟨by rfl, ?_⟩) ?_ ?_
                            rotate_left
                            · intro w'
                              go_simp
                              with_reducible rfl
                            rotate_left
                            · simp only [Act.put, List.setIfInBounds_toArray, List.set_cons_zero, List.set_cons_succ, i64_w, i32_w]
                              rfl
                            refine pure_ (i := 1) (N := some 51) (v := ?_) (a' := ?_) #[true, true, false, false, false, false] rfl rfl (by kernel_rfl) (fun _ _ _ h => h) (Or.inl ⟨by rfl, ?_⟩) ?_ ?_
                            rotate_left
                            · intro w'
                              go_simp
                              with_reducible rfl
                            rotate_left
                            · simp only [Act.put, List.setIfInBounds_toArray, List.set_cons_zero, List.set_cons_succ, i64_w, i32_w]
                              rfl
                            refine pure_ (i := 2) (N := some 52) (v := ?_) (a' := ?_) #[true, true, true, false, false, false] rfl rfl (by kernel_rfl) (fun _ _ _ h => h) (Or.inl ⟨by rfl, ?_⟩) ?_ ?_
                            rotate_left
                            · intro w'
                              go_simp
                              with_reducible rfl
                            rotate_left
                            · simp only [Act.put, List.setIfInBounds_toArray, List.set_cons_zero, List.set_cons_succ, i64_w, i32_w]
                              rfl
                            refine take_ (i := 3) (N := some 53) (v := ?_) (a' := ?_) #[true, true, true, true, false, false] rfl rfl (by kernel_rfl) (fun _ _ _ h => h) (Or.inl ⟨by rfl, ?_⟩) hHeld ?_ ?_
                            rotate_left
                            · rintro w' ⟨s0, s1⟩
                              go_simp
                              with_reducible rfl
                            rotate_left
                            · simp only [Act.put, List.setIfInBounds_toArray, List.set_cons_zero, List.set_cons_succ, i64_w, i32_w]
                              rfl
                            refine one_ (i := 4) (N := some 54) #[true, true, true, true, true, false] rfl rfl (by kernel_rfl) (by decide) (fun K hK => ?_)
                            refine goes_ Try.func30 (by kernel_rfl) rfl #[.slice Ao45 y132.length co45, .agg #[.int .i64 ((rd_T50 l2_2 x40_2).f0), .bool true]] (by rfl) rfl rfl (by (try simp only [List.map_toArray, List.map_cons, List.map_nil]); first | done | rfl | (simp only [List.length_drop, List.length_take]; rfl)) ?_
                            with_reducible refine (cost_Each.calls k2 _ _ y132 ((rd_T50 l2_2 x40_2).f0) true t137 _ ?side1 ?side2 (by first | exact A23.out | (rw [Nbq34.out]; exact A23.out))).mono ?_
                            (case side1 => repeat (first | exact (Kd.V_reads' HO136.out).2.2 | (with_reducible refine Kd.zV ?_ _) | (with_reducible refine Kd.zT ?_ _) | (with_reducible refine Kd.zU ?_)))
                            (case side2 => exact (Kd.V_reads' HO136.out).2.1)
                            rintro e w46 ⟨rfl, hb⟩
                            refine ⟨_, rfl, ?_⟩
                            have n0_ := zG.mk (Kd.V_below (by (with_reducible repeat (first | apply Kd.V_alloc | apply Kd.V_drewN | apply Kd.V_drew)); exact HO_0.out) hb)
                            have n1_ := zG.mk (Kd.R_below (by (with_reducible repeat (first | apply Kd.zS | apply Kd.zQ | apply Kd.zR)); exact HO_38.out) hb)
                            have n2_ := zG.mk (Kd.V_below (by (with_reducible repeat (first | apply Kd.V_alloc | apply Kd.V_drewN | apply Kd.V_drew)); exact HO136.out) hb)
                            have n3_ := zG.mk (blk_below (g := gb123) (o := .cells #[.bool a2_0, .int .i64 a2_1, .slice (some ad130) l2_2.length c2_2] 25 (0, 0)) (by (with_reducible repeat (first | refine zL ?_ _ | refine zM ?_ | refine zK ?_ _)); exact BK123.out) hb)
                            have n4_ := zG.mk (blk_below (g := gb131) (o := .cells #[.int .i64 ((rd_T50 l2_2 x40_2).f0), .bool true] 50 (0, 0)) (by (with_reducible repeat (first | refine zL ?_ _ | refine zM ?_ | refine zK ?_ _)); exact BK131.out) hb)
                            have n5_ := zG.mk (below_step (by repeat (first | (with_reducible first | exact HB.out | apply zF | apply zC | apply zD | refine zE ?_ GE123.out | refine zE ?_ GE131.out) | exact HB.out)) hb)
                            clear HO_0
                            clear HO_38
                            clear HO136
                            clear BK123
                            clear BK131
                            clear HB
                            have HO_0 := n0_
                            have HO_38 := n1_
                            have HO136 := n2_
                            have BK123 := n3_
                            have BK131 := n4_
                            have HB := n5_
                            clear n0_ n1_ n2_ n3_ n4_ n5_
                            (try clear hb)
                            (try clear hb2)
                            (try clear hk)
                            (try clear hi)
                            refine hK.out _ _ ⟨(zN BK131.out 0).trans rfl, (zN BK131.out 1).trans rfl⟩ (fun hHeld => ?_)
                            clear hK K
                            refine norm_ (a' := ?_) ?_ ?_
                            rotate_left
                            · show Act.put _ (some 54) _ = _
                              simp only [Act.put, List.setIfInBounds_toArray, List.set_cons_zero, List.set_cons_succ, i64_w, i32_w]
                              rfl
                            refine pure_ (i := 5) (N := some 14) (v := ?_) (a' := ?_) #[true, true, true, true, true, true] rfl rfl (by kernel_rfl) (fun _ _ _ h => h) (Or.inl ⟨by rfl, ?_⟩) ?_ ?_
                            rotate_left
                            · intro w'
                              go_simp
                              with_reducible rfl
                            rotate_left
                            · simp only [Act.put, List.setIfInBounds_toArray, List.set_cons_zero, List.set_cons_succ, i64_w, i32_w]
                              rfl
                            refine done_ (by kernel_rfl) ?_
                            have hcz47_0 : w46.cell? ⟨gb131, 0, none⟩ = some (.int .i64 ((rd_T50 l2_2 x40_2).f0)) := (zN BK131.out 0).trans rfl
                            have hcz47_1 : w46.cell? ⟨gb131, 1, none⟩ = some (.bool true) := (zN BK131.out 1).trans rfl
                            have hfz47_0 := zO BK131.out 0
                            have hfz47_1 := zO BK131.out 1
                            have q48 : ((rd t124 x40_2) : Int) ≤ ((x0_2.length : Int) : Int) := of_decide_eq_true (by first | (with_reducible assumption) | assumption)
                            obtain ⟨i048, hi048, _, hsz48, _⟩ := info_parts info3
                            have hroom48 : x0_2.length ≤ co45 := (Kd.V_reads' HO_0.out).2.1
                            have hC48 : Kd.F (Kd.int .i64) _ _ Ao45 x0_2.length x0_2 := (Kd.V_at (base := w.heap.size) HO_0.out).2.2
                            have q048 : (0 : Int) ≤ ((rd t124 x40_2) : Int) := of_decide_eq_true (by first | (with_reducible assumption) | assumption)
                            have hcut48 := cut_from (P := Try.prog) 22 3 .i64 Try.underlying22 hi048 1 hsz48 Ao45 x0_2.length co45 (rd t124 x40_2) q048 q48
                            have hr48 := Kd.F_cut (m := ((rd t124 x40_2) : Int).toNat) (c := co45) hC48 (by omega) hroom48
                            obtain ⟨A48, hA48⟩ : ∃ A1, A1 = (if co45 = ((rd t124 x40_2) : Int).toNat then Ao45 else (Ao45 : Option Addr).map (·.add (((rd t124 x40_2) : Int).toNat * 1))) := ⟨_, rfl⟩
                            obtain ⟨c48, hc48⟩ : ∃ c1, c1 = co45 - ((rd t124 x40_2) : Int).toNat := ⟨_, rfl⟩
                            have hy48 : y138.length = x0_2.length - ((rd t124 x40_2) : Int).toNat := (by rw [Ny138.out, List.length_drop] <;> omega)
                            rw [show (x0_2).drop ((rd t124 x40_2) : Int).toNat = y138 from Ny138.out.symm] at hr48
                            replace hr48 : Kd.F (Kd.int .i64) _ _ A48 y138.length y138 := (by rw [hA48]; exact hr48)
                            rw [← hy48, ← hA48, ← hc48] at hcut48
                            have HO142 := zG.mk (show Kd.V (Kd.int .i64) 3 _ w.heap.size _ (.slice A48 y138.length c48) y138 from Kd.V_mk (by rw [hy48, hc48]; exact Nat.sub_le_sub_right hroom48 _) hr48)
                            have HC142 := zG.mk (show y138.length ≤ c48 from by rw [hy48, hc48]; exact Nat.sub_le_sub_right hroom48 _)
                            clear hr48 hC48 hroom48 hi048 hsz48 hc48
                            have KY48 := zG.mk hy48
                            have KA48 := zG.mk hA48
                            clear hy48 hA48
                            replace q48 := eq_true q48
                            try go_wp2
                            go_roundg k2
                            case measure => have := HJ4.out; have := HK2.out; omega
                            case rel => exact ⟨(y138), (wrap64 (x10_2 + (wrap64 (t128 + t137)))), (wrap64 (x40_2 + 1)), (by first | rfl | (simp; done) | (simp only [i64_w, i32_w]; done) | (simp [*]; done) | (simp only [i64_w, i32_w]; first | rfl | (simp; done) | (simp [*]; done))), (by first | rfl | (simp; done) | (simp only [i64_w, i32_w]; done) | (simp [*]; done) | (simp only [i64_w, i32_w]; first | rfl | (simp; done) | (simp [*]; done))), H', ⟨by have := HJ4.out; have := HK2.out; omega⟩, ⟨by (with_reducible repeat (first | apply Kd.V_alloc | apply Kd.V_drewN | apply Kd.V_drew)); exact Kd.V_mono HO142.out (fun _ hk => ⟨hk.1, ⟨hk.2.1, hk.2.2.1⟩⟩)⟩, ⟨by (with_reducible repeat (first | apply Kd.zS | apply Kd.zQ | apply Kd.zR)); exact HO_38.out⟩, ⟨by (with_reducible repeat (first | refine zL ?_ _ | refine zM ?_ | refine zK ?_ _)); exact BK123.out⟩, ⟨by repeat (first | (with_reducible first | exact HB.out | apply zF | apply zC | apply zD | refine zE ?_ GE123.out | refine zE ?_ GE131.out) | exact HB.out)⟩⟩
                          · replace c35 := Bool.eq_false_iff.mpr c35
                            subst c35
                            have H1 : (if ((rd_T50 l2_2 x40_2).f0) < 0 then (some (-1)) else (if ((rd_T50 l2_2 x40_2).f0) > t127 then (some (-1)) else (parts_Bits.l0 k2 (x0_2.drop ((rd t124 x40_2) : Int).toNat) t127 t128 (wrap64 (x10_2 + (wrap64 (t128 + t137)))) t124 (t124.length : Int) (wrap64 (x40_2 + 1)) a2_0 a2_1 l2_2))) = some r := by rw [if_neg (show ¬ (false = true) by decide)] at H; exact H
                            clear H
                            have H := H1
                            clear H1
                            by_cases c49 : ((rd_T50 l2_2 x40_2).f0) < 0
                            · rw [if_pos c49] at H
                              have c49b0 : decide (((rd_T50 l2_2 x40_2).f0) < 0) = true := decide_eq_true c49
                              clear c49
                              obtain rfl := Option.some.inj H
                              have p129 : 0 ≤ (x40_2 : Int) := of_decide_eq_true (by first | (with_reducible assumption) | assumption)
                              have q129 : x40_2 < (t124.length : Int) := of_decide_eq_true (by first | (with_reducible assumption) | assumption)
                              obtain ⟨ad129, e129, hx129_0⟩ := Kd.at_int (Kd.R_reads' HO_38.out).2.2 x40_2 p129 q129
                              cases e129
                              replace p129 := eq_true p129
                              replace q129 := eq_true q129
                              have hcz50_0 : wr.cell? ⟨gb123, 0, none⟩ = some (.bool a2_0) := (zN BK123.out 0).trans rfl
                              have hcz50_1 : wr.cell? ⟨gb123, 1, none⟩ = some (.int .i64 a2_1) := (zN BK123.out 1).trans rfl
                              have hcz50_2 : wr.cell? ⟨gb123, 2, none⟩ = some (.slice A2_2 l2_2.length c2_2) := (zN BK123.out 2).trans rfl
                              have hfz50_0 := zO BK123.out 0
                              have hfz50_1 := zO BK123.out 1
                              have hfz50_2 := zO BK123.out 2
                              have p130 : 0 ≤ (x40_2 : Int) := of_decide_eq_true (by first | (with_reducible assumption) | assumption)
                              have q130 : x40_2 < (l2_2.length : Int) := of_decide_eq_true (by first | (with_reducible assumption) | assumption)
                              obtain ⟨ad130, e130, hx130_0, hx130_1⟩ := at_T50 HR2_2.out x40_2 p130 q130
                              (try rw [← Nbq34.out] at hx130_1)
                              cases e130
                              replace hx130_0 := (HB.out.cell (World.block_lt_of_cell? w _ hx130_0)).trans hx130_0
                              replace hx130_1 := (HB.out.cell (World.block_lt_of_cell? w _ hx130_1)).trans hx130_1
                              replace p130 := eq_true p130
                              replace q130 := eq_true q130
                              try go_wp2_with (first | ((with_reducible refine gate_dst (N := 13) rfl ?_); (try (refine gate_guard (by rfl) ?_; dsimp only)); refine box_event ?hg (N := 13) ?hd (cs := #[.int .i64 0, .bool false]) (t := 50) ?hr ?_; (case hd => rfl); (case hg => rfl); (case hr => first | (go_simp; done) | (go_simp; rfl)); intro gb131 hg w51 hbox hb; have n0_ := zG.mk (Kd.V_below (Kd.V_elderB (by (with_reducible repeat (first | apply Kd.V_alloc | apply Kd.V_drewN | apply Kd.V_drew)); exact HO_0.out) gb131 (Nat.le_of_eq hg.symm)) hb); have n1_ := zG.mk (Kd.R_below (by (with_reducible repeat (first | apply Kd.zS | apply Kd.zQ | apply Kd.zR)); exact HO_38.out) hb); have n2_ := zG.mk (blk_below (g := gb123) (o := .cells #[.bool a2_0, .int .i64 a2_1, .slice (some ad130) l2_2.length c2_2] 25 (0, 0)) (by (with_reducible repeat (first | refine zL ?_ _ | refine zM ?_ | refine zK ?_ _)); exact BK123.out) hb); have n3_ := zG.mk (below_step (by repeat (first | (with_reducible first | exact HB.out | apply zF | apply zC | apply zD | refine zE ?_ GE123.out) | exact HB.out)) hb); have n4_ := zG.mk (hbox); have n5_ := zG.mk ((by rw [hg]; exact (below_size (by repeat (first | (with_reducible first | exact HB.out | apply zF | apply zC | apply zD | refine zE ?_ GE123.out) | exact HB.out))) : w.heap.size ≤ gb131)); have n6_ := zG.mk ((by rw [hg]; exact (below_size (by repeat (first | (with_reducible first | exact HB.out | apply zF | apply zC | apply zD | refine zE ?_ GE123.out) | exact HB.out))) : w.heap.size ≤ gb131)); have n7_ := zG.mk ((by rw [hg]; exact Nat.ne_of_lt (blk_lt (g := gb123) (o := .cells #[.bool a2_0, .int .i64 a2_1, .slice (some ad130) l2_2.length c2_2] 25 (0, 0)) (by (with_reducible repeat (first | refine zL ?_ _ | refine zM ?_ | refine zK ?_ _)); exact BK123.out)) : gb123 ≠ gb131)); have n8_ := zG.mk ((by rw [hg]; exact Nat.ne_of_gt (blk_lt (g := gb123) (o := .cells #[.bool a2_0, .int .i64 a2_1, .slice (some ad130) l2_2.length c2_2] 25 (0, 0)) (by (with_reducible repeat (first | refine zL ?_ _ | refine zM ?_ | refine zK ?_ _)); exact BK123.out)) : gb131 ≠ gb123)); clear HO_0; clear HO_38; clear BK123; clear HB; have HO_0 := n0_; have HO_38 := n1_; have BK123 := n2_; have HB := n3_; have BK131 := n4_; have GW131 := n5_; have GE131 := n6_; have NB123_131 := n7_; have NB131_123 := n8_; clear n0_ n1_ n2_ n3_ n4_ n5_ n6_ n7_ n8_; clear hb hbox hg; have hnb52 := NB131_123.out; have hnc52 := NB123_131.out; have hcz53_0 : w51.cell? ⟨gb131, 0, none⟩ = some (.int .i64 0) := (zN BK131.out 0).trans rfl; have hcz53_1 : w51.cell? ⟨gb131, 1, none⟩ = some (.bool false) := (zN BK131.out 1).trans rfl; have hfz53_0 := zO BK131.out 0; have hfz53_1 := zO BK131.out 1))
                              have n0_ : zG (Kd.V (Kd.int .i64) 3 ((w51.setCell ⟨gb131, 0, none⟩ (.int .i64 ((rd_T50 l2_2 x40_2).f0))).setCell ⟨gb131, 1, none⟩ (.bool false)) w.heap.size (fun k_ => (P0_ k_ ∨ w.heap.size ≤ k_) ∧ some k_ ≠ (.slice (some ad129) t124.length co16 : Value).ownBlock ∧ k_ ≠ gb123 ∧ k_ ≠ gb131) u0 x0_2) := ⟨by (with_reducible repeat (first | apply Kd.V_alloc | apply Kd.V_drewN | apply Kd.V_drew)); exact Kd.V_mono (Kd.V_far (p := ⟨gb131, 1, none⟩) (Kd.V_far (p := ⟨gb131, 0, none⟩) (Kd.V_mono HO_0.out (fun k_ hk => (⟨hk, hk.2⟩ : _ ∧ k_ ≠ gb131))) (fun _ hk => hk.2) (.int .i64 ((rd_T50 l2_2 x40_2).f0))) (fun _ hk => hk.2) (.bool false)) (fun _ hk => ⟨hk.1.1.1, ⟨hk.1.1.2.1, ⟨hk.1.1.2.2, hk.1.2⟩⟩⟩)⟩
                              have n1_ : zG (Kd.R (Kd.int .i64) 3 ((w51.setCell ⟨gb131, 0, none⟩ (.int .i64 ((rd_T50 l2_2 x40_2).f0))).setCell ⟨gb131, 1, none⟩ (.bool false)) w.heap.size (fun k_ => (w.heap.size ≤ k_)) (.slice (some ad129) t124.length co16) t124) := ⟨by (with_reducible repeat (first | apply Kd.zS | apply Kd.zQ | apply Kd.zR)); exact Kd.R_mono (Kd.R_far (p := ⟨gb131, 1, none⟩) (Kd.R_far (p := ⟨gb131, 0, none⟩) (Kd.R_types HO_38.out BK131.out (by decide)) (fun _ hk => hk.2) (.int .i64 ((rd_T50 l2_2 x40_2).f0))) (fun _ hk => hk.2) (.bool false)) (fun _ hk => hk.1)⟩
                              have n2_ : zG (((w51.setCell ⟨gb131, 0, none⟩ (.int .i64 ((rd_T50 l2_2 x40_2).f0))).setCell ⟨gb131, 1, none⟩ (.bool false)).heap[gb123]? = some (.cells #[.bool a2_0, .int .i64 a2_1, .slice (some ad130) l2_2.length c2_2] 25 (0, 0))) := ⟨by (with_reducible repeat (first | refine zL ?_ _ | refine zM ?_ | refine zK ?_ _)); refine zP ?_ NB123_131.out _; (with_reducible repeat (first | refine zL ?_ _ | refine zM ?_ | refine zK ?_ _)); refine zP ?_ NB123_131.out _; (with_reducible repeat (first | refine zL ?_ _ | refine zM ?_ | refine zK ?_ _)); exact BK123.out⟩
                              have n3_ : zG (((w51.setCell ⟨gb131, 0, none⟩ (.int .i64 ((rd_T50 l2_2 x40_2).f0))).setCell ⟨gb131, 1, none⟩ (.bool false)).heap[gb131]? = some (.cells #[.int .i64 ((rd_T50 l2_2 x40_2).f0), .bool false] 50 (0, 0))) := ⟨by (with_reducible repeat (first | refine zL ?_ _ | refine zM ?_ | refine zK ?_ _)); refine blk_put (cs := #[.int .i64 ((rd_T50 l2_2 x40_2).f0), .bool false]) ?_ 1 _ rfl; (with_reducible repeat (first | refine zL ?_ _ | refine zM ?_ | refine zK ?_ _)); refine blk_put (cs := #[.int .i64 0, .bool false]) ?_ 0 _ rfl; (with_reducible repeat (first | refine zL ?_ _ | refine zM ?_ | refine zK ?_ _)); exact BK131.out⟩
                              have n4_ : zG (Below w.heap.size w ((w51.setCell ⟨gb131, 0, none⟩ (.int .i64 ((rd_T50 l2_2 x40_2).f0))).setCell ⟨gb131, 1, none⟩ (.bool false))) := ⟨by repeat (first | (with_reducible first | exact HB.out | apply zF | apply zC | apply zD | refine zE ?_ GE123.out | refine zE ?_ GE131.out) | exact HB.out)⟩
                              (try clear HO_0)
                              (try clear HO_38)
                              (try clear BK123)
                              (try clear BK131)
                              (try clear HB)
                              generalize ((w51.setCell ⟨gb131, 0, none⟩ (.int .i64 ((rd_T50 l2_2 x40_2).f0))).setCell ⟨gb131, 1, none⟩ (.bool false)) = w54 at n0_ n1_ n2_ n3_ n4_ ⊢
                              have HO_0 := n0_
                              have HO_38 := n1_
                              have BK123 := n2_
                              have BK131 := n3_
                              have HB := n4_
                              clear n0_ n1_ n2_ n3_ n4_
                              have n0_ := zG.mk (Kd.V_drew HO_0.out)
                              have n1_ := zG.mk (Kd.zR HO_38.out)
                              have n2_ := zG.mk (zM BK123.out)
                              have n3_ := zG.mk (zM BK131.out)
                              have n4_ := zG.mk (zD HB.out)
                              clear HO_0
                              clear HO_38
                              clear BK123
                              clear BK131
                              clear HB
                              have HO_0 := n0_
                              have HO_38 := n1_
                              have BK123 := n2_
                              have BK131 := n3_
                              have HB := n4_
                              clear n0_ n1_ n2_ n3_ n4_
                              obtain ⟨Ao57, co57, eo57⟩ := Kd.V_slice HO_0.out
                              (first | subst eo57 | (injection eo57 with f1_ f2_ f3_; have f4_ := f1_.symm; have f5_ := f3_.symm; clear f1_ f2_ f3_; subst f4_; subst f5_))
                              have q56 : ((rd t124 x40_2) : Int) ≤ ((x0_2.length : Int) : Int) := of_decide_eq_true (by first | (with_reducible assumption) | assumption)
                              obtain ⟨i056, hi056, _, hsz56, _⟩ := info_parts info3
                              have hroom56 : x0_2.length ≤ co57 := (Kd.V_reads' HO_0.out).2.1
                              have hC56 : Kd.F (Kd.int .i64) _ _ Ao57 x0_2.length x0_2 := (Kd.V_at (base := w.heap.size) HO_0.out).2.2
                              have hcut56 := cut_to (P := Try.prog) 22 3 .i64 Try.underlying22 hi056 Ao57 x0_2.length co57 (rd t124 x40_2) (of_decide_eq_true (by first | (with_reducible assumption) | assumption)) q56 hroom56
                              have hr56 := Kd.F_take (m := ((rd t124 x40_2) : Int).toNat) hC56 (by omega)
                              have hy56 : y132.length = ((rd t124 x40_2) : Int).toNat := (by rw [Ny132.out, List.length_take]; omega)
                              rw [← Ny132.out] at hr56
                              rw [← hy56] at hcut56
                              have HO136 := zG.mk (show Kd.V (Kd.int .i64) 3 _ w.heap.size _ (.slice Ao57 y132.length co57) y132 from Kd.V_mk (by omega) hr56)
                              have HC136 := zG.mk (show y132.length ≤ co57 from by omega)
                              clear hr56 hC56 hroom56 hi056 hsz56
                              have KY56 := zG.mk hy56
                              clear hy56
                              replace q56 := eq_true q56
                              refine start_ (n := 6) (S := fun w' => w'.cell? ⟨gb131, 0, none⟩ = some (.int .i64 ((rd_T50 l2_2 x40_2).f0)) ∧ w'.cell? ⟨gb131, 1, none⟩ = some (.bool false)) (ds := []) #[false, false, false, false, false, false] (by kernel_rfl) rfl rfl ⟨(zN BK131.out 0).trans rfl, (zN BK131.out 1).trans rfl⟩ (fun hHeld => ?_)
                              generalize w54.drew = w55 at HO_0 HO_38 BK123 BK131 HB HO136 hHeld ⊢
                              refine pure_ (i := 0) (N := some 50) (v := ?_) (a' := ?_) #[true, false, false, false, false, false] rfl rfl (by kernel_rfl) (fun _ _ _ h => h) (Or.inl ⟨by rfl, ?_⟩) ?_ ?_
                              rotate_left
                              · intro w'
                                go_simp
                                with_reducible rfl
                              rotate_left
                              · simp only [Act.put, List.setIfInBounds_toArray, List.set_cons_zero, List.set_cons_succ, i64_w, i32_w]
                                rfl
                              refine pure_ (i := 1) (N := some 51) (v := ?_) (a' := ?_) #[true, true, false, false, false, false] rfl rfl (by kernel_rfl) (fun _ _ _ h => h) (Or.inl ⟨by rfl, ?_⟩) ?_ ?_
                              rotate_left
                              · intro w'
                                go_simp
                                with_reducible rfl
                              rotate_left
                              · simp only [Act.put, List.setIfInBounds_toArray, List.set_cons_zero, List.set_cons_succ, i64_w, i32_w]
                                rfl
                              refine pure_ (i := 2) (N := some 52) (v := ?_) (a' := ?_) #[true, true, true, false, false, false] rfl rfl (by kernel_rfl) (fun _ _ _ h => h) (Or.inl ⟨by rfl, ?_⟩) ?_ ?_
                              rotate_left
                              · intro w'
                                go_simp
                                with_reducible rfl
                              rotate_left
                              · simp only [Act.put, List.setIfInBounds_toArray, List.set_cons_zero, List.set_cons_succ, i64_w, i32_w]
                                rfl
                              refine take_ (i := 3) (N := some 53) (v := ?_) (a' := ?_) #[true, true, true, true, false, false] rfl rfl (by kernel_rfl) (fun _ _ _ h => h) (Or.inl ⟨by rfl, ?_⟩) hHeld ?_ ?_
                              rotate_left
                              · rintro w' ⟨s0, s1⟩
                                go_simp
                                with_reducible rfl
                              rotate_left
                              · simp only [Act.put, List.setIfInBounds_toArray, List.set_cons_zero, List.set_cons_succ, i64_w, i32_w]
                                rfl
                              refine one_ (i := 4) (N := some 54) #[true, true, true, true, true, false] rfl rfl (by kernel_rfl) (by decide) (fun K hK => ?_)
                              refine goes_ Try.func30 (by kernel_rfl) rfl #[.slice Ao57 y132.length co57, .agg #[.int .i64 ((rd_T50 l2_2 x40_2).f0), .bool false]] (by rfl) rfl rfl (by (try simp only [List.map_toArray, List.map_cons, List.map_nil]); first | done | rfl | (simp only [List.length_drop, List.length_take]; rfl)) ?_
                              with_reducible refine (cost_Each.calls k2 _ _ y132 ((rd_T50 l2_2 x40_2).f0) false t137 _ ?side1 ?side2 (by first | exact A23.out | (rw [Nbq34.out]; exact A23.out))).mono ?_
                              (case side1 => repeat (first | exact (Kd.V_reads' HO136.out).2.2 | (with_reducible refine Kd.zV ?_ _) | (with_reducible refine Kd.zT ?_ _) | (with_reducible refine Kd.zU ?_)))
                              (case side2 => exact (Kd.V_reads' HO136.out).2.1)
                              rintro e w58 ⟨rfl, hb⟩
                              refine ⟨_, rfl, ?_⟩
                              have n0_ := zG.mk (Kd.V_below (by (with_reducible repeat (first | apply Kd.V_alloc | apply Kd.V_drewN | apply Kd.V_drew)); exact HO_0.out) hb)
                              have n1_ := zG.mk (Kd.R_below (by (with_reducible repeat (first | apply Kd.zS | apply Kd.zQ | apply Kd.zR)); exact HO_38.out) hb)
                              have n2_ := zG.mk (Kd.V_below (by (with_reducible repeat (first | apply Kd.V_alloc | apply Kd.V_drewN | apply Kd.V_drew)); exact HO136.out) hb)
                              have n3_ := zG.mk (blk_below (g := gb123) (o := .cells #[.bool a2_0, .int .i64 a2_1, .slice (some ad130) l2_2.length c2_2] 25 (0, 0)) (by (with_reducible repeat (first | refine zL ?_ _ | refine zM ?_ | refine zK ?_ _)); exact BK123.out) hb)
                              have n4_ := zG.mk (blk_below (g := gb131) (o := .cells #[.int .i64 ((rd_T50 l2_2 x40_2).f0), .bool false] 50 (0, 0)) (by (with_reducible repeat (first | refine zL ?_ _ | refine zM ?_ | refine zK ?_ _)); exact BK131.out) hb)
                              have n5_ := zG.mk (below_step (by repeat (first | (with_reducible first | exact HB.out | apply zF | apply zC | apply zD | refine zE ?_ GE123.out | refine zE ?_ GE131.out) | exact HB.out)) hb)
                              clear HO_0
                              clear HO_38
                              clear HO136
                              clear BK123
                              clear BK131
                              clear HB
                              have HO_0 := n0_
                              have HO_38 := n1_
                              have HO136 := n2_
                              have BK123 := n3_
                              have BK131 := n4_
                              have HB := n5_
                              clear n0_ n1_ n2_ n3_ n4_ n5_
                              (try clear hb)
                              (try clear hb2)
                              (try clear hk)
                              (try clear hi)
                              refine hK.out _ _ ⟨(zN BK131.out 0).trans rfl, (zN BK131.out 1).trans rfl⟩ (fun hHeld => ?_)
                              clear hK K
                              refine norm_ (a' := ?_) ?_ ?_
                              rotate_left
                              · show Act.put _ (some 54) _ = _
                                simp only [Act.put, List.setIfInBounds_toArray, List.set_cons_zero, List.set_cons_succ, i64_w, i32_w]
                                rfl
                              refine pure_ (i := 5) (N := some 14) (v := ?_) (a' := ?_) #[true, true, true, true, true, true] rfl rfl (by kernel_rfl) (fun _ _ _ h => h) (Or.inl ⟨by rfl, ?_⟩) ?_ ?_
                              rotate_left
                              · intro w'
                                go_simp
                                with_reducible rfl
                              rotate_left
                              · simp only [Act.put, List.setIfInBounds_toArray, List.set_cons_zero, List.set_cons_succ, i64_w, i32_w]
                                rfl
                              refine done_ (by kernel_rfl) ?_
                              have hcz59_0 : w58.cell? ⟨gb131, 0, none⟩ = some (.int .i64 ((rd_T50 l2_2 x40_2).f0)) := (zN BK131.out 0).trans rfl
                              have hcz59_1 : w58.cell? ⟨gb131, 1, none⟩ = some (.bool false) := (zN BK131.out 1).trans rfl
                              have hfz59_0 := zO BK131.out 0
                              have hfz59_1 := zO BK131.out 1
                              try go_wp2
                              go_ret
                              exact ⟨by first | rfl | (simp [errW_none, errW_some] <;> rfl) | (simp [*, errW_none, errW_some] <;> rfl), by repeat (first | (with_reducible first | exact HB.out | apply zF | apply zC | apply zD | refine zE ?_ GE123.out | refine zE ?_ GE131.out) | exact HB.out)⟩
                            · rw [if_neg c49] at H
                              have c49b0 : decide (((rd_T50 l2_2 x40_2).f0) < 0) = false := decide_eq_false c49
                              clear c49
                              by_cases c60 : ((rd_T50 l2_2 x40_2).f0) > t127
                              · rw [if_pos c60] at H
                                have c60b0 : decide (t127 < ((rd_T50 l2_2 x40_2).f0)) = true := decide_eq_true c60
                                clear c60
                                obtain rfl := Option.some.inj H
                                have p129 : 0 ≤ (x40_2 : Int) := of_decide_eq_true (by first | (with_reducible assumption) | assumption)
                                have q129 : x40_2 < (t124.length : Int) := of_decide_eq_true (by first | (with_reducible assumption) | assumption)
                                obtain ⟨ad129, e129, hx129_0⟩ := Kd.at_int (Kd.R_reads' HO_38.out).2.2 x40_2 p129 q129
                                cases e129
                                replace p129 := eq_true p129
                                replace q129 := eq_true q129
                                have hcz61_0 : wr.cell? ⟨gb123, 0, none⟩ = some (.bool a2_0) := (zN BK123.out 0).trans rfl
                                have hcz61_1 : wr.cell? ⟨gb123, 1, none⟩ = some (.int .i64 a2_1) := (zN BK123.out 1).trans rfl
                                have hcz61_2 : wr.cell? ⟨gb123, 2, none⟩ = some (.slice A2_2 l2_2.length c2_2) := (zN BK123.out 2).trans rfl
                                have hfz61_0 := zO BK123.out 0
                                have hfz61_1 := zO BK123.out 1
                                have hfz61_2 := zO BK123.out 2
                                have p130 : 0 ≤ (x40_2 : Int) := of_decide_eq_true (by first | (with_reducible assumption) | assumption)
                                have q130 : x40_2 < (l2_2.length : Int) := of_decide_eq_true (by first | (with_reducible assumption) | assumption)
                                obtain ⟨ad130, e130, hx130_0, hx130_1⟩ := at_T50 HR2_2.out x40_2 p130 q130
                                (try rw [← Nbq34.out] at hx130_1)
                                cases e130
                                replace hx130_0 := (HB.out.cell (World.block_lt_of_cell? w _ hx130_0)).trans hx130_0
                                replace hx130_1 := (HB.out.cell (World.block_lt_of_cell? w _ hx130_1)).trans hx130_1
                                replace p130 := eq_true p130
                                replace q130 := eq_true q130
                                try go_wp2_with (first | ((with_reducible refine gate_dst (N := 13) rfl ?_); (try (refine gate_guard (by rfl) ?_; dsimp only)); refine box_event ?hg (N := 13) ?hd (cs := #[.int .i64 0, .bool false]) (t := 50) ?hr ?_; (case hd => rfl); (case hg => rfl); (case hr => first | (go_simp; done) | (go_simp; rfl)); intro gb131 hg w62 hbox hb; have n0_ := zG.mk (Kd.V_below (Kd.V_elderB (by (with_reducible repeat (first | apply Kd.V_alloc | apply Kd.V_drewN | apply Kd.V_drew)); exact HO_0.out) gb131 (Nat.le_of_eq hg.symm)) hb); have n1_ := zG.mk (Kd.R_below (by (with_reducible repeat (first | apply Kd.zS | apply Kd.zQ | apply Kd.zR)); exact HO_38.out) hb); have n2_ := zG.mk (blk_below (g := gb123) (o := .cells #[.bool a2_0, .int .i64 a2_1, .slice (some ad130) l2_2.length c2_2] 25 (0, 0)) (by (with_reducible repeat (first | refine zL ?_ _ | refine zM ?_ | refine zK ?_ _)); exact BK123.out) hb); have n3_ := zG.mk (below_step (by repeat (first | (with_reducible first | exact HB.out | apply zF | apply zC | apply zD | refine zE ?_ GE123.out) | exact HB.out)) hb); have n4_ := zG.mk (hbox); have n5_ := zG.mk ((by rw [hg]; exact (below_size (by repeat (first | (with_reducible first | exact HB.out | apply zF | apply zC | apply zD | refine zE ?_ GE123.out) | exact HB.out))) : w.heap.size ≤ gb131)); have n6_ := zG.mk ((by rw [hg]; exact (below_size (by repeat (first | (with_reducible first | exact HB.out | apply zF | apply zC | apply zD | refine zE ?_ GE123.out) | exact HB.out))) : w.heap.size ≤ gb131)); have n7_ := zG.mk ((by rw [hg]; exact Nat.ne_of_lt (blk_lt (g := gb123) (o := .cells #[.bool a2_0, .int .i64 a2_1, .slice (some ad130) l2_2.length c2_2] 25 (0, 0)) (by (with_reducible repeat (first | refine zL ?_ _ | refine zM ?_ | refine zK ?_ _)); exact BK123.out)) : gb123 ≠ gb131)); have n8_ := zG.mk ((by rw [hg]; exact Nat.ne_of_gt (blk_lt (g := gb123) (o := .cells #[.bool a2_0, .int .i64 a2_1, .slice (some ad130) l2_2.length c2_2] 25 (0, 0)) (by (with_reducible repeat (first | refine zL ?_ _ | refine zM ?_ | refine zK ?_ _)); exact BK123.out)) : gb131 ≠ gb123)); clear HO_0; clear HO_38; clear BK123; clear HB; have HO_0 := n0_; have HO_38 := n1_; have BK123 := n2_; have HB := n3_; have BK131 := n4_; have GW131 := n5_; have GE131 := n6_; have NB123_131 := n7_; have NB131_123 := n8_; clear n0_ n1_ n2_ n3_ n4_ n5_ n6_ n7_ n8_; clear hb hbox hg; have hnb63 := NB131_123.out; have hnc63 := NB123_131.out; have hcz64_0 : w62.cell? ⟨gb131, 0, none⟩ = some (.int .i64 0) := (zN BK131.out 0).trans rfl; have hcz64_1 : w62.cell? ⟨gb131, 1, none⟩ = some (.bool false) := (zN BK131.out 1).trans rfl; have hfz64_0 := zO BK131.out 0; have hfz64_1 := zO BK131.out 1))
                                have n0_ : zG (Kd.V (Kd.int .i64) 3 ((w62.setCell ⟨gb131, 0, none⟩ (.int .i64 ((rd_T50 l2_2 x40_2).f0))).setCell ⟨gb131, 1, none⟩ (.bool false)) w.heap.size (fun k_ => (P0_ k_ ∨ w.heap.size ≤ k_) ∧ some k_ ≠ (.slice (some ad129) t124.length co16 : Value).ownBlock ∧ k_ ≠ gb123 ∧ k_ ≠ gb131) u0 x0_2) := ⟨by (with_reducible repeat (first | apply Kd.V_alloc | apply Kd.V_drewN | apply Kd.V_drew)); exact Kd.V_mono (Kd.V_far (p := ⟨gb131, 1, none⟩) (Kd.V_far (p := ⟨gb131, 0, none⟩) (Kd.V_mono HO_0.out (fun k_ hk => (⟨hk, hk.2⟩ : _ ∧ k_ ≠ gb131))) (fun _ hk => hk.2) (.int .i64 ((rd_T50 l2_2 x40_2).f0))) (fun _ hk => hk.2) (.bool false)) (fun _ hk => ⟨hk.1.1.1, ⟨hk.1.1.2.1, ⟨hk.1.1.2.2, hk.1.2⟩⟩⟩)⟩
                                have n1_ : zG (Kd.R (Kd.int .i64) 3 ((w62.setCell ⟨gb131, 0, none⟩ (.int .i64 ((rd_T50 l2_2 x40_2).f0))).setCell ⟨gb131, 1, none⟩ (.bool false)) w.heap.size (fun k_ => (w.heap.size ≤ k_)) (.slice (some ad129) t124.length co16) t124) := ⟨by (with_reducible repeat (first | apply Kd.zS | apply Kd.zQ | apply Kd.zR)); exact Kd.R_mono (Kd.R_far (p := ⟨gb131, 1, none⟩) (Kd.R_far (p := ⟨gb131, 0, none⟩) (Kd.R_types HO_38.out BK131.out (by decide)) (fun _ hk => hk.2) (.int .i64 ((rd_T50 l2_2 x40_2).f0))) (fun _ hk => hk.2) (.bool false)) (fun _ hk => hk.1)⟩
                                have n2_ : zG (((w62.setCell ⟨gb131, 0, none⟩ (.int .i64 ((rd_T50 l2_2 x40_2).f0))).setCell ⟨gb131, 1, none⟩ (.bool false)).heap[gb123]? = some (.cells #[.bool a2_0, .int .i64 a2_1, .slice (some ad130) l2_2.length c2_2] 25 (0, 0))) := ⟨by (with_reducible repeat (first | refine zL ?_ _ | refine zM ?_ | refine zK ?_ _)); refine zP ?_ NB123_131.out _; (with_reducible repeat (first | refine zL ?_ _ | refine zM ?_ | refine zK ?_ _)); refine zP ?_ NB123_131.out _; (with_reducible repeat (first | refine zL ?_ _ | refine zM ?_ | refine zK ?_ _)); exact BK123.out⟩
                                have n3_ : zG (((w62.setCell ⟨gb131, 0, none⟩ (.int .i64 ((rd_T50 l2_2 x40_2).f0))).setCell ⟨gb131, 1, none⟩ (.bool false)).heap[gb131]? = some (.cells #[.int .i64 ((rd_T50 l2_2 x40_2).f0), .bool false] 50 (0, 0))) := ⟨by (with_reducible repeat (first | refine zL ?_ _ | refine zM ?_ | refine zK ?_ _)); refine blk_put (cs := #[.int .i64 ((rd_T50 l2_2 x40_2).f0), .bool false]) ?_ 1 _ rfl; (with_reducible repeat (first | refine zL ?_ _ | refine zM ?_ | refine zK ?_ _)); refine blk_put (cs := #[.int .i64 0, .bool false]) ?_ 0 _ rfl; (with_reducible repeat (first | refine zL ?_ _ | refine zM ?_ | refine zK ?_ _)); exact BK131.out⟩
                                have n4_ : zG (Below w.heap.size w ((w62.setCell ⟨gb131, 0, none⟩ (.int .i64 ((rd_T50 l2_2 x40_2).f0))).setCell ⟨gb131, 1, none⟩ (.bool false))) := ⟨by repeat (first | (with_reducible first | exact HB.out | apply zF | apply zC | apply zD | refine zE ?_ GE123.out | refine zE ?_ GE131.out) | exact HB.out)⟩
                                (try clear HO_0)
                                (try clear HO_38)
                                (try clear BK123)
                                (try clear BK131)
                                (try clear HB)
                                generalize ((w62.setCell ⟨gb131, 0, none⟩ (.int .i64 ((rd_T50 l2_2 x40_2).f0))).setCell ⟨gb131, 1, none⟩ (.bool false)) = w65 at n0_ n1_ n2_ n3_ n4_ ⊢
                                have HO_0 := n0_
                                have HO_38 := n1_
                                have BK123 := n2_
                                have BK131 := n3_
                                have HB := n4_
                                clear n0_ n1_ n2_ n3_ n4_
                                have n0_ := zG.mk (Kd.V_drew HO_0.out)
                                have n1_ := zG.mk (Kd.zR HO_38.out)
                                have n2_ := zG.mk (zM BK123.out)
                                have n3_ := zG.mk (zM BK131.out)
                                have n4_ := zG.mk (zD HB.out)
                                clear HO_0
                                clear HO_38
                                clear BK123
                                clear BK131
                                clear HB
                                have HO_0 := n0_
                                have HO_38 := n1_
                                have BK123 := n2_
                                have BK131 := n3_
                                have HB := n4_
                                clear n0_ n1_ n2_ n3_ n4_
                                obtain ⟨Ao68, co68, eo68⟩ := Kd.V_slice HO_0.out
                                (first | subst eo68 | (injection eo68 with f1_ f2_ f3_; have f4_ := f1_.symm; have f5_ := f3_.symm; clear f1_ f2_ f3_; subst f4_; subst f5_))
                                have q67 : ((rd t124 x40_2) : Int) ≤ ((x0_2.length : Int) : Int) := of_decide_eq_true (by first | (with_reducible assumption) | assumption)
                                obtain ⟨i067, hi067, _, hsz67, _⟩ := info_parts info3
                                have hroom67 : x0_2.length ≤ co68 := (Kd.V_reads' HO_0.out).2.1
                                have hC67 : Kd.F (Kd.int .i64) _ _ Ao68 x0_2.length x0_2 := (Kd.V_at (base := w.heap.size) HO_0.out).2.2
                                have hcut67 := cut_to (P := Try.prog) 22 3 .i64 Try.underlying22 hi067 Ao68 x0_2.length co68 (rd t124 x40_2) (of_decide_eq_true (by first | (with_reducible assumption) | assumption)) q67 hroom67
                                have hr67 := Kd.F_take (m := ((rd t124 x40_2) : Int).toNat) hC67 (by omega)
                                have hy67 : y132.length = ((rd t124 x40_2) : Int).toNat := (by rw [Ny132.out, List.length_take]; omega)
                                rw [← Ny132.out] at hr67
                                rw [← hy67] at hcut67
                                have HO136 := zG.mk (show Kd.V (Kd.int .i64) 3 _ w.heap.size _ (.slice Ao68 y132.length co68) y132 from Kd.V_mk (by omega) hr67)
                                have HC136 := zG.mk (show y132.length ≤ co68 from by omega)
                                clear hr67 hC67 hroom67 hi067 hsz67
                                have KY67 := zG.mk hy67
                                clear hy67
                                replace q67 := eq_true q67
                                refine start_ (n := 6) (S := fun w' => w'.cell? ⟨gb131, 0, none⟩ = some (.int .i64 ((rd_T50 l2_2 x40_2).f0)) ∧ w'.cell? ⟨gb131, 1, none⟩ = some (.bool false)) (ds := []) #[false, false, false, false, false, false] (by kernel_rfl) rfl rfl ⟨(zN BK131.out 0).trans rfl, (zN BK131.out 1).trans rfl⟩ (fun hHeld => ?_)
                                generalize w65.drew = w66 at HO_0 HO_38 BK123 BK131 HB HO136 hHeld ⊢
                                refine pure_ (i := 0) (N := some 50) (v := ?_) (a' := ?_) #[true, false, false, false, false, false] rfl rfl (by kernel_rfl) (fun _ _ _ h => h) (Or.inl ⟨by rfl, ?_⟩) ?_ ?_
                                rotate_left
                                · intro w'
                                  go_simp
                                  with_reducible rfl
                                rotate_left
                                · simp only [Act.put, List.setIfInBounds_toArray, List.set_cons_zero, List.set_cons_succ, i64_w, i32_w]
                                  rfl
                                refine pure_ (i := 1) (N := some 51) (v := ?_) (a' := ?_) #[true, true, false, false, false, false] rfl rfl (by kernel_rfl) (fun _ _ _ h => h) (Or.inl ⟨by rfl, ?_⟩) ?_ ?_
                                rotate_left
                                · intro w'
                                  go_simp
                                  with_reducible rfl
                                rotate_left
                                · simp only [Act.put, List.setIfInBounds_toArray, List.set_cons_zero, List.set_cons_succ, i64_w, i32_w]
                                  rfl
                                refine pure_ (i := 2) (N := some 52) (v := ?_) (a' := ?_) #[true, true, true, false, false, false] rfl rfl (by kernel_rfl) (fun _ _ _ h => h) (Or.inl ⟨by rfl, ?_⟩) ?_ ?_
                                rotate_left
                                · intro w'
                                  go_simp
                                  with_reducible rfl
                                rotate_left
                                · simp only [Act.put, List.setIfInBounds_toArray, List.set_cons_zero, List.set_cons_succ, i64_w, i32_w]
                                  rfl
                                refine take_ (i := 3) (N := some 53) (v := ?_) (a' := ?_) #[true, true, true, true, false, false] rfl rfl (by kernel_rfl) (fun _ _ _ h => h) (Or.inl ⟨by rfl, ?_⟩) hHeld ?_ ?_
                                rotate_left
                                · rintro w' ⟨s0, s1⟩
                                  go_simp
                                  with_reducible rfl
                                rotate_left
                                · simp only [Act.put, List.setIfInBounds_toArray, List.set_cons_zero, List.set_cons_succ, i64_w, i32_w]
                                  rfl
                                refine one_ (i := 4) (N := some 54) #[true, true, true, true, true, false] rfl rfl (by kernel_rfl) (by decide) (fun K hK => ?_)
                                refine goes_ Try.func30 (by kernel_rfl) rfl #[.slice Ao68 y132.length co68, .agg #[.int .i64 ((rd_T50 l2_2 x40_2).f0), .bool false]] (by rfl) rfl rfl (by (try simp only [List.map_toArray, List.map_cons, List.map_nil]); first | done | rfl | (simp only [List.length_drop, List.length_take]; rfl)) ?_
                                with_reducible refine (cost_Each.calls k2 _ _ y132 ((rd_T50 l2_2 x40_2).f0) false t137 _ ?side1 ?side2 (by first | exact A23.out | (rw [Nbq34.out]; exact A23.out))).mono ?_
                                (case side1 => repeat (first | exact (Kd.V_reads' HO136.out).2.2 | (with_reducible refine Kd.zV ?_ _) | (with_reducible refine Kd.zT ?_ _) | (with_reducible refine Kd.zU ?_)))
                                (case side2 => exact (Kd.V_reads' HO136.out).2.1)
                                rintro e w69 ⟨rfl, hb⟩
                                refine ⟨_, rfl, ?_⟩
                                have n0_ := zG.mk (Kd.V_below (by (with_reducible repeat (first | apply Kd.V_alloc | apply Kd.V_drewN | apply Kd.V_drew)); exact HO_0.out) hb)
                                have n1_ := zG.mk (Kd.R_below (by (with_reducible repeat (first | apply Kd.zS | apply Kd.zQ | apply Kd.zR)); exact HO_38.out) hb)
                                have n2_ := zG.mk (Kd.V_below (by (with_reducible repeat (first | apply Kd.V_alloc | apply Kd.V_drewN | apply Kd.V_drew)); exact HO136.out) hb)
                                have n3_ := zG.mk (blk_below (g := gb123) (o := .cells #[.bool a2_0, .int .i64 a2_1, .slice (some ad130) l2_2.length c2_2] 25 (0, 0)) (by (with_reducible repeat (first | refine zL ?_ _ | refine zM ?_ | refine zK ?_ _)); exact BK123.out) hb)
                                have n4_ := zG.mk (blk_below (g := gb131) (o := .cells #[.int .i64 ((rd_T50 l2_2 x40_2).f0), .bool false] 50 (0, 0)) (by (with_reducible repeat (first | refine zL ?_ _ | refine zM ?_ | refine zK ?_ _)); exact BK131.out) hb)
                                have n5_ := zG.mk (below_step (by repeat (first | (with_reducible first | exact HB.out | apply zF | apply zC | apply zD | refine zE ?_ GE123.out | refine zE ?_ GE131.out) | exact HB.out)) hb)
                                clear HO_0
                                clear HO_38
                                clear HO136
                                clear BK123
                                clear BK131
                                clear HB
                                have HO_0 := n0_
                                have HO_38 := n1_
                                have HO136 := n2_
                                have BK123 := n3_
                                have BK131 := n4_
                                have HB := n5_
                                clear n0_ n1_ n2_ n3_ n4_ n5_
                                (try clear hb)
                                (try clear hb2)
                                (try clear hk)
                                (try clear hi)
                                refine hK.out _ _ ⟨(zN BK131.out 0).trans rfl, (zN BK131.out 1).trans rfl⟩ (fun hHeld => ?_)
                                clear hK K
                                refine norm_ (a' := ?_) ?_ ?_
                                rotate_left
                                · show Act.put _ (some 54) _ = _
                                  simp only [Act.put, List.setIfInBounds_toArray, List.set_cons_zero, List.set_cons_succ, i64_w, i32_w]
                                  rfl
                                refine pure_ (i := 5) (N := some 14) (v := ?_) (a' := ?_) #[true, true, true, true, true, true] rfl rfl (by kernel_rfl) (fun _ _ _ h => h) (Or.inl ⟨by rfl, ?_⟩) ?_ ?_
                                rotate_left
                                · intro w'
                                  go_simp
                                  with_reducible rfl
                                rotate_left
                                · simp only [Act.put, List.setIfInBounds_toArray, List.set_cons_zero, List.set_cons_succ, i64_w, i32_w]
                                  rfl
                                refine done_ (by kernel_rfl) ?_
                                have hcz70_0 : w69.cell? ⟨gb131, 0, none⟩ = some (.int .i64 ((rd_T50 l2_2 x40_2).f0)) := (zN BK131.out 0).trans rfl
                                have hcz70_1 : w69.cell? ⟨gb131, 1, none⟩ = some (.bool false) := (zN BK131.out 1).trans rfl
                                have hfz70_0 := zO BK131.out 0
                                have hfz70_1 := zO BK131.out 1
                                try go_wp2
                                go_ret
                                exact ⟨by first | rfl | (simp [errW_none, errW_some] <;> rfl) | (simp [*, errW_none, errW_some] <;> rfl), by repeat (first | (with_reducible first | exact HB.out | apply zF | apply zC | apply zD | refine zE ?_ GE123.out | refine zE ?_ GE131.out) | exact HB.out)⟩
                              · rw [if_neg c60] at H
                                have c60b0 : decide (t127 < ((rd_T50 l2_2 x40_2).f0)) = false := decide_eq_false c60
                                clear c60
                                have c71b0 := eq_true (of_decide_eq_true (by first | (with_reducible assumption) | assumption) : 0 ≤ (rd t124 x40_2))
                                have c72b0 := eq_true (of_decide_eq_true (by first | (with_reducible assumption) | assumption) : (rd t124 x40_2) ≤ (x0_2.length : Int))
                                obtain ⟨y143, hy143⟩ : ∃ y_ : List Int, y_ = (x0_2.drop ((rd t124 x40_2) : Int).toNat) := ⟨_, rfl⟩
                                replace H : (parts_Bits.l0 k2 y143 t127 t128 (wrap64 (x10_2 + (wrap64 (t128 + t137)))) t124 (t124.length : Int) (wrap64 (x40_2 + 1)) a2_0 a2_1 l2_2) = some r := by first | (rw [hy143]; with_reducible exact H) | (have H2_ := (Option.bind_some _ _).symm.trans H; rw [hy143]; with_reducible exact H2_) | (have H2_ := (Option.bind_some _ _).symm.trans H; with_reducible exact H2_) | with_reducible exact H | (rw [hy143]; exact H) | exact H
                                have Ny143 := zG.mk hy143
                                clear hy143
                                have H' := zG.mk H
                                clear H
                                have p129 : 0 ≤ (x40_2 : Int) := of_decide_eq_true (by first | (with_reducible assumption) | assumption)
                                have q129 : x40_2 < (t124.length : Int) := of_decide_eq_true (by first | (with_reducible assumption) | assumption)
                                obtain ⟨ad129, e129, hx129_0⟩ := Kd.at_int (Kd.R_reads' HO_38.out).2.2 x40_2 p129 q129
                                cases e129
                                replace p129 := eq_true p129
                                replace q129 := eq_true q129
                                have hcz73_0 : wr.cell? ⟨gb123, 0, none⟩ = some (.bool a2_0) := (zN BK123.out 0).trans rfl
                                have hcz73_1 : wr.cell? ⟨gb123, 1, none⟩ = some (.int .i64 a2_1) := (zN BK123.out 1).trans rfl
                                have hcz73_2 : wr.cell? ⟨gb123, 2, none⟩ = some (.slice A2_2 l2_2.length c2_2) := (zN BK123.out 2).trans rfl
                                have hfz73_0 := zO BK123.out 0
                                have hfz73_1 := zO BK123.out 1
                                have hfz73_2 := zO BK123.out 2
                                have p130 : 0 ≤ (x40_2 : Int) := of_decide_eq_true (by first | (with_reducible assumption) | assumption)
                                have q130 : x40_2 < (l2_2.length : Int) := of_decide_eq_true (by first | (with_reducible assumption) | assumption)
                                obtain ⟨ad130, e130, hx130_0, hx130_1⟩ := at_T50 HR2_2.out x40_2 p130 q130
                                (try rw [← Nbq34.out] at hx130_1)
                                cases e130
                                replace hx130_0 := (HB.out.cell (World.block_lt_of_cell? w _ hx130_0)).trans hx130_0
                                replace hx130_1 := (HB.out.cell (World.block_lt_of_cell? w _ hx130_1)).trans hx130_1
                                replace p130 := eq_true p130
                                replace q130 := eq_true q130
                                try go_wp2_with (first | ((with_reducible refine gate_dst (N := 13) rfl ?_); (try (refine gate_guard (by rfl) ?_; dsimp only)); refine box_event ?hg (N := 13) ?hd (cs := #[.int .i64 0, .bool false]) (t := 50) ?hr ?_; (case hd => rfl); (case hg => rfl); (case hr => first | (go_simp; done) | (go_simp; rfl)); intro gb131 hg w74 hbox hb; have n0_ := zG.mk (Kd.V_below (Kd.V_elderB (by (with_reducible repeat (first | apply Kd.V_alloc | apply Kd.V_drewN | apply Kd.V_drew)); exact HO_0.out) gb131 (Nat.le_of_eq hg.symm)) hb); have n1_ := zG.mk (Kd.R_below (by (with_reducible repeat (first | apply Kd.zS | apply Kd.zQ | apply Kd.zR)); exact HO_38.out) hb); have n2_ := zG.mk (blk_below (g := gb123) (o := .cells #[.bool a2_0, .int .i64 a2_1, .slice (some ad130) l2_2.length c2_2] 25 (0, 0)) (by (with_reducible repeat (first | refine zL ?_ _ | refine zM ?_ | refine zK ?_ _)); exact BK123.out) hb); have n3_ := zG.mk (below_step (by repeat (first | (with_reducible first | exact HB.out | apply zF | apply zC | apply zD | refine zE ?_ GE123.out) | exact HB.out)) hb); have n4_ := zG.mk (hbox); have n5_ := zG.mk ((by rw [hg]; exact (below_size (by repeat (first | (with_reducible first | exact HB.out | apply zF | apply zC | apply zD | refine zE ?_ GE123.out) | exact HB.out))) : w.heap.size ≤ gb131)); have n6_ := zG.mk ((by rw [hg]; exact (below_size (by repeat (first | (with_reducible first | exact HB.out | apply zF | apply zC | apply zD | refine zE ?_ GE123.out) | exact HB.out))) : w.heap.size ≤ gb131)); have n7_ := zG.mk ((by rw [hg]; exact Nat.ne_of_lt (blk_lt (g := gb123) (o := .cells #[.bool a2_0, .int .i64 a2_1, .slice (some ad130) l2_2.length c2_2] 25 (0, 0)) (by (with_reducible repeat (first | refine zL ?_ _ | refine zM ?_ | refine zK ?_ _)); exact BK123.out)) : gb123 ≠ gb131)); have n8_ := zG.mk ((by rw [hg]; exact Nat.ne_of_gt (blk_lt (g := gb123) (o := .cells #[.bool a2_0, .int .i64 a2_1, .slice (some ad130) l2_2.length c2_2] 25 (0, 0)) (by (with_reducible repeat (first | refine zL ?_ _ | refine zM ?_ | refine zK ?_ _)); exact BK123.out)) : gb131 ≠ gb123)); clear HO_0; clear HO_38; clear BK123; clear HB; have HO_0 := n0_; have HO_38 := n1_; have BK123 := n2_; have HB := n3_; have BK131 := n4_; have GW131 := n5_; have GE131 := n6_; have NB123_131 := n7_; have NB131_123 := n8_; clear n0_ n1_ n2_ n3_ n4_ n5_ n6_ n7_ n8_; clear hb hbox hg; have hnb75 := NB131_123.out; have hnc75 := NB123_131.out; have hcz76_0 : w74.cell? ⟨gb131, 0, none⟩ = some (.int .i64 0) := (zN BK131.out 0).trans rfl; have hcz76_1 : w74.cell? ⟨gb131, 1, none⟩ = some (.bool false) := (zN BK131.out 1).trans rfl; have hfz76_0 := zO BK131.out 0; have hfz76_1 := zO BK131.out 1))
                                have n0_ : zG (Kd.V (Kd.int .i64) 3 ((w74.setCell ⟨gb131, 0, none⟩ (.int .i64 ((rd_T50 l2_2 x40_2).f0))).setCell ⟨gb131, 1, none⟩ (.bool false)) w.heap.size (fun k_ => (P0_ k_ ∨ w.heap.size ≤ k_) ∧ some k_ ≠ (.slice (some ad129) t124.length co16 : Value).ownBlock ∧ k_ ≠ gb123 ∧ k_ ≠ gb131) u0 x0_2) := ⟨by (with_reducible repeat (first | apply Kd.V_alloc | apply Kd.V_drewN | apply Kd.V_drew)); exact Kd.V_mono (Kd.V_far (p := ⟨gb131, 1, none⟩) (Kd.V_far (p := ⟨gb131, 0, none⟩) (Kd.V_mono HO_0.out (fun k_ hk => (⟨hk, hk.2⟩ : _ ∧ k_ ≠ gb131))) (fun _ hk => hk.2) (.int .i64 ((rd_T50 l2_2 x40_2).f0))) (fun _ hk => hk.2) (.bool false)) (fun _ hk => ⟨hk.1.1.1, ⟨hk.1.1.2.1, ⟨hk.1.1.2.2, hk.1.2⟩⟩⟩)⟩
                                have n1_ : zG (Kd.R (Kd.int .i64) 3 ((w74.setCell ⟨gb131, 0, none⟩ (.int .i64 ((rd_T50 l2_2 x40_2).f0))).setCell ⟨gb131, 1, none⟩ (.bool false)) w.heap.size (fun k_ => (w.heap.size ≤ k_)) (.slice (some ad129) t124.length co16) t124) := ⟨by (with_reducible repeat (first | apply Kd.zS | apply Kd.zQ | apply Kd.zR)); exact Kd.R_mono (Kd.R_far (p := ⟨gb131, 1, none⟩) (Kd.R_far (p := ⟨gb131, 0, none⟩) (Kd.R_types HO_38.out BK131.out (by decide)) (fun _ hk => hk.2) (.int .i64 ((rd_T50 l2_2 x40_2).f0))) (fun _ hk => hk.2) (.bool false)) (fun _ hk => hk.1)⟩
                                have n2_ : zG (((w74.setCell ⟨gb131, 0, none⟩ (.int .i64 ((rd_T50 l2_2 x40_2).f0))).setCell ⟨gb131, 1, none⟩ (.bool false)).heap[gb123]? = some (.cells #[.bool a2_0, .int .i64 a2_1, .slice (some ad130) l2_2.length c2_2] 25 (0, 0))) := ⟨by (with_reducible repeat (first | refine zL ?_ _ | refine zM ?_ | refine zK ?_ _)); refine zP ?_ NB123_131.out _; (with_reducible repeat (first | refine zL ?_ _ | refine zM ?_ | refine zK ?_ _)); refine zP ?_ NB123_131.out _; (with_reducible repeat (first | refine zL ?_ _ | refine zM ?_ | refine zK ?_ _)); exact BK123.out⟩
                                have n3_ : zG (((w74.setCell ⟨gb131, 0, none⟩ (.int .i64 ((rd_T50 l2_2 x40_2).f0))).setCell ⟨gb131, 1, none⟩ (.bool false)).heap[gb131]? = some (.cells #[.int .i64 ((rd_T50 l2_2 x40_2).f0), .bool false] 50 (0, 0))) := ⟨by (with_reducible repeat (first | refine zL ?_ _ | refine zM ?_ | refine zK ?_ _)); refine blk_put (cs := #[.int .i64 ((rd_T50 l2_2 x40_2).f0), .bool false]) ?_ 1 _ rfl; (with_reducible repeat (first | refine zL ?_ _ | refine zM ?_ | refine zK ?_ _)); refine blk_put (cs := #[.int .i64 0, .bool false]) ?_ 0 _ rfl; (with_reducible repeat (first | refine zL ?_ _ | refine zM ?_ | refine zK ?_ _)); exact BK131.out⟩
                                have n4_ : zG (Below w.heap.size w ((w74.setCell ⟨gb131, 0, none⟩ (.int .i64 ((rd_T50 l2_2 x40_2).f0))).setCell ⟨gb131, 1, none⟩ (.bool false))) := ⟨by repeat (first | (with_reducible first | exact HB.out | apply zF | apply zC | apply zD | refine zE ?_ GE123.out | refine zE ?_ GE131.out) | exact HB.out)⟩
                                (try clear HO_0)
                                (try clear HO_38)
                                (try clear BK123)
                                (try clear BK131)
                                (try clear HB)
                                generalize ((w74.setCell ⟨gb131, 0, none⟩ (.int .i64 ((rd_T50 l2_2 x40_2).f0))).setCell ⟨gb131, 1, none⟩ (.bool false)) = w77 at n0_ n1_ n2_ n3_ n4_ ⊢
                                have HO_0 := n0_
                                have HO_38 := n1_
                                have BK123 := n2_
                                have BK131 := n3_
                                have HB := n4_
                                clear n0_ n1_ n2_ n3_ n4_
                                have n0_ := zG.mk (Kd.V_drew HO_0.out)
                                have n1_ := zG.mk (Kd.zR HO_38.out)
                                have n2_ := zG.mk (zM BK123.out)
                                have n3_ := zG.mk (zM BK131.out)
                                have n4_ := zG.mk (zD HB.out)
                                clear HO_0
                                clear HO_38
                                clear BK123
                                clear BK131
                                clear HB
                                have HO_0 := n0_
                                have HO_38 := n1_
                                have BK123 := n2_
                                have BK131 := n3_
                                have HB := n4_
                                clear n0_ n1_ n2_ n3_ n4_
                                obtain ⟨Ao80, co80, eo80⟩ := Kd.V_slice HO_0.out
                                (first | subst eo80 | (injection eo80 with f1_ f2_ f3_; have f4_ := f1_.symm; have f5_ := f3_.symm; clear f1_ f2_ f3_; subst f4_; subst f5_))
                                have q79 : ((rd t124 x40_2) : Int) ≤ ((x0_2.length : Int) : Int) := of_decide_eq_true (by first | (with_reducible assumption) | assumption)
                                obtain ⟨i079, hi079, _, hsz79, _⟩ := info_parts info3
                                have hroom79 : x0_2.length ≤ co80 := (Kd.V_reads' HO_0.out).2.1
                                have hC79 : Kd.F (Kd.int .i64) _ _ Ao80 x0_2.length x0_2 := (Kd.V_at (base := w.heap.size) HO_0.out).2.2
                                have hcut79 := cut_to (P := Try.prog) 22 3 .i64 Try.underlying22 hi079 Ao80 x0_2.length co80 (rd t124 x40_2) (of_decide_eq_true (by first | (with_reducible assumption) | assumption)) q79 hroom79
                                have hr79 := Kd.F_take (m := ((rd t124 x40_2) : Int).toNat) hC79 (by omega)
                                have hy79 : y132.length = ((rd t124 x40_2) : Int).toNat := (by rw [Ny132.out, List.length_take]; omega)
                                rw [← Ny132.out] at hr79
                                rw [← hy79] at hcut79
                                have HO136 := zG.mk (show Kd.V (Kd.int .i64) 3 _ w.heap.size _ (.slice Ao80 y132.length co80) y132 from Kd.V_mk (by omega) hr79)
                                have HC136 := zG.mk (show y132.length ≤ co80 from by omega)
                                clear hr79 hC79 hroom79 hi079 hsz79
                                have KY79 := zG.mk hy79
                                clear hy79
                                replace q79 := eq_true q79
                                refine start_ (n := 6) (S := fun w' => w'.cell? ⟨gb131, 0, none⟩ = some (.int .i64 ((rd_T50 l2_2 x40_2).f0)) ∧ w'.cell? ⟨gb131, 1, none⟩ = some (.bool false)) (ds := []) #[false, false, false, false, false, false] (by kernel_rfl) rfl rfl ⟨(zN BK131.out 0).trans rfl, (zN BK131.out 1).trans rfl⟩ (fun hHeld => ?_)
                                generalize w77.drew = w78 at HO_0 HO_38 BK123 BK131 HB HO136 hHeld ⊢
                                refine pure_ (i := 0) (N := some 50) (v := ?_) (a' := ?_) #[true, false, false, false, false, false] rfl rfl (by kernel_rfl) (fun _ _ _ h => h) (Or.inl ⟨by rfl, ?_⟩) ?_ ?_
                                rotate_left
                                · intro w'
                                  go_simp
                                  with_reducible rfl
                                rotate_left
                                · simp only [Act.put, List.setIfInBounds_toArray, List.set_cons_zero, List.set_cons_succ, i64_w, i32_w]
                                  rfl
                                refine pure_ (i := 1) (N := some 51) (v := ?_) (a' := ?_) #[true, true, false, false, false, false] rfl rfl (by kernel_rfl) (fun _ _ _ h => h) (Or.inl ⟨by rfl, ?_⟩) ?_ ?_
                                rotate_left
                                · intro w'
                                  go_simp
                                  with_reducible rfl
                                rotate_left
                                · simp only [Act.put, List.setIfInBounds_toArray, List.set_cons_zero, List.set_cons_succ, i64_w, i32_w]
                                  rfl
                                refine pure_ (i := 2) (N := some 52) (v := ?_) (a' := ?_) #[true, true, true, false, false, false] rfl rfl (by kernel_rfl) (fun _ _ _ h => h) (Or.inl ⟨by rfl, ?_⟩) ?_ ?_
                                rotate_left
                                · intro w'
                                  go_simp
                                  with_reducible rfl
                                rotate_left
                                · simp only [Act.put, List.setIfInBounds_toArray, List.set_cons_zero, List.set_cons_succ, i64_w, i32_w]
                                  rfl
                                refine take_ (i := 3) (N := some 53) (v := ?_) (a' := ?_) #[true, true, true, true, false, false] rfl rfl (by kernel_rfl) (fun _ _ _ h => h) (Or.inl ⟨by rfl, ?_⟩) hHeld ?_ ?_
                                rotate_left
                                · rintro w' ⟨s0, s1⟩
                                  go_simp
                                  with_reducible rfl
                                rotate_left
                                · simp only [Act.put, List.setIfInBounds_toArray, List.set_cons_zero, List.set_cons_succ, i64_w, i32_w]
                                  rfl
                                refine one_ (i := 4) (N := some 54) #[true, true, true, true, true, false] rfl rfl (by kernel_rfl) (by decide) (fun K hK => ?_)
                                refine goes_ Try.func30 (by kernel_rfl) rfl #[.slice Ao80 y132.length co80, .agg #[.int .i64 ((rd_T50 l2_2 x40_2).f0), .bool false]] (by rfl) rfl rfl (by (try simp only [List.map_toArray, List.map_cons, List.map_nil]); first | done | rfl | (simp only [List.length_drop, List.length_take]; rfl)) ?_
                                with_reducible refine (cost_Each.calls k2 _ _ y132 ((rd_T50 l2_2 x40_2).f0) false t137 _ ?side1 ?side2 (by first | exact A23.out | (rw [Nbq34.out]; exact A23.out))).mono ?_
                                (case side1 => repeat (first | exact (Kd.V_reads' HO136.out).2.2 | (with_reducible refine Kd.zV ?_ _) | (with_reducible refine Kd.zT ?_ _) | (with_reducible refine Kd.zU ?_)))
                                (case side2 => exact (Kd.V_reads' HO136.out).2.1)
                                rintro e w81 ⟨rfl, hb⟩
                                refine ⟨_, rfl, ?_⟩
                                have n0_ := zG.mk (Kd.V_below (by (with_reducible repeat (first | apply Kd.V_alloc | apply Kd.V_drewN | apply Kd.V_drew)); exact HO_0.out) hb)
                                have n1_ := zG.mk (Kd.R_below (by (with_reducible repeat (first | apply Kd.zS | apply Kd.zQ | apply Kd.zR)); exact HO_38.out) hb)
                                have n2_ := zG.mk (Kd.V_below (by (with_reducible repeat (first | apply Kd.V_alloc | apply Kd.V_drewN | apply Kd.V_drew)); exact HO136.out) hb)
                                have n3_ := zG.mk (blk_below (g := gb123) (o := .cells #[.bool a2_0, .int .i64 a2_1, .slice (some ad130) l2_2.length c2_2] 25 (0, 0)) (by (with_reducible repeat (first | refine zL ?_ _ | refine zM ?_ | refine zK ?_ _)); exact BK123.out) hb)
                                have n4_ := zG.mk (blk_below (g := gb131) (o := .cells #[.int .i64 ((rd_T50 l2_2 x40_2).f0), .bool false] 50 (0, 0)) (by (with_reducible repeat (first | refine zL ?_ _ | refine zM ?_ | refine zK ?_ _)); exact BK131.out) hb)
                                have n5_ := zG.mk (below_step (by repeat (first | (with_reducible first | exact HB.out | apply zF | apply zC | apply zD | refine zE ?_ GE123.out | refine zE ?_ GE131.out) | exact HB.out)) hb)
                                clear HO_0
                                clear HO_38
                                clear HO136
                                clear BK123
                                clear BK131
                                clear HB
                                have HO_0 := n0_
                                have HO_38 := n1_
                                have HO136 := n2_
                                have BK123 := n3_
                                have BK131 := n4_
                                have HB := n5_
                                clear n0_ n1_ n2_ n3_ n4_ n5_
                                (try clear hb)
                                (try clear hb2)
                                (try clear hk)
                                (try clear hi)
                                refine hK.out _ _ ⟨(zN BK131.out 0).trans rfl, (zN BK131.out 1).trans rfl⟩ (fun hHeld => ?_)
                                clear hK K
                                refine norm_ (a' := ?_) ?_ ?_
                                rotate_left
                                · show Act.put _ (some 54) _ = _
                                  simp only [Act.put, List.setIfInBounds_toArray, List.set_cons_zero, List.set_cons_succ, i64_w, i32_w]
                                  rfl
                                refine pure_ (i := 5) (N := some 14) (v := ?_) (a' := ?_) #[true, true, true, true, true, true] rfl rfl (by kernel_rfl) (fun _ _ _ h => h) (Or.inl ⟨by rfl, ?_⟩) ?_ ?_
                                rotate_left
                                · intro w'
                                  go_simp
                                  with_reducible rfl
                                rotate_left
                                · simp only [Act.put, List.setIfInBounds_toArray, List.set_cons_zero, List.set_cons_succ, i64_w, i32_w]
                                  rfl
                                refine done_ (by kernel_rfl) ?_
                                have hcz82_0 : w81.cell? ⟨gb131, 0, none⟩ = some (.int .i64 ((rd_T50 l2_2 x40_2).f0)) := (zN BK131.out 0).trans rfl
                                have hcz82_1 : w81.cell? ⟨gb131, 1, none⟩ = some (.bool false) := (zN BK131.out 1).trans rfl
                                have hfz82_0 := zO BK131.out 0
                                have hfz82_1 := zO BK131.out 1
                                have q83 : ((rd t124 x40_2) : Int) ≤ ((x0_2.length : Int) : Int) := of_decide_eq_true (by first | (with_reducible assumption) | assumption)
                                obtain ⟨i083, hi083, _, hsz83, _⟩ := info_parts info3
                                have hroom83 : x0_2.length ≤ co80 := (Kd.V_reads' HO_0.out).2.1
                                have hC83 : Kd.F (Kd.int .i64) _ _ Ao80 x0_2.length x0_2 := (Kd.V_at (base := w.heap.size) HO_0.out).2.2
                                have q083 : (0 : Int) ≤ ((rd t124 x40_2) : Int) := of_decide_eq_true (by first | (with_reducible assumption) | assumption)
                                have hcut83 := cut_from (P := Try.prog) 22 3 .i64 Try.underlying22 hi083 1 hsz83 Ao80 x0_2.length co80 (rd t124 x40_2) q083 q83
                                have hr83 := Kd.F_cut (m := ((rd t124 x40_2) : Int).toNat) (c := co80) hC83 (by omega) hroom83
                                obtain ⟨A83, hA83⟩ : ∃ A1, A1 = (if co80 = ((rd t124 x40_2) : Int).toNat then Ao80 else (Ao80 : Option Addr).map (·.add (((rd t124 x40_2) : Int).toNat * 1))) := ⟨_, rfl⟩
                                obtain ⟨c83, hc83⟩ : ∃ c1, c1 = co80 - ((rd t124 x40_2) : Int).toNat := ⟨_, rfl⟩
                                have hy83 : y143.length = x0_2.length - ((rd t124 x40_2) : Int).toNat := (by rw [Ny143.out, List.length_drop] <;> omega)
                                rw [show (x0_2).drop ((rd t124 x40_2) : Int).toNat = y143 from Ny143.out.symm] at hr83
                                replace hr83 : Kd.F (Kd.int .i64) _ _ A83 y143.length y143 := (by rw [hA83]; exact hr83)
                                rw [← hy83, ← hA83, ← hc83] at hcut83
                                have HO147 := zG.mk (show Kd.V (Kd.int .i64) 3 _ w.heap.size _ (.slice A83 y143.length c83) y143 from Kd.V_mk (by rw [hy83, hc83]; exact Nat.sub_le_sub_right hroom83 _) hr83)
                                have HC147 := zG.mk (show y143.length ≤ c83 from by rw [hy83, hc83]; exact Nat.sub_le_sub_right hroom83 _)
                                clear hr83 hC83 hroom83 hi083 hsz83 hc83
                                have KY83 := zG.mk hy83
                                have KA83 := zG.mk hA83
                                clear hy83 hA83
                                replace q83 := eq_true q83
                                try go_wp2
                                go_roundg k2
                                case measure => have := HJ4.out; have := HK2.out; omega
                                case rel => exact ⟨(y143), (wrap64 (x10_2 + (wrap64 (t128 + t137)))), (wrap64 (x40_2 + 1)), (by first | rfl | (simp; done) | (simp only [i64_w, i32_w]; done) | (simp [*]; done) | (simp only [i64_w, i32_w]; first | rfl | (simp; done) | (simp [*]; done))), (by first | rfl | (simp; done) | (simp only [i64_w, i32_w]; done) | (simp [*]; done) | (simp only [i64_w, i32_w]; first | rfl | (simp; done) | (simp [*]; done))), H', ⟨by have := HJ4.out; have := HK2.out; omega⟩, ⟨by (with_reducible repeat (first | apply Kd.V_alloc | apply Kd.V_drewN | apply Kd.V_drew)); exact Kd.V_mono HO147.out (fun _ hk => ⟨hk.1, ⟨hk.2.1, hk.2.2.1⟩⟩)⟩, ⟨by (with_reducible repeat (first | apply Kd.zS | apply Kd.zQ | apply Kd.zR)); exact HO_38.out⟩, ⟨by (with_reducible repeat (first | refine zL ?_ _ | refine zM ?_ | refine zK ?_ _)); exact BK123.out⟩, ⟨by repeat (first | (with_reducible first | exact HB.out | apply zF | apply zC | apply zD | refine zE ?_ GE123.out | refine zE ?_ GE131.out) | exact HB.out)⟩⟩
                      · rw [if_neg c22] at H
                        exact absurd H (by simp)
                    · rw [if_neg c21] at H
                      exact absurd H (by simp)
                  · rw [if_neg c20] at H
                    exact absurd H (by simp)
                · rw [if_neg c19] at H
                  exact absurd H (by simp)
              · rw [if_neg c18] at H
                exact absurd H (by simp)
            · rw [if_neg c17] at H
              have c17b0 : decide (x40_2 < (t124.length : Int)) = false := decide_eq_false c17
              clear c17
              obtain rfl := Option.some.inj H
              go_wp2
              go_ret
              exact ⟨by first | rfl | (simp [errW_none, errW_some] <;> rfl) | (simp [*, errW_none, errW_some] <;> rfl), by repeat (first | (with_reducible first | exact HB.out | apply zF | apply zC | apply zD | refine zE ?_ GE123.out) | exact HB.out)⟩
end Go.Proofs.Ytokdjeoecnnckaa.PA
end
section
namespace Go.Proofs.Ytokdjeoecnnckaa.PA
open Go Go.RowKit Go.Proofs.YtokdjeoecnnckaaW.PrintWords Go.Proofs.YtokdjeoecnnckaaW.PrintLast Go.Proofs.YtokdjeoecnnckaaW.PrintMore
attribute [local go_sem] max2_int min2_int max_two min_two max_three min_three max_four min_four Oper.semAt_some
set_option linter.unusedSimpArgs false
set_option linter.unusedVariables false
def szW (w : Bool) : Int := if w then 5 else 4
def riceAll (K : Int) (L : List Bool) (xs : List Int) : List Bool := xs.foldl (fun L n => (PL.rputR L n (PL.kk K)).2) L
def rawAll (K : Int) (L : List Bool) (xs : List Int) : List Bool := xs.foldl (fun L n => L ++ PL.digs (IntKind.u64.wrap n) (PL.hw K)) L
def putPart (w : Bool) (L : List Bool) (q : S50) (xs : List Int) : List Bool :=
  if q.f1 = true then rawAll q.f0 (L ++ PL.digs 31 (PL.hw (szW w)) ++ PL.digs (IntKind.u64.wrap q.f0) (PL.hw 5)) xs else riceAll q.f0 (L ++ PL.digs (IntKind.u64.wrap q.f0) (PL.hw (szW w))) xs
def putAll15 (w : Bool) (L : List Bool) (xs : List El) : List Bool := xs.foldl (fun L x => putPart w L x.1 x.2.2.2) L
def longEl (x : El) : Bool := !x.1.f1 && x.2.2.2.any (fun n => (section_long.f n x.1.f0).getD false)
theorem rput_len (L : List Bool) (n : Int) (k : Nat) (hk : k ≤ 30) : (PL.rputR L n k).2.length ≤ L.length + 65600 := by
  unfold PL.rputR
  split
  · simp
  · split
    · simp
    · rename_i h1 h2
      rw [List.length_append, PL.putB_len]
      have h3 := PL.fold_near (Decidable.not_not.1 h1)
      have h4 := PL.div_pow_bd (x := PL.fold n) (s := k) h3.1
      omega
theorem riceAll_len (K : Int) : ∀ (xs : List Int) (L : List Bool), (riceAll K L xs).length ≤ L.length + 65600 * xs.length
  | [], L => by simp [riceAll]
  | x :: xs, L => by
    have h1 := rput_len L x (PL.kk K) (PL.kk_le K)
    have h2 := riceAll_len K xs (PL.rputR L x (PL.kk K)).2
    have e : riceAll K L (x :: xs) = riceAll K (PL.rputR L x (PL.kk K)).2 xs := rfl
    rw [e, List.length_cons]
    omega
theorem rawAll_len (K : Int) : ∀ (xs : List Int) (L : List Bool), (rawAll K L xs).length ≤ L.length + 65600 * xs.length
  | [], L => by simp [rawAll]
  | x :: xs, L => by
    have h1 := PL.hw_le K
    have h2 := rawAll_len K xs (L ++ PL.digs (IntKind.u64.wrap x) (PL.hw K))
    rw [List.length_append, PL.digs_len] at h2
    have e : rawAll K L (x :: xs) = rawAll K (L ++ PL.digs (IntKind.u64.wrap x) (PL.hw K)) xs := rfl
    rw [e, List.length_cons]
    omega
theorem riceAll_snoc (K : Int) (L : List Bool) (xs : List Int) (x : Int) : riceAll K L (xs ++ [x]) = (PL.rputR (riceAll K L xs) x (PL.kk K)).2 := by simp [riceAll]
theorem rawAll_snoc (K : Int) (L : List Bool) (xs : List Int) (x : Int) : rawAll K L (xs ++ [x]) = rawAll K L xs ++ PL.digs (IntKind.u64.wrap x) (PL.hw K) := by simp [rawAll]
theorem putAll15_snoc (w : Bool) (L : List Bool) (xs : List El) (x : El) : putAll15 w L (xs ++ [x]) = putPart w (putAll15 w L xs) x.1 x.2.2.2 := by simp [putAll15]
theorem KC.of_KBe {w0 W W' : World} {g : Nat} {f0 : ByteArray} {f1 : Int} (h : KBe w0 W W' g) (hI : zI w0 W g f0 f1) : KC w0 W W' := by
  obtain ⟨cs0, hb0⟩ := hI.blk
  have hge := hI.ge
  refine ⟨h.1.1, fun i hi => h.1.2 i (by have := hI.lt; omega) (by omega) (.inl hi), fun i cs t f hb h5 h58 _ => ?_⟩
  refine (h.1.2 i (blk_lt hb) (fun e => ?_) (.inr fun cs' hc => ?_)).trans hb
  · subst e
    rw [hb0] at hb
    cases hb
    exact h58 rfl
  · rw [hb] at hc
    cases hc
    exact h5 rfl
theorem section_long_same (n k : Int) (w : World) (h : 0 ≤ k) : Calls Try.prog 24 #[.int .i64 n, .int .i64 k] w fun e w' => e = .returned (.bool ((section_long.f n k).getD false)) ∧ Drawn0 w w' := by
  have hs : ∃ b, section_long.f n k = some b := by
    unfold section_long.f rice_Fold.f
    simp only [Option.bind_some]
    rw [if_pos h]
    exact ⟨_, rfl⟩
  obtain ⟨b, hb⟩ := hs
  rw [hb]
  exact section_long.calls n k b w hb
theorem zI.setOther {w0 W : World} {g B : Nat} {f0 : ByteArray} {f1 : Int} {cs : Array Value} {t : TypeId} {fr : Nat × Nat} (h : zI w0 W g f0 f1) (hb : W.heap[B]? = some (.cells cs t fr)) (ht : t ≠ 5 ∧ t ≠ 58) (j : Nat) (v : Value) : zI w0 (W.setCell ⟨B, j, none⟩ v) g f0 f1 :=
  zI.far h (by
    refine ⟨fun e => ?_, fun r cs' hr e => ?_⟩
    · obtain ⟨cs', hb'⟩ := h.blk
      cases e
      rw [hb'] at hb
      cases hb
      exact ht.2 rfl
    · cases e
      rw [hr] at hb
      cases hb
      exact ht.1 rfl) v
theorem KBe.setNew {w0 w W : World} {g B : Nat} (h : KBe w0 w W g) (hB : w.heap.size ≤ B) (j : Nat) (v : Value) : KBe w0 w (W.setCell ⟨B, j, none⟩ v) g := by
  obtain ⟨⟨h1, h2⟩, h3, h4, h5⟩ := h
  have e : ∀ i, i ≠ B → (W.setCell ⟨B, j, none⟩ v).heap[i]? = W.heap[i]? := fun i hi => Below.heap_setCell W ⟨B, j, none⟩ v i hi
  exact ⟨⟨by simpa [World.setCell] using h1, fun i hi hg ho => (e i (by omega)).trans (h2 i hi hg ho)⟩, fun i hi hg hr => (e i (by omega)).trans (h3 i hi hg hr), fun b hb => h4 b (by rw [← rowAt_eq (e g (by omega))]; exact hb), h5⟩
theorem KBe.grown {w0 w X Y : World} {g : Nat} {row : Option Nat} (h : KBe w0 w X g) (hg : X.grownBy Y row) (hr : ∀ r, row = some r → w.heap.size ≤ r) : KBe w0 w Y g := by
  obtain ⟨⟨h1, h2⟩, h3, h4, h5⟩ := h
  have e : ∀ i, i < w.heap.size → Y.heap[i]? = X.heap[i]? := fun i hi => hg.block i (Nat.lt_of_lt_of_le hi h1) (fun e => by have := hr i e.symm; omega)
  exact ⟨⟨Nat.le_trans h1 hg.size, fun i hi hg' ho => (e i hi).trans (h2 i hi hg' ho)⟩, fun i hi hg' hr' => (e i hi).trans (h3 i hi hg' hr'), fun b hb => h4 b (by rw [← rowAt_eq (e g h5)]; exact hb), h5⟩
theorem zI.grownObj {w0 X Y : World} {g : Nat} {f0 : ByteArray} {f1 : Int} {row : Option Nat} (h : zI w0 X g f0 f1) (hg : X.grownBy Y row) (hr : ∀ r, row = some r → ∃ o : Obj, X.heap[r]? = some o ∧ o.isCells = false) : zI w0 Y g f0 f1 :=
  zI.grown h hg (by
    refine ⟨fun e => ?_, fun r cs' hb e => ?_⟩
    · obtain ⟨cs', hb'⟩ := h.blk
      obtain ⟨o, ho, hc⟩ := hr g e.symm
      rw [hb'] at ho
      cases ho
      cases hc
    · obtain ⟨o, ho, hc⟩ := hr r e.symm
      rw [hb] at ho
      cases ho
      cases hc)
theorem rows15_good (w0 w : World) : ∀ (cuts : List Int) (A : Option Addr) (c : Nat) (l : List Int) (ps : List S50), SFits cuts l.length → l.length ≤ c → (∀ W', KC w0 w W' → Kd.C (Kd.int .i64) W' A l.length l) →
    ∀ x ∈ rows15 cuts A c l ps, (∀ W', KC w0 w W' → Kd.C (Kd.int .i64) W' x.2.1 x.2.2.2.length x.2.2.2) ∧ x.2.2.2.length ≤ x.2.2.1 ∧ x.2.2.2.length ≤ l.length ∧ x.1 ∈ ps
  | [], A, c, l, ps, _, _, _, x, hx => by simp [rows15] at hx
  | _ :: _, A, c, l, [], _, _, _, x, hx => by simp [rows15] at hx
  | n :: cs, A, c, l, p :: ps, hf, hc, hC, x, hx => by
    obtain ⟨h0, h1, h2⟩ := hf
    obtain ⟨m, rfl⟩ : ∃ m : Nat, n = (m : Int) := ⟨n.toNat, by omega⟩
    simp only [rows15, Int.toNat_natCast, List.mem_cons] at hx h2
    have hml : m ≤ l.length := by omega
    rcases hx with rfl | hx
    · refine ⟨fun W' hk => Kd.C_take (hC W' hk) hml, ?_, ?_, List.mem_cons_self⟩
      · simp only [List.length_take]; omega
      · simp only [List.length_take]; omega
    · have hlen : (l.drop m).length = l.length - m := by rw [List.length_drop]
      have ih := rows15_good w0 w cs (if m = c then A else A.map (·.add m)) (if m = c then 0 else c - m) (l.drop m) ps (by rw [hlen]; exact h2) (by split <;> omega) (fun W' hk => by
        have hd := Kd.C_drop (c := c) (hC W' hk) hml hc
        by_cases hmc : m = c
        · rw [if_pos hmc.symm] at hd; rw [if_pos hmc]; exact hd
        · rw [if_neg (Ne.symm hmc)] at hd; rw [if_neg hmc]; simpa [show (Kd.int IntKind.i64).sz = 1 from rfl] using hd) x hx
      exact ⟨ih.1, ih.2.1, by have := ih.2.2.1; omega, List.mem_cons_of_mem _ ih.2.2.2⟩
theorem kept_cells {X Y : World} {row : Option Nat} {b : Nat} {cs : Array Value} {t : TypeId} {f : Nat × Nat} (h : X.heap[b]? = some (.cells cs t f)) (hg : X.grownBy Y row) (hr : ∀ r, row = some r → ∃ o : Obj, X.heap[r]? = some o ∧ o.isCells = false) : Y.heap[b]? = some (.cells cs t f) :=
  (hg.block b (Array.getElem?_eq_some_iff.1 h).1 (fun e => by obtain ⟨o, ho, hc⟩ := hr b e.symm; rw [h] at ho; cases ho; cases hc)).trans h
def I15 (w0 w : World) (g : Nat) (wd : Bool) (o : Int) (A3 : Option Addr) (n3 c3 : Nat) (f0 : ByteArray) (f1 : Int) (v : Int) (W : World) : Prop :=
  KC w0 w W ∧ zI w0 W g f0 f1 ∧ KBe w0 w W g ∧ W.heap[w.heap.size]? = some (.cells #[.pointer (some ⟨g, 0, none⟩)] 29 (0, 0)) ∧ W.heap[w.heap.size + 1]? = some (.cells #[.bool wd, .int .i64 o, .slice A3 n3 c3] 25 (0, 0)) ∧ Boxed W (w.heap.size + 1 + 1) 31 (.int .i64 v) ∧ Below w0.heap.size w0 W
theorem I15.grown {w0 w X Y : World} {g : Nat} {wd : Bool} {o : Int} {A3 : Option Addr} {n3 c3 : Nat} {f0 : ByteArray} {f1 v : Int} {row : Option Nat} (h : I15 w0 w g wd o A3 n3 c3 f0 f1 v X) (hs : w0.heap.size ≤ w.heap.size) (hg : X.grownBy Y row) (hr : ∀ r, row = some r → w.heap.size ≤ r ∧ ∃ o : Obj, X.heap[r]? = some o ∧ o.isCells = false) : I15 w0 w g wd o A3 n3 c3 f0 f1 v Y := by
  obtain ⟨h1, h2, h3, h4, h5, h6, h7⟩ := h
  have hr2 := fun r e => (hr r e).2
  refine ⟨h1.trans ⟨hg.size, fun i hi => hg.block i (by have := h1.1; omega) (fun e => by have := (hr i e.symm).1; omega), fun i cs t f hb _ _ _ => kept_cells hb hg hr2⟩, h2.grownObj hg hr2, h3.grown hg (fun r e => (hr r e).1), kept_cells h4 hg hr2, kept_cells h5 hg hr2, kept_cells h6 hg hr2, ?_⟩
  exact ⟨hg.os.trans h7.os, hg.tape.trans h7.tape, hg.output.trans h7.output, Nat.le_trans h7.size hg.size, fun i hi => (hg.block i (by have := h7.size; omega) (fun e => by have := (hr i e.symm).1; omega)).trans (h7.block i hi)⟩
theorem I15.turn {w0 w X Y : World} {g B : Nat} {wd : Bool} {o : Int} {A3 : Option Addr} {n3 c3 : Nat} {f0 : ByteArray} {f1 v : Int} (h : I15 w0 w g wd o A3 n3 c3 f0 f1 v X) (hs : w0.heap.size ≤ w.heap.size) (hB : w.heap.size + 3 ≤ B) (ht : Turn15 B X Y) : I15 w0 w g wd o A3 n3 c3 f0 f1 v Y := by
  obtain ⟨h1, h2, h3, h4, h5, h6, h7⟩ := h
  obtain ⟨u, u', hb, rfl⟩ := ht
  exact ⟨h1.trans (KC.set hb rfl (by omega) 0 u), h2.setOther hb (by decide) 0 u, h3.setNew (by omega) 0 u, zP h4 (by show w.heap.size ≠ B; omega) u, zP h5 (by show w.heap.size + 1 ≠ B; omega) u, zP h6 (by show w.heap.size + 1 + 1 ≠ B; omega) u, h7.setCell (p := ⟨B, 0, none⟩) (by show w0.heap.size ≤ B; omega) u⟩
theorem I15.below {w0 w X Y : World} {g : Nat} {wd : Bool} {o : Int} {A3 : Option Addr} {n3 c3 : Nat} {f0 : ByteArray} {f1 v : Int} (h : I15 w0 w g wd o A3 n3 c3 f0 f1 v X) (hs : w0.heap.size ≤ w.heap.size) (hb : Below X.heap.size X Y) : I15 w0 w g wd o A3 n3 c3 f0 f1 v Y :=
  h.grown hs (grown_of_below hb none) (fun r e => by cases e)
end Go.Proofs.Ytokdjeoecnnckaa.PA
end
section
namespace Go.Proofs.Ytokdjeoecnnckaa
open Go Go.RowKit Go.Proofs.YtokdjeoecnnckaaW.PrintWords Go.Proofs.YtokdjeoecnnckaaW.PrintLast
theorem rowsIn_wide' {n : Nat} {P : Program} {row : String} {args : Array Value} {w : World} {R : Value → World → Prop} (h : Rows P row args w R) : RowsIn Fence.wide n P row args w R :=
  fun c cs _ => let ⟨v, w', r, s⟩ := h c cs; ⟨v, w', r, stepsIn_wide.2 s⟩
theorem wpOpIn_of_wpOp {n : Nat} {P : Program} {ops : Array Oper} {Q : Exit → Act → World → Prop} {i : Nat} {K : Act → World → Prop} {a : Act} {w : World} (hQ : ¬ LetsOut Q) (h : wpOp P ops Q i K a w) : wpOpIn Fence.wide n P ops Q i K a w := by
  unfold wpOp at h
  unfold wpOpIn
  cases ho : ops[i]? with
  | none => simp only [ho] at h ⊢; exact h
  | some o =>
    simp only [ho] at h ⊢
    by_cases hw : Region.wanted o (yielded ops a.tmps) = true
    · rw [if_pos hw] at h ⊢
      have h := h.resolve_right (fun e => hQ e.2)
      refine ⟨fun _ _ => trivial, ?_⟩
      unfold Oper.wp at h
      rw [show Oper.semAt Fence.wide.round a.eval o = execOp a.eval o from rfl]
      generalize (execOp a.eval o).run P w = r at *
      cases r with
      | ok x w' =>
        cases x <;> simp only [Oper.upon, Oper.uponIn] at h ⊢ <;>
          first
            | exact h
            | exact ⟨by simp [Fence.wide], callsIn_wide.2 h⟩
            | exact ⟨by simp [Fence.wide], rowsIn_wide' h⟩
      | halt x w' => cases x <;> simp only [Oper.upon, Oper.uponIn] at h ⊢ <;> exact h
    · rw [if_neg hw] at h ⊢
      exact ⟨fun _ _ => trivial, h⟩
theorem wpAnyIn_of_wpAny {n : Nat} {P : Program} {md : Region.Mode} {ops : Array Oper} {Q : Exit → Act → World → Prop} (hQ : ¬ LetsOut Q) : ∀ (fuel : Nat) (listed : Array Bool) (a : Act) (w : World), wpAny P md ops Q fuel listed a w → wpAnyIn Fence.wide n P md ops Q fuel listed a w
  | 0, _, _, _, h => h
  | fuel + 1, _, _, _, h => ⟨h.1, fun i hi => wpOpIn_of_wpOp hQ (wpOp_mono (fun a' w' h' => wpAnyIn_of_wpAny hQ fuel _ a' w' h') (h.2 i hi))⟩
theorem startR_ {P : Program} {ops : Array Oper} {Q : Exit → Act → World → Prop} {S : World → Prop} {ds : List Nat} {id n m lp : Nat} {a : Act} {w : World} (l : Array Bool) (hm : P.follows .mixedOrders = true) (hd : noDefer ops = true) (hQ : ¬ LetsOut Q) (hn : ops.size = n) (hl : Array.replicate n false = l) (hS : S w.drew)
    (h : S w.drew → wpAnyLast P .any ops Q S ds n l a w.drew) : (Code.region id ops true).wpIn (Fence.wide.inRound lp) m P Q a w := by
  subst hn
  subst hl
  refine wpIn_region_any hm ?_
  exact wpAnyIn_in lp rfl hd _ _ _ _ (wpAnyIn_of_wpAny hQ _ _ _ _ (wpAny_of_last _ _ _ _ (h hS)))
end Go.Proofs.Ytokdjeoecnnckaa
end
section
namespace Go.Proofs.Ytokdjeoecnnckaa.PA
open Go Go.RowKit Go.Proofs.YtokdjeoecnnckaaW.PrintWords Go.Proofs.YtokdjeoecnnckaaW.PrintLast Go.Proofs.YtokdjeoecnnckaaW.PrintMore
attribute [local go_sem] max2_int min2_int max_two min_two max_three min_three max_four min_four Oper.semAt_some
set_option linter.unusedSimpArgs false
set_option linter.unusedVariables false
theorem KC.setNew {w0 w W : World} {B : Nat} (h : KC w0 w W) (hs : w0.heap.size ≤ w.heap.size) (hB : w.heap.size ≤ B) (j : Nat) (v : Value) : KC w0 w (W.setCell ⟨B, j, none⟩ v) := by
  have e : ∀ i, i ≠ B → (W.setCell ⟨B, j, none⟩ v).heap[i]? = W.heap[i]? := fun i hi => Below.heap_setCell W ⟨B, j, none⟩ v i hi
  exact ⟨by simpa [World.setCell] using h.1, fun i hi => (e i (by omega)).trans (h.2.1 i hi), fun i cs t f hb a b c => (e i (by have := blk_lt hb; omega)).trans (h.2.2 i cs t f hb a b c)⟩
theorem I15.told {w0 w X : World} {g : Nat} {wd : Bool} {o : Int} {A3 : Option Addr} {n3 c3 : Nat} {f0 : ByteArray} {f1 v : Int} (h : I15 w0 w g wd o A3 n3 c3 f0 f1 v X) (hs : w0.heap.size ≤ w.heap.size) (u : Int) : I15 w0 w g wd o A3 n3 c3 f0 f1 u (X.setCell ⟨w.heap.size + 1 + 1, 0, none⟩ (.int .i64 u)) := by
  obtain ⟨h1, h2, h3, h4, h5, h6, h7⟩ := h
  exact ⟨h1.setNew hs (by omega) 0 _, h2.setOther h6 (by decide) 0 _, h3.setNew (by omega) 0 _, zP h4 (by show w.heap.size ≠ _; simp; omega) _, zP h5 (by show w.heap.size + 1 ≠ _; simp) _, blk_set h6 0 _, h7.setCell (p := ⟨w.heap.size + 1 + 1, 0, none⟩) (by show w0.heap.size ≤ _; simp; omega) _⟩
theorem KeepsFrom.drewN (B : Nat) (Z : World) (d : Nat) : KeepsFrom B Z (Z.drewN d) := ⟨Nat.le_refl _, fun _ _ _ h _ => h⟩
theorem Kp15.drewN (w0 : World) (B : Nat) (Z : World) (d : Nat) : Kp15 w0 B Z (Z.drewN d) := ⟨⟨Nat.le_refl _, fun _ _ => rfl, fun _ _ _ _ h _ _ _ => h⟩, fun _ _ _ h => h⟩
theorem longEl_false {q : S50} {A : Option Addr} {c : Nat} {xs : List Int} (h : ∀ j : Nat, j < xs.length → (!q.f1 && (section_long.f (rd xs (j : Int)) q.f0).getD false) = false) : longEl (q, A, c, xs) = false := by
  unfold longEl
  cases hq : q.f1 with
  | true => rfl
  | false =>
    simp only [Bool.not_false, Bool.true_and]
    rw [List.any_eq_false]
    intro x hx
    obtain ⟨j, hj, rfl⟩ := List.getElem_of_mem hx
    have h2 := h j hj
    rw [hq] at h2
    unfold rd at h2
    simp only [Bool.not_false, Bool.true_and, Int.toNat_natCast, List.getD_eq_getElem?_getD, List.getElem?_eq_getElem hj, Option.getD_some] at h2
    simp [h2]
theorem longEl_at {q : S50} {A : Option Addr} {c : Nat} {xs : List Int} (h : longEl (q, A, c, xs) = false) (hq : q.f1 = false) {i : Nat} (hi : i < xs.length) : (section_long.f (rd xs (i : Int)) q.f0).getD false = false := by
  unfold longEl at h
  simp only [hq, Bool.not_false, Bool.true_and, List.any_eq_false] at h
  have h2 := h _ (List.getElem_mem hi)
  unfold rd
  simp only [Int.toNat_natCast, List.getD_eq_getElem?_getD, List.getElem?_eq_getElem hi, Option.getD_some]
  simpa using h2
theorem KBe.same {w0 Z V : World} {g : Nat} {f0 : ByteArray} {f1 : Int} (h : KBe w0 Z V g) (hI : zI w0 Z g f0 f1) {i : Nat} {o : Obj} (hi : Z.heap[i]? = some o) (ho : ∀ cs f, o ≠ .cells cs 5 f ∧ o ≠ .cells cs 58 f) : V.heap[i]? = some o := by
  obtain ⟨cs0, hb0⟩ := hI.blk
  refine (h.1.2 i (Array.getElem?_eq_some_iff.1 hi).1 (fun e => ?_) (.inr fun cs' hc => ?_)).trans hi
  · subst e
    rw [hb0] at hi
    cases hi
    exact (ho _ _).2 rfl
  · rw [hi] at hc
    cases hc
    exact (ho _ _).1 rfl
theorem KeepsFrom.of_KBe {w0 Z V : World} {g : Nat} {f0 : ByteArray} {f1 : Int} (h : KBe w0 Z V g) (hI : zI w0 Z g f0 f1) (B : Nat) : KeepsFrom B Z V :=
  ⟨h.1.1, fun i o _ hi ho => h.same hI hi (fun cs f => ⟨fun e => (by rw [e] at ho; cases ho), fun e => (by rw [e] at ho; cases ho)⟩)⟩
def J15 (w0 w : World) (g : Nat) (wd : Bool) (o : Int) (A3 : Option Addr) (n3 c3 : Nat) (L : List Bool) (B D : Nat) (W : World) : Prop :=
  I15 w0 w g wd o A3 n3 c3 (PL.WB L) (L.length : Int) 0 W ∧ (∃ u, W.heap[B]? = some (.cells #[u] 22 (0, 0))) ∧ W.heap[D]? = some (.deferred (some []))
theorem J15.grown {w0 w X Y : World} {g : Nat} {wd : Bool} {o : Int} {A3 : Option Addr} {n3 c3 : Nat} {L : List Bool} {B D S : Nat} {row : Option Nat} (h : J15 w0 w g wd o A3 n3 c3 L B D X) (hs : w0.heap.size ≤ w.heap.size) (hS : w.heap.size ≤ S) (hD : D < S) (hg : X.grownBy Y row) (hr : ∀ r, row = some r → S ≤ r ∧ ∃ o : Obj, X.heap[r]? = some o ∧ o.isCells = false) : J15 w0 w g wd o A3 n3 c3 L B D Y := by
  obtain ⟨h1, ⟨u, h2⟩, h3⟩ := h
  exact ⟨h1.grown hs hg (fun r e => ⟨by have := (hr r e).1; omega, (hr r e).2⟩), ⟨u, kept_cells h2 hg (fun r e => (hr r e).2)⟩, (hg.block _ (Array.getElem?_eq_some_iff.1 h3).1 (fun e => by have := (hr _ e.symm).1; omega)).trans h3⟩
theorem J15.below {w0 w X Y : World} {g : Nat} {wd : Bool} {o : Int} {A3 : Option Addr} {n3 c3 : Nat} {L : List Bool} {B D : Nat} (h : J15 w0 w g wd o A3 n3 c3 L B D X) (hs : w0.heap.size ≤ w.heap.size) (hb : Below X.heap.size X Y) : J15 w0 w g wd o A3 n3 c3 L B D Y := by
  obtain ⟨h1, ⟨u, h2⟩, h3⟩ := h
  exact ⟨h1.below hs hb, ⟨u, blk_below h2 hb⟩, (hb.block _ (Array.getElem?_eq_some_iff.1 h3).1).trans h3⟩
theorem J15.turn {w0 w X Y : World} {g : Nat} {wd : Bool} {o : Int} {A3 : Option Addr} {n3 c3 : Nat} {L : List Bool} {B D : Nat} (h : J15 w0 w g wd o A3 n3 c3 L B D X) (hs : w0.heap.size ≤ w.heap.size) (hB : w.heap.size + 3 ≤ B) (ht : Turn15 B X Y) : J15 w0 w g wd o A3 n3 c3 L B D Y := by
  obtain ⟨h1, ⟨u, h2⟩, h3⟩ := h
  refine ⟨h1.turn hs hB ht, ?_⟩
  obtain ⟨v, u', hb, rfl⟩ := ht
  refine ⟨⟨v, by simpa using blk_set hb 0 v⟩, ?_⟩
  rw [Below.heap_setCell X ⟨B, 0, none⟩ v D (by rintro rfl; rw [h3] at hb; cases hb)]
  exact h3
theorem I15.put {w0 w X Y : World} {g : Nat} {wd : Bool} {o : Int} {A3 : Option Addr} {n3 c3 : Nat} {f0 e0 : ByteArray} {f1 e1 v : Int} (h : I15 w0 w g wd o A3 n3 c3 f0 f1 v X) (hI : zI w0 Y g e0 e1) (hb : Below w0.heap.size w0 Y) (hk : KBe w0 X Y g) : I15 w0 w g wd o A3 n3 c3 e0 e1 v Y := by
  obtain ⟨h1, h2, h3, h4, h5, h6, h7⟩ := h
  exact ⟨h1.trans (KC.of_KBe hk h2), hI, h3.trans hk, hk.same h2 h4 (by simp), hk.same h2 h5 (by simp), hk.same h2 h6 (by simp), hb⟩
theorem J15.put {w0 w X Y : World} {g : Nat} {wd : Bool} {o : Int} {A3 : Option Addr} {n3 c3 : Nat} {L L' : List Bool} {B D : Nat} (h : J15 w0 w g wd o A3 n3 c3 L B D X) (hI : zI w0 Y g (PL.WB L') (L'.length : Int)) (hb : Below w0.heap.size w0 Y) (hk : KBe w0 X Y g) : J15 w0 w g wd o A3 n3 c3 L' B D Y := by
  obtain ⟨⟨h1, h2, h3, h4, h5, h6, h7⟩, ⟨u, h8⟩, h9⟩ := h
  have hc := KC.of_KBe hk h2
  exact ⟨⟨h1.trans hc, hI, h3.trans hk, hk.same h2 h4 (by simp), hk.same h2 h5 (by simp), hk.same h2 h6 (by simp), hb⟩, ⟨u, hk.same h2 h8 (by simp)⟩, hk.same h2 h9 (by simp)⟩
theorem Kp15.of_KBe {w0 w X Y : World} {g : Nat} {wd : Bool} {o : Int} {A3 : Option Addr} {n3 c3 : Nat} {L : List Bool} {B D : Nat} (h : J15 w0 w g wd o A3 n3 c3 L B D X) (hk : KBe w0 X Y g) : Kp15 w0 B X Y := by
  obtain ⟨⟨h1, h2, h3, h4, h5, h6, h7⟩, ⟨u, h8⟩, h9⟩ := h
  refine ⟨KC.of_KBe hk h2, fun cs t f e => hk.same h2 e (fun cs' f' => ⟨fun e' => ?_, fun e' => ?_⟩)⟩ <;>
  · rw [e'] at e
    rw [h8] at e
    cases e
theorem putPart_len (w : Bool) (L : List Bool) (q : S50) (xs : List Int) : (putPart w L q xs).length ≤ L.length + (200 + 65600 * xs.length) := by
  have hs : PL.hw (szW w) ≤ 64 := PL.hw_le _
  have h5 : PL.hw 5 ≤ 64 := PL.hw_le _
  unfold putPart
  split
  · have := rawAll_len q.f0 xs (L ++ PL.digs 31 (PL.hw (szW w)) ++ PL.digs (IntKind.u64.wrap q.f0) (PL.hw 5))
    simp only [List.length_append, PL.digs_len] at this
    omega
  · have := riceAll_len q.f0 xs (L ++ PL.digs (IntKind.u64.wrap q.f0) (PL.hw (szW w)))
    simp only [List.length_append, PL.digs_len] at this
    omega
theorem putAll15_len (w : Bool) (n : Nat) : ∀ (xs : List El) (L : List Bool), (∀ x ∈ xs, x.2.2.2.length ≤ n) → (putAll15 w L xs).length ≤ L.length + xs.length * (200 + 65600 * n)
  | [], L, _ => by simp [putAll15]
  | x :: xs, L, h => by
    have h1 := putPart_len w L x.1 x.2.2.2
    have h2 := putAll15_len w n xs (putPart w L x.1 x.2.2.2) (fun y hy => h y (List.mem_cons_of_mem _ hy))
    have h3 := h x List.mem_cons_self
    have e : putAll15 w L (x :: xs) = putAll15 w (putPart w L x.1 x.2.2.2) xs := rfl
    rw [e, List.length_cons, Nat.add_mul, Nat.one_mul]
    have h4 : 65600 * x.2.2.2.length ≤ 65600 * n := Nat.mul_le_mul_left _ h3
    omega
theorem rows15_len : ∀ (cuts : List Int) (A : Option Addr) (c : Nat) (l : List Int) (ps : List S50), (rows15 cuts A c l ps).length ≤ cuts.length
  | [], A, c, l, ps => by simp [rows15]
  | _ :: _, A, c, l, [] => by simp [rows15]
  | n :: cs, A, c, l, p :: ps => by
    have := rows15_len cs (if n.toNat = c then A else A.map (·.add n.toNat)) (if n.toNat = c then 0 else c - n.toNat) (l.drop n.toNat) ps
    simp only [rows15, List.length_cons]
    omega
theorem rows15_sub : ∀ (cuts : List Int) (A : Option Addr) (c : Nat) (l : List Int) (ps : List S50), ∀ x ∈ rows15 cuts A c l ps, ∀ y ∈ x.2.2.2, y ∈ l
  | [], A, c, l, ps, x, hx => by simp [rows15] at hx
  | _ :: _, A, c, l, [], x, hx => by simp [rows15] at hx
  | n :: cs, A, c, l, p :: ps, x, hx => by
    simp only [rows15, List.mem_cons] at hx
    rcases hx with rfl | hx
    · exact fun y hy => List.mem_of_mem_take hy
    · exact fun y hy => List.mem_of_mem_drop (rows15_sub cs _ _ _ ps x hx y hy)
def headB (L : List Bool) (wd : Bool) (o : Int) : List Bool := (L ++ PL.digs (if wd then 1 else 0) (PL.hw 2)) ++ PL.digs (IntKind.u64.wrap o) (PL.hw 4)
theorem put_room (wd : Bool) (o : Int) (cuts : List Int) (A : Option Addr) (c : Nat) (l : List Int) (ps : List S50) (L : List Bool) (pre : List El) (x : El) (hfull : pre ++ [x] <+: rows15 cuts A c l ps) (hlen : ∀ y ∈ rows15 cuts A c l ps, y.2.2.2.length ≤ l.length) (hroom : L.length + 200 + cuts.length * (200 + 65600 * l.length) < 1000000000000) :
    (putAll15 wd (headB L wd o) pre).length + (200 + 65600 * x.2.2.2.length) < 1000000000000 := by
  have h1 := putAll15_len wd l.length pre (headB L wd o) (fun y hy => hlen y (hfull.subset (List.mem_append_left _ hy)))
  have h2 : (headB L wd o).length ≤ L.length + 128 := by
    have a1 := PL.hw_le 2
    have a2 := PL.hw_le 4
    unfold headB
    simp only [List.length_append, PL.digs_len]
    omega
  have h3 := hfull.length_le
  have h4 := rows15_len cuts A c l ps
  rw [List.length_append, List.length_singleton] at h3
  have h5 : (pre.length + 1) * (200 + 65600 * l.length) ≤ cuts.length * (200 + 65600 * l.length) := Nat.mul_le_mul_right _ (by omega)
  have h6 := hlen x (hfull.subset (by simp))
  rw [Nat.add_mul, Nat.one_mul] at h5
  have h7 : 65600 * x.2.2.2.length ≤ 65600 * l.length := Nat.mul_le_mul_left _ h6
  omega
set_option maxRecDepth 100000 in
set_option maxHeartbeats 8000000 in
theorem sec_Put_arg (k : Nat) (g : Nat) (s0_0 : ByteArray) (s0_1 : Int) (A : Option Addr) (c : Nat) (l : List Int) (order : Int) (wd : Bool) (o : Int) (A3 : Option Addr) (c3 : Nat) (ps : List S50) (r : Int) (w0 w : World) (hI : zI w0 w g s0_0 s0_1) (hB : Below w0.heap.size w0 w)
    (hC1 : ∀ W', KC w0 w W' → Kd.C (Kd.int .i64) W' A l.length l) (hc1 : l.length ≤ c) (hC3 : ∀ W', KC w0 w W' → Kd.C k50 W' A3 ps.length ps) (hc3 : ps.length ≤ c3) (hbits : parts_Bits.f k l order wd o ps = some r) (hneg : r < 0) :
    Calls Try.prog 9 #[.pointer (some ⟨g, 0, none⟩), .slice A l.length c, .int .i64 order, .agg #[.bool wd, .int .i64 o, .slice A3 ps.length c3]] w fun e w' => e = .returned (.int .i64 1) ∧ zI w0 w' g s0_0 s0_1 ∧ Below w0.heap.size w0 w' ∧ KBe w0 w w' g := by
  have hu25 := Try.underlying25
  have hu50 := Try.underlying50
  have hsz : w0.heap.size ≤ w.heap.size := hB.size
  have hd : decide (r < 0) = true := decide_eq_true hneg
  have HI := zG.mk hI
  have HB := zG.mk hB
  have HC1 := zG.mk hC1
  have HC3 := zG.mk hC3
  have Hc1 := zG.mk hc1
  have Hc3 := zG.mk hc3
  have HBT := zG.mk hbits
  clear hI hB hC1 hC3 hc1 hc3 hbits hneg
  refine (callsIn_wide (n := 6)).1 ?_
  refine callsIn_of_wp_marks Try.func9 rfl trivial ?_ rfl
  simp only [Try.ntmps9, List.size_toArray, List.length_cons, List.length_nil, Nat.reduceAdd, Nat.reduceSub, Array.replicate_succ, Array.replicate_zero, List.push_toArray, List.append_toArray, List.nil_append, List.cons_append]
  obtain ⟨W0, hW0⟩ : ∃ W0, ((w.alloc (.cells #[.pointer (some ⟨g, 0, none⟩)] 29)).alloc (.cells #[.bool wd, .int .i64 o, .slice A3 ps.length c3] 25)).alloc (.cells #[.int .i64 0] 31) = W0 := ⟨_, rfl⟩
  have b4 : W0.heap[w.heap.size]? = some (.cells #[.pointer (some ⟨g, 0, none⟩)] 29 (0, 0)) := by rw [← hW0]; exact zK (zK (World.alloc_heap_new w _) _) _
  have b7 : W0.heap[w.heap.size + 1]? = some (.cells #[.bool wd, .int .i64 o, .slice A3 ps.length c3] 25 (0, 0)) := by
    have h := World.alloc_heap_new (w.alloc (.cells #[.pointer (some ⟨g, 0, none⟩)] 29)) (.cells #[.bool wd, .int .i64 o, .slice A3 ps.length c3] 25)
    rw [World.size_alloc] at h
    rw [← hW0]; exact zK h _
  have b8 : Boxed W0 (w.heap.size + 1 + 1) 31 (.int .i64 0) := by
    have h := Boxed.new ((w.alloc (.cells #[.pointer (some ⟨g, 0, none⟩)] 29)).alloc (.cells #[.bool wd, .int .i64 o, .slice A3 ps.length c3] 25)) 31 (.int .i64 0)
    rw [World.size_alloc, World.size_alloc] at h
    rw [← hW0]; exact h
  have hBw : Below w.heap.size w W0 := by rw [← hW0]; exact (((Below.refl _ w).alloc (Nat.le_refl _) _).alloc (by simp) _).alloc (by simp; omega) _
  have hs0 : W0.heap.size = w.heap.size + 3 := by rw [← hW0]; simp
  have hz4 : W0.cell? ⟨w.heap.size, 0, none⟩ = some (.pointer (some ⟨g, 0, none⟩)) := (zN b4 0).trans rfl
  have hz70 : W0.cell? ⟨w.heap.size + 1, 0, none⟩ = some (.bool wd) := (zN b7 0).trans rfl
  have hz71 : W0.cell? ⟨w.heap.size + 1, 1, none⟩ = some (.int .i64 o) := (zN b7 1).trans rfl
  have hz72 : W0.cell? ⟨w.heap.size + 1, 2, none⟩ = some (.slice A3 ps.length c3) := (zN b7 2).trans rfl
  have K0 := zG.mk (KC.of_below hsz hBw)
  have I0 := zG.mk (zI.below HI.out hBw)
  have E0 := zG.mk (KBe.below (KBe.refl w0 HI.out) hBw)
  have B0 := zG.mk (below_step HB.out hBw)
  have X4 := zG.mk b4
  have X7 := zG.mk b7
  have X8 := zG.mk b8
  have S0 := zG.mk hs0
  have BW := zG.mk hBw
  clear b4 b7 b8 hBw hs0
  have HV : ∀ W, KC w0 w W → Kd.V (Kd.int .i64) 3 W W.heap.size (fun _ => True) (.slice A l.length c) l := fun W hW => Kd.V_mk Hc1.out (fun W' hW' => (Kd.heap_int .i64).C (fun j hj => hW' j trivial hj) (HC1.out W hW))
  have HVV := zG.mk HV
  clear HV
  gi_wp2
  refine wpIn_scope_straight ?_
  gi_wp2_with (refine ⟨trivial, ?_⟩; gi_at_call 10; refine (callsIn_wide.2 (parts_Bits.calls k (fun _ => True) A c l order wd o A3 c3 ps r _ ?side1 ?side2 Hc3.out HBT.out)).mono ?_; (case side1 => exact HVV.out _ K0.out); (case side2 => exact HC3.out _ K0.out); rintro e w1 ⟨rfl, hb1⟩; have BB := zG.mk hb1; clear hb1; have X8n := zG.mk (show Boxed w1 (w.heap.size + 1 + 1) 31 (.int .i64 0) from blk_below (g := w.heap.size + 1 + 1) X8.out BB.out); have hc8 := X8n.out.cell; have hf8 := X8n.out.frozen)
  have hc5 := World.cell?_setCell_same' w1 ⟨w.heap.size + 1 + 1, 0, none⟩ (.int .i64 1) (by rw [hc8]; rfl)
  rw [Exit.noGoto_ret]
  refine ⟨.int .i64 1, ?_, rfl, zI.setOther (zI.below I0.out BB.out) X8n.out (by decide) 0 _, (below_step B0.out BB.out).setCell (p := ⟨w.heap.size + 1 + 1, 0, none⟩) (by simp; omega) _, KBe.setNew (KBe.below E0.out BB.out) (by omega) 0 _⟩
  simp [results, Try.f9, go_sem, hc5]
set_option maxRecDepth 100000 in
set_option maxHeartbeats 8000000 in
theorem sec_Put_long (k : Nat) (g : Nat) (s0_0 : ByteArray) (s0_1 : Int) (A : Option Addr) (c : Nat) (l : List Int) (order : Int) (wd : Bool) (o : Int) (A3 : Option Addr) (c3 : Nat) (ps : List S50) (cuts : List Int) (r : Int) (w0 w : World) (hI : zI w0 w g s0_0 s0_1) (hB : Below w0.heap.size w0 w)
    (hC1 : ∀ W', KC w0 w W' → Kd.C (Kd.int .i64) W' A l.length l) (hc1 : l.length ≤ c) (hC3 : ∀ W', KC w0 w W' → Kd.C k50 W' A3 ps.length ps) (hc3 : ps.length ≤ c3) (hbits : parts_Bits.f k l order wd o ps = some r) (hpos : 0 ≤ r)
    (hcut : parts_Cuts.f k (l.length : Int) order o = some cuts) (hfit : SFits cuts l.length) (hlen : cuts.length = ps.length) (hbig : cuts.length < 1000000) (hl9 : l.length < 1000000) (hK : ∀ p ∈ ps, p.f1 = true ∨ 0 ≤ p.f0)
    (hlong : ∃ x ∈ rows15 cuts A c l ps, longEl x = true) :
    Calls Try.prog 9 #[.pointer (some ⟨g, 0, none⟩), .slice A l.length c, .int .i64 order, .agg #[.bool wd, .int .i64 o, .slice A3 ps.length c3]] w fun e w' => e = .returned (.int .i64 7) ∧ zI w0 w' g s0_0 s0_1 ∧ Below w0.heap.size w0 w' ∧ KBe w0 w w' g := by
  have hu25 := Try.underlying25
  have hu50 := Try.underlying50
  have hsz : w0.heap.size ≤ w.heap.size := hB.size
  have hd : decide (r < 0) = false := decide_eq_false (by omega)
  have HGOOD := zG.mk (rows15_good w0 w cuts A c l ps hfit hc1 hC1)
  have HI := zG.mk hI
  have HB := zG.mk hB
  have HC1 := zG.mk hC1
  have HC3 := zG.mk hC3
  have Hc1 := zG.mk hc1
  have Hc3 := zG.mk hc3
  have HBT := zG.mk hbits
  have HCUT := zG.mk hcut
  have HFIT := zG.mk hfit
  have HLEN := zG.mk hlen
  have HBIG := zG.mk hbig
  have HL9 := zG.mk hl9
  have HKK := zG.mk hK
  have HLONG := zG.mk hlong
  clear hI hB hC1 hC3 hc1 hc3 hbits hpos hcut hfit hlen hbig hl9 hK hlong
  refine (callsIn_wide (n := 6)).1 ?_
  refine callsIn_of_wp_marks Try.func9 rfl trivial ?_ rfl
  simp only [Try.ntmps9, List.size_toArray, List.length_cons, List.length_nil, Nat.reduceAdd, Nat.reduceSub, Array.replicate_succ, Array.replicate_zero, List.push_toArray, List.append_toArray, List.nil_append, List.cons_append]
  obtain ⟨W0, hW0⟩ : ∃ W0, ((w.alloc (.cells #[.pointer (some ⟨g, 0, none⟩)] 29)).alloc (.cells #[.bool wd, .int .i64 o, .slice A3 ps.length c3] 25)).alloc (.cells #[.int .i64 0] 31) = W0 := ⟨_, rfl⟩
  have b4 : W0.heap[w.heap.size]? = some (.cells #[.pointer (some ⟨g, 0, none⟩)] 29 (0, 0)) := by rw [← hW0]; exact zK (zK (World.alloc_heap_new w _) _) _
  have b7 : W0.heap[w.heap.size + 1]? = some (.cells #[.bool wd, .int .i64 o, .slice A3 ps.length c3] 25 (0, 0)) := by
    have h := World.alloc_heap_new (w.alloc (.cells #[.pointer (some ⟨g, 0, none⟩)] 29)) (.cells #[.bool wd, .int .i64 o, .slice A3 ps.length c3] 25)
    rw [World.size_alloc] at h
    rw [← hW0]; exact zK h _
  have b8 : Boxed W0 (w.heap.size + 1 + 1) 31 (.int .i64 0) := by
    have h := Boxed.new ((w.alloc (.cells #[.pointer (some ⟨g, 0, none⟩)] 29)).alloc (.cells #[.bool wd, .int .i64 o, .slice A3 ps.length c3] 25)) 31 (.int .i64 0)
    rw [World.size_alloc, World.size_alloc] at h
    rw [← hW0]; exact h
  have hBw : Below w.heap.size w W0 := by rw [← hW0]; exact (((Below.refl _ w).alloc (Nat.le_refl _) _).alloc (by simp) _).alloc (by simp; omega) _
  have hs0 : W0.heap.size = w.heap.size + 3 := by rw [← hW0]; simp
  have hz4 : W0.cell? ⟨w.heap.size, 0, none⟩ = some (.pointer (some ⟨g, 0, none⟩)) := (zN b4 0).trans rfl
  have hz70 : W0.cell? ⟨w.heap.size + 1, 0, none⟩ = some (.bool wd) := (zN b7 0).trans rfl
  have hz71 : W0.cell? ⟨w.heap.size + 1, 1, none⟩ = some (.int .i64 o) := (zN b7 1).trans rfl
  have hz72 : W0.cell? ⟨w.heap.size + 1, 2, none⟩ = some (.slice A3 ps.length c3) := (zN b7 2).trans rfl
  have K0 := zG.mk (KC.of_below hsz hBw)
  have I0 := zG.mk (zI.below HI.out hBw)
  have E0 := zG.mk (KBe.below (KBe.refl w0 HI.out) hBw)
  have B0 := zG.mk (below_step HB.out hBw)
  have X4 := zG.mk b4
  have X7 := zG.mk b7
  have X8 := zG.mk b8
  have S0 := zG.mk hs0
  have BW := zG.mk hBw
  clear b4 b7 b8 hBw hs0
  have HV : ∀ W, KC w0 w W → Kd.V (Kd.int .i64) 3 W W.heap.size (fun _ => True) (.slice A l.length c) l := fun W hW => Kd.V_mk Hc1.out (fun W' hW' => (Kd.heap_int .i64).C (fun j hj => hW' j trivial hj) (HC1.out W hW))
  have HVV := zG.mk HV
  clear HV
  gi_wp2
  refine wpIn_scope_straight ?_
  gi_wp2_with (first
    | (refine ⟨trivial, ?_⟩; gi_at_call 10; refine (callsIn_wide.2 (parts_Bits.calls k (fun _ => True) A c l order wd o A3 c3 ps r _ ?side1 ?side2 Hc3.out HBT.out)).mono ?_; (case side1 => exact HVV.out _ K0.out); (case side2 => exact HC3.out _ K0.out); rintro e w1 ⟨rfl, hb1⟩; have BB := zG.mk hb1; clear hb1; have X7n := zG.mk (blk_below (g := w.heap.size + 1) X7.out BB.out); clear hz4 hz70 hz71 hz72; have hz70 := (zN X7n.out 0).trans rfl; have hz71 := (zN X7n.out 1).trans rfl; have hz72 := (zN X7n.out 2).trans rfl)
    | (refine ⟨trivial, ?_⟩; gi_at_call 23; refine (sec_each_in _ A l.length c order wd o A3 ps.length c3 _).mono ?_; rintro e w2 ⟨rfl, rfl⟩))
  obtain ⟨W2, hW2⟩ : ∃ W2, ((w1.alloc (.cells #[.slice A l.length c] 22)).alloc (.cells #[.int .i64 order] 3)).alloc (.cells #[.bool wd, .int .i64 o, .slice A3 ps.length c3] 25) = W2 := ⟨_, rfl⟩
  have c1 : W2.heap[w1.heap.size]? = some (.cells #[.slice A l.length c] 22 (0, 0)) := by rw [← hW2]; exact zK (zK (World.alloc_heap_new w1 _) _) _
  have c2 : W2.heap[w1.heap.size + 1]? = some (.cells #[.int .i64 order] 3 (0, 0)) := by
    have h := World.alloc_heap_new (w1.alloc (.cells #[.slice A l.length c] 22)) (.cells #[.int .i64 order] 3)
    rw [World.size_alloc] at h
    rw [← hW2]; exact zK h _
  have c3_ : W2.heap[w1.heap.size + 2]? = some (.cells #[.bool wd, .int .i64 o, .slice A3 ps.length c3] 25 (0, 0)) := by
    have h := World.alloc_heap_new ((w1.alloc (.cells #[.slice A l.length c] 22)).alloc (.cells #[.int .i64 order] 3)) (.cells #[.bool wd, .int .i64 o, .slice A3 ps.length c3] 25)
    rw [World.size_alloc, World.size_alloc] at h
    rw [← hW2]; exact h
  have hB2 : Below w1.heap.size w1 W2 := by rw [← hW2]; exact (((Below.refl _ w1).alloc (Nat.le_refl _) _).alloc (by simp) _).alloc (by simp; omega) _
  have hs2 : W2.heap.size = w1.heap.size + 3 := by rw [← hW2]; simp
  have hs1 : w.heap.size + 3 ≤ w1.heap.size := by have := BB.out.size; have := S0.out; omega
  have hB02 : Below W0.heap.size W0 W2 := below_step BB.out hB2
  have k2 : KC w0 w W2 := K0.out.trans (KC.of_below (by have := S0.out; omega) hB02)
  have d4 := blk_below (g := w.heap.size) X4.out hB02
  have d7 := blk_below (g := w.heap.size + 1) X7.out hB02
  have d8 : Boxed W2 (w.heap.size + 1 + 1) 31 (.int .i64 0) := blk_below (g := w.heap.size + 1 + 1) X8.out hB02
  have i2 := zI.below I0.out hB02
  have e2 := KBe.below E0.out hB02
  have bb2 := below_step B0.out hB02
  rw [hW2]
  have hgives := sec_each1 5 (by omega) k w0 W2 w1.heap.size (w1.heap.size + 1) (w1.heap.size + 2) A c l order wd o A3 c3 ps cuts HCUT.out HFIT.out HLEN.out HBIG.out Hc1.out (by omega) (by omega) (fun W' hk => HC3.out W' (k2.trans hk)) c1 c2 c3_
  have hsw : w0.heap.size ≤ W2.heap.size := by omega
  obtain ⟨B1, hB1⟩ : ∃ B1, B1 = w1.heap.size := ⟨_, rfl⟩
  rw [← hB1] at hgives hs2 hs1 ⊢
  have hB1k : w0.heap.size ≤ B1 := by omega
  clear hW2 hW0 c2 c3_ hB2 hB02 hz70 hz71 hz72
  refine wpIn_rangeFunc_turn rfl (by omega) (gf := 43) rfl trivial (enters_of Try.func43 (by kernel_rfl) rfl) (fun _ => rfl) hgives (fun h k => Kp15.trans h k) (Kp15.book hsw)
    (fun pre W => (∀ x ∈ pre, longEl x = false) ∧ I15 w0 w g wd o A3 ps.length c3 s0_0 s0_1 0 W) (fun cd pre W => cd = .ret ∧ I15 w0 w g wd o A3 ps.length c3 s0_0 s0_1 7 W)
    ?hI ?hIx ?hTI ?hTK ⟨by simp, k2, i2, e2, d4, d7, d8, bb2⟩ ?round ?done ?stop
  case hI => exact fun s X Y row hs hg hr => ⟨hs.1, hs.2.grown hsz hg (fun q e => ⟨by have := (hr q e).1; omega, (hr q e).2⟩)⟩
  case hIx => exact fun cd s X Y row hs hg hr => ⟨hs.1, hs.2.grown hsz hg (fun q e => ⟨by have := (hr q e).1; omega, (hr q e).2⟩)⟩
  case hTI => exact fun pre X Y hs ht => ⟨hs.1, hs.2.turn hsz (by omega) ht⟩
  case hTK =>
    rintro X Y ⟨u, u', hb, rfl⟩
    exact (KeepsOthers.setCell _ _ _).from _
  case round =>
    rintro lp pre ⟨q, A', c', xs⟩ W K ⟨hpre, hi⟩ hfull hK
    simp only [encE, List.map_toArray] at hK ⊢
    gi_wp2
    have hmem : (q, A', c', xs) ∈ rows15 cuts A c l ps := hfull.subset (by simp)
    obtain ⟨hCx, hcx, hlx, hqm⟩ := HGOOD.out _ hmem
    have hWs : w0.heap.size ≤ W.heap.size := Nat.le_trans hsz hi.1.1
    refine hK _ (W.alloc (.cells #[.int .i64 q.f0, .bool q.f1] 50)) ((KeepsOthers.alloc _ _).from _) ⟨KC.of_below hWs (zF (Below.refl _ _) _), fun cs t f e => zK e _⟩ ⟨hpre, hi.below hsz (zF (Below.refl _ _) _)⟩ ?_
    intro Z hZb hZc hZr hZk hZi
    have hp50 : Z.heap[W.heap.size]? = some (.cells #[.int .i64 q.f0, .bool q.f1] 50 (0, 0)) := hZc _ _ _ _ (World.alloc_heap_new W _)
    obtain ⟨_, hiZ⟩ := hZi
    have hy0 : Z.cell? ⟨W.heap.size, 0, none⟩ = some (.int .i64 q.f0) := (zN hp50 0).trans rfl
    have hy1 : Z.cell? ⟨W.heap.size, 1, none⟩ = some (.bool q.f1) := (zN hp50 1).trans rfl
    have HCX := zG.mk (hCx Z hiZ.1)
    have HIZ := zG.mk hiZ
    have HQM := zG.mk hqm
    have HPRE := zG.mk hpre
    have hb8 : Boxed Z (w.heap.size + 1 + 1) 31 (.int .i64 0) := hiZ.2.2.2.2.2.1
    have HB8 := zG.mk hb8
    have hxl : xs.length < 1000000 := Nat.lt_of_le_of_lt hlx HL9.out
    clear hK hi hpre hfull hmem hCx hcx hlx hqm hZb hZc hZr hZk hp50 hiZ hb8
    gi_wp2
    gi_loopw [33] (fun v wr => ∃ (i d : Nat), i ≤ xs.length ∧ v = .int .i64 (i : Int) ∧ wr = Z.drewN d ∧ zG (∀ j : Nat, j < i → (!q.f1 && (section_long.f (rd xs (j : Int)) q.f0).getD false) = false))
      (fun v _ => xs.length - (intOf v).toNat)
    case atStart => exact ⟨0, 0, Nat.zero_le _, rfl, rfl, ⟨fun j hj => by omega⟩⟩
    case round =>
      obtain ⟨i, d, hil, rfl, rfl, HN⟩ := hrel
      by_cases hlt : i < xs.length
      · have hdl : decide ((i : Int) < (xs.length : Int)) = true := decide_eq_true (by omega)
        obtain ⟨ad, hA, hcell⟩ := Kd.at_int HCX.out (i : Int) (by omega) (by omega)
        subst hA
        simp only [Int.toNat_natCast] at hcell
        have q1 := eq_true (show (i : Int) < (xs.length : Int) by omega)
        cases hraw : q.f1 with
        | true =>
          rw [hraw] at hy1
          gi_wp2
          refine ⟨trivial, ?_⟩
          gi_wp2
          go_roundw
          case rel => exact ⟨i + 1, d, hlt, by simp, rfl, ⟨fun j hj => by simp⟩⟩
          case measure => simp [intOf]; omega
        | false =>
          rw [hraw] at hy1
          have h0 : 0 ≤ q.f0 := by
            rcases HKK.out _ HQM.out with h | h
            · rw [hraw] at h; cases h
            · exact h
          rw [hraw] at HN
          have HSAME := zG.mk (fun (m : Nat) (W : World) => CallsIn.inRound (n := m) lp (callsIn_wide.2 (section_long_same (rd xs (i : Int)) q.f0 W h0)))
          gi_wp2
          refine ⟨trivial, ?_⟩
          gi_at_call 24
          refine (HSAME.out _ _).mono ?_
          rintro e w3 ⟨rfl, d3, rfl⟩
          cases hlg : (section_long.f (rd xs (i : Int)) q.f0).getD false with
          | true =>
            have hc8 := HB8.out.cell
            have hf8 := HB8.out.frozen
            have hfin1 : KeepsFrom W2.heap.size Z ((Z.drewN (d + d3)).setCell ⟨w.heap.size + 1 + 1, 0, none⟩ (.int .i64 7)) := (KeepsFrom.drewN W2.heap.size Z (d + d3)).trans ((KeepsOthers.setCell _ _ _).from _)
            have hfin2 := (HIZ.out.below hsz (Y := Z.drewN (d + d3)) ⟨rfl, rfl, rfl, Nat.le_refl _, fun _ _ => rfl⟩).told hsz 7
            have HFIN1 := zG.mk hfin1
            have HFIN2 := zG.mk hfin2
            clear hfin1 hfin2
            gi_wp2
            exact ⟨HFIN1.out, rfl, HFIN2.out⟩
          | false =>
            gi_wp2
            go_roundw
            case rel =>
              refine ⟨i + 1, d + d3, hlt, by simp, by simp, ⟨fun j hj => ?_⟩⟩
              by_cases hji : j < i
              · exact HN.out j hji
              · have hj' : j = i := by omega
                subst hj'
                exact (Bool.true_and _).trans hlg
            case measure => simp [intOf]; omega
      · obtain rfl : i = xs.length := by omega
        have hdl : decide (((xs.length : Nat) : Int) < (xs.length : Int)) = false := decide_eq_false (by omega)
        have hfin3 : ∀ (x : El), x ∈ pre ++ [(q, A', c', xs)] → longEl x = false := fun x hx => by
          rcases List.mem_append.1 hx with h | h
          · exact HPRE.out x h
          · rw [List.mem_singleton.1 h]; exact longEl_false HN.out
        have hfin4 := HIZ.out.below hsz (Y := Z.drewN d) ⟨rfl, rfl, rfl, Nat.le_refl _, fun _ _ => rfl⟩
        have HFIN3 := zG.mk hfin3
        have HFIN4 := zG.mk hfin4
        clear hfin3 hfin4
        gi_wp2
        exact ⟨KeepsFrom.drewN _ _ _, Kp15.drewN _ _ _ _, HFIN3.out, HFIN4.out⟩
  case done =>
    rintro D W hD ⟨hpre, hi⟩ hK
    exfalso
    obtain ⟨x, hx, hl⟩ := HLONG.out
    rw [hpre x hx] at hl
    cases hl
  case stop =>
    rintro D cd pre W hD hp ⟨rfl, hi⟩ hK
    gi_wp2
    have hi' := hi.grown hsz (grownBy_putObj' W D (.deferred none)) (fun q e => by cases e; exact ⟨by omega, _, hK, rfl⟩)
    obtain ⟨_, hi2, hi3, _, _, hi6, hi7⟩ := hi'
    have hc6 := hi6.cell
    rw [Exit.noGoto_ret]
    refine ⟨by simp, .inl ⟨_, _, rfl, run_takeDeferred hK, ?_⟩⟩
    refine ⟨.int .i64 7, ?_, rfl, hi2, hi7, hi3⟩
    simp [results, Try.f9, go_sem, hc6]
set_option maxRecDepth 100000 in
set_option maxHeartbeats 8000000 in
theorem sec_Put_ok (k : Nat) (g : Nat) (L : List Bool) (A : Option Addr) (c : Nat) (l : List Int) (order : Int) (wd : Bool) (o : Int) (A3 : Option Addr) (c3 : Nat) (ps : List S50) (cuts : List Int) (r : Int) (w0 w : World) (hI : zI w0 w g (PL.WB L) (L.length : Int)) (hB : Below w0.heap.size w0 w)
    (hC1 : ∀ W', KC w0 w W' → Kd.C (Kd.int .i64) W' A l.length l) (hc1 : l.length ≤ c) (hC3 : ∀ W', KC w0 w W' → Kd.C k50 W' A3 ps.length ps) (hc3 : ps.length ≤ c3) (hbits : parts_Bits.f k l order wd o ps = some r) (hpos : 0 ≤ r)
    (hcut : parts_Cuts.f k (l.length : Int) order o = some cuts) (hfit : SFits cuts l.length) (hlen : cuts.length = ps.length) (hbig : cuts.length < 1000000) (hl9 : l.length < 1000000) (hK : ∀ p ∈ ps, p.f1 = true ∨ 0 ≤ p.f0)
    (hshort : ∀ x ∈ rows15 cuts A c l ps, longEl x = false) (h64 : ∀ x ∈ l, -9223372036854775808 ≤ x ∧ x < 9223372036854775808) (hroom : L.length + 200 + cuts.length * (200 + 65600 * l.length) < 1000000000000) :
    Calls Try.prog 9 #[.pointer (some ⟨g, 0, none⟩), .slice A l.length c, .int .i64 order, .agg #[.bool wd, .int .i64 o, .slice A3 ps.length c3]] w fun e w' => e = .returned (.int .i64 0) ∧ zI w0 w' g (PL.WB (putAll15 wd (headB L wd o) (rows15 cuts A c l ps))) ((putAll15 wd (headB L wd o) (rows15 cuts A c l ps)).length : Int) ∧ Below w0.heap.size w0 w' ∧ KBe w0 w w' g := by
  have hu25 := Try.underlying25
  have hu50 := Try.underlying50
  have hsz : w0.heap.size ≤ w.heap.size := hB.size
  have hd : decide (r < 0) = false := decide_eq_false (by omega)
  have HGOOD := zG.mk (rows15_good w0 w cuts A c l ps hfit hc1 hC1)
  have HI := zG.mk hI
  have HB := zG.mk hB
  have HC1 := zG.mk hC1
  have HC3 := zG.mk hC3
  have Hc1 := zG.mk hc1
  have Hc3 := zG.mk hc3
  have HBT := zG.mk hbits
  have HCUT := zG.mk hcut
  have HFIT := zG.mk hfit
  have HLEN := zG.mk hlen
  have HBIG := zG.mk hbig
  have HL9 := zG.mk hl9
  have HKK := zG.mk hK
  have HSHORT := zG.mk hshort
  have H64 := zG.mk h64
  have HROOM := zG.mk hroom
  clear hI hB hC1 hC3 hc1 hc3 hbits hpos hcut hfit hlen hbig hl9 hK hshort h64 hroom
  refine (callsIn_wide (n := 6)).1 ?_
  refine callsIn_of_wp_marks Try.func9 rfl trivial ?_ rfl
  simp only [Try.ntmps9, List.size_toArray, List.length_cons, List.length_nil, Nat.reduceAdd, Nat.reduceSub, Array.replicate_succ, Array.replicate_zero, List.push_toArray, List.append_toArray, List.nil_append, List.cons_append]
  obtain ⟨W0, hW0⟩ : ∃ W0, ((w.alloc (.cells #[.pointer (some ⟨g, 0, none⟩)] 29)).alloc (.cells #[.bool wd, .int .i64 o, .slice A3 ps.length c3] 25)).alloc (.cells #[.int .i64 0] 31) = W0 := ⟨_, rfl⟩
  have b4 : W0.heap[w.heap.size]? = some (.cells #[.pointer (some ⟨g, 0, none⟩)] 29 (0, 0)) := by rw [← hW0]; exact zK (zK (World.alloc_heap_new w _) _) _
  have b7 : W0.heap[w.heap.size + 1]? = some (.cells #[.bool wd, .int .i64 o, .slice A3 ps.length c3] 25 (0, 0)) := by
    have h := World.alloc_heap_new (w.alloc (.cells #[.pointer (some ⟨g, 0, none⟩)] 29)) (.cells #[.bool wd, .int .i64 o, .slice A3 ps.length c3] 25)
    rw [World.size_alloc] at h
    rw [← hW0]; exact zK h _
  have b8 : Boxed W0 (w.heap.size + 1 + 1) 31 (.int .i64 0) := by
    have h := Boxed.new ((w.alloc (.cells #[.pointer (some ⟨g, 0, none⟩)] 29)).alloc (.cells #[.bool wd, .int .i64 o, .slice A3 ps.length c3] 25)) 31 (.int .i64 0)
    rw [World.size_alloc, World.size_alloc] at h
    rw [← hW0]; exact h
  have hBw : Below w.heap.size w W0 := by rw [← hW0]; exact (((Below.refl _ w).alloc (Nat.le_refl _) _).alloc (by simp) _).alloc (by simp; omega) _
  have hs0 : W0.heap.size = w.heap.size + 3 := by rw [← hW0]; simp
  have hz4 : W0.cell? ⟨w.heap.size, 0, none⟩ = some (.pointer (some ⟨g, 0, none⟩)) := (zN b4 0).trans rfl
  have hz70 : W0.cell? ⟨w.heap.size + 1, 0, none⟩ = some (.bool wd) := (zN b7 0).trans rfl
  have hz71 : W0.cell? ⟨w.heap.size + 1, 1, none⟩ = some (.int .i64 o) := (zN b7 1).trans rfl
  have hz72 : W0.cell? ⟨w.heap.size + 1, 2, none⟩ = some (.slice A3 ps.length c3) := (zN b7 2).trans rfl
  have K0 := zG.mk (KC.of_below hsz hBw)
  have I0 := zG.mk (zI.below HI.out hBw)
  have E0 := zG.mk (KBe.below (KBe.refl w0 HI.out) hBw)
  have B0 := zG.mk (below_step HB.out hBw)
  have X4 := zG.mk b4
  have X7 := zG.mk b7
  have X8 := zG.mk b8
  have S0 := zG.mk hs0
  have BW := zG.mk hBw
  clear b4 b7 b8 hBw hs0
  have HV : ∀ W, KC w0 w W → Kd.V (Kd.int .i64) 3 W W.heap.size (fun _ => True) (.slice A l.length c) l := fun W hW => Kd.V_mk Hc1.out (fun W' hW' => (Kd.heap_int .i64).C (fun j hj => hW' j trivial hj) (HC1.out W hW))
  have HVV := zG.mk HV
  clear HV
  gi_wp2
  refine wpIn_scope_straight ?_
  gi_wp2_with (first
    | (refine ⟨trivial, ?_⟩; gi_at_call 10; refine (callsIn_wide.2 (parts_Bits.calls k (fun _ => True) A c l order wd o A3 c3 ps r _ ?side1 ?side2 Hc3.out HBT.out)).mono ?_; (case side1 => exact HVV.out _ K0.out); (case side2 => exact HC3.out _ K0.out); rintro e w1 ⟨rfl, hb1⟩; have BB := zG.mk hb1; clear hb1; have X7n := zG.mk (blk_below (g := w.heap.size + 1) X7.out BB.out); clear hz4 hz70 hz71 hz72; have hz70 := (zN X7n.out 0).trans rfl; have hz71 := (zN X7n.out 1).trans rfl; have hz72 := (zN X7n.out 2).trans rfl)
    | (refine ⟨trivial, ?_⟩; gi_at_call 23; refine (sec_each_in _ A l.length c order wd o A3 ps.length c3 _).mono ?_; rintro e w2 ⟨rfl, rfl⟩))
  obtain ⟨W2, hW2⟩ : ∃ W2, ((w1.alloc (.cells #[.slice A l.length c] 22)).alloc (.cells #[.int .i64 order] 3)).alloc (.cells #[.bool wd, .int .i64 o, .slice A3 ps.length c3] 25) = W2 := ⟨_, rfl⟩
  have c1 : W2.heap[w1.heap.size]? = some (.cells #[.slice A l.length c] 22 (0, 0)) := by rw [← hW2]; exact zK (zK (World.alloc_heap_new w1 _) _) _
  have c2 : W2.heap[w1.heap.size + 1]? = some (.cells #[.int .i64 order] 3 (0, 0)) := by
    have h := World.alloc_heap_new (w1.alloc (.cells #[.slice A l.length c] 22)) (.cells #[.int .i64 order] 3)
    rw [World.size_alloc] at h
    rw [← hW2]; exact zK h _
  have c3_ : W2.heap[w1.heap.size + 2]? = some (.cells #[.bool wd, .int .i64 o, .slice A3 ps.length c3] 25 (0, 0)) := by
    have h := World.alloc_heap_new ((w1.alloc (.cells #[.slice A l.length c] 22)).alloc (.cells #[.int .i64 order] 3)) (.cells #[.bool wd, .int .i64 o, .slice A3 ps.length c3] 25)
    rw [World.size_alloc, World.size_alloc] at h
    rw [← hW2]; exact h
  have hB2 : Below w1.heap.size w1 W2 := by rw [← hW2]; exact (((Below.refl _ w1).alloc (Nat.le_refl _) _).alloc (by simp) _).alloc (by simp; omega) _
  have hs2 : W2.heap.size = w1.heap.size + 3 := by rw [← hW2]; simp
  have hs1 : w.heap.size + 3 ≤ w1.heap.size := by have := BB.out.size; have := S0.out; omega
  have hB02 : Below W0.heap.size W0 W2 := below_step BB.out hB2
  have k2 : KC w0 w W2 := K0.out.trans (KC.of_below (by have := S0.out; omega) hB02)
  have d4 := blk_below (g := w.heap.size) X4.out hB02
  have d7 := blk_below (g := w.heap.size + 1) X7.out hB02
  have d8 : Boxed W2 (w.heap.size + 1 + 1) 31 (.int .i64 0) := blk_below (g := w.heap.size + 1 + 1) X8.out hB02
  have i2 := zI.below I0.out hB02
  have e2 := KBe.below E0.out hB02
  have bb2 := below_step B0.out hB02
  rw [hW2]
  have hgives := sec_each1 5 (by omega) k w0 W2 w1.heap.size (w1.heap.size + 1) (w1.heap.size + 2) A c l order wd o A3 c3 ps cuts HCUT.out HFIT.out HLEN.out HBIG.out Hc1.out (by omega) (by omega) (fun W' hk => HC3.out W' (k2.trans hk)) c1 c2 c3_
  have hsw : w0.heap.size ≤ W2.heap.size := by omega
  obtain ⟨B1, hB1⟩ : ∃ B1, B1 = w1.heap.size := ⟨_, rfl⟩
  rw [← hB1] at hgives hs2 hs1 ⊢
  have hB1k : w0.heap.size ≤ B1 := by omega
  clear hW2 hW0 c2 c3_ hB2 hB02 hz70 hz71 hz72
  refine wpIn_rangeFunc_turn rfl (by omega) (gf := 43) rfl trivial (enters_of Try.func43 (by kernel_rfl) rfl) (fun _ => rfl) hgives (fun h k => Kp15.trans h k) (Kp15.book hsw)
    (fun pre W => I15 w0 w g wd o A3 ps.length c3 (PL.WB L) (L.length : Int) 0 W) (fun cd pre W => False)
    ?hI ?hIx ?hTI ?hTK ⟨k2, i2, e2, d4, d7, d8, bb2⟩ ?round ?done ?stop
  case hI => exact fun s X Y row hs hg hr => hs.grown hsz hg (fun q e => ⟨by have := (hr q e).1; omega, (hr q e).2⟩)
  case hIx => exact fun cd s X Y row hs hg hr => hs
  case hTI => exact fun pre X Y hs ht => hs.turn hsz (by omega) ht
  case hTK =>
    rintro X Y ⟨u, u', hb, rfl⟩
    exact (KeepsOthers.setCell _ _ _).from _
  case round =>
    rintro lp pre ⟨q, A', c', xs⟩ W K hi hfull hK
    simp only [encE, List.map_toArray] at hK ⊢
    gi_wp2
    have hmem : (q, A', c', xs) ∈ rows15 cuts A c l ps := hfull.subset (by simp)
    obtain ⟨hCx, hcx, hlx, hqm⟩ := HGOOD.out _ hmem
    have hWs : w0.heap.size ≤ W.heap.size := Nat.le_trans hsz hi.1.1
    refine hK _ (W.alloc (.cells #[.int .i64 q.f0, .bool q.f1] 50)) ((KeepsOthers.alloc _ _).from _) ⟨KC.of_below hWs (zF (Below.refl _ _) _), fun cs t f e => zK e _⟩ (hi.below hsz (zF (Below.refl _ _) _)) ?_
    intro Z hZb hZc hZr hZk hZi
    have hp50 : Z.heap[W.heap.size]? = some (.cells #[.int .i64 q.f0, .bool q.f1] 50 (0, 0)) := hZc _ _ _ _ (World.alloc_heap_new W _)
    have hiZ := hZi
    have hy0 : Z.cell? ⟨W.heap.size, 0, none⟩ = some (.int .i64 q.f0) := (zN hp50 0).trans rfl
    have hy1 : Z.cell? ⟨W.heap.size, 1, none⟩ = some (.bool q.f1) := (zN hp50 1).trans rfl
    have HCX := zG.mk (hCx Z hiZ.1)
    have HIZ := zG.mk hiZ
    have HQM := zG.mk hqm
    have HLE := zG.mk (HSHORT.out _ hmem)
    have hxl : xs.length < 1000000 := Nat.lt_of_le_of_lt hlx HL9.out
    clear hK hi hfull hmem hCx hcx hlx hqm hZb hZc hZr hZk hp50 hiZ hZi
    gi_wp2
    gi_loopw [33] (fun v wr => ∃ (i d : Nat), i ≤ xs.length ∧ v = .int .i64 (i : Int) ∧ wr = Z.drewN d)
      (fun v _ => xs.length - (intOf v).toNat)
    case atStart => exact ⟨0, 0, Nat.zero_le _, rfl, rfl⟩
    case round =>
      obtain ⟨i, d, hil, rfl, rfl⟩ := hrel
      by_cases hlt : i < xs.length
      · have hdl : decide ((i : Int) < (xs.length : Int)) = true := decide_eq_true (by omega)
        obtain ⟨ad, hA, hcell⟩ := Kd.at_int HCX.out (i : Int) (by omega) (by omega)
        subst hA
        simp only [Int.toNat_natCast] at hcell
        have q1 := eq_true (show (i : Int) < (xs.length : Int) by omega)
        cases hraw : q.f1 with
        | true =>
          rw [hraw] at hy1
          gi_wp2
          refine ⟨trivial, ?_⟩
          gi_wp2
          go_roundw
          case rel => exact ⟨i + 1, d, hlt, by simp, rfl⟩
          case measure => simp [intOf]; omega
        | false =>
          rw [hraw] at hy1
          have h0 : 0 ≤ q.f0 := by
            rcases HKK.out _ HQM.out with h | h
            · rw [hraw] at h; cases h
            · exact h
          have HSAME := zG.mk (fun (m : Nat) (W : World) => CallsIn.inRound (n := m) lp (callsIn_wide.2 (section_long_same (rd xs (i : Int)) q.f0 W h0)))
          gi_wp2
          refine ⟨trivial, ?_⟩
          gi_at_call 24
          refine (HSAME.out _ _).mono ?_
          rintro e w3 ⟨rfl, d3, rfl⟩
          have hlg := longEl_at HLE.out hraw hlt
          gi_wp2
          go_roundw
          case rel => exact ⟨i + 1, d + d3, hlt, by simp, by simp⟩
          case measure => simp [intOf]; omega
      · obtain rfl : i = xs.length := by omega
        have hdl : decide (((xs.length : Nat) : Int) < (xs.length : Int)) = false := decide_eq_false (by omega)
        have hfin4 := HIZ.out.below hsz (Y := Z.drewN d) ⟨rfl, rfl, rfl, Nat.le_refl _, fun _ _ => rfl⟩
        have HFIN4 := zG.mk hfin4
        clear hfin4
        gi_wp2
        exact ⟨KeepsFrom.drewN _ _ _, Kp15.drewN _ _ _ _, HFIN4.out⟩
  case stop => exact fun D cd pre W hD hp h _ => h.elim
  case done =>
    rintro D W hD hi hK
    have HIW := zG.mk hi
    have HKD := zG.mk hK
    clear hK hgives d4 d7 d8 i2 e2 bb2 k2
    obtain ⟨kk1, kk2, kk3, kk4, kk5, kk6, kk7⟩ := hi
    have hz4 : W.cell? ⟨w.heap.size, 0, none⟩ = some (.pointer (some ⟨g, 0, none⟩)) := (zN kk4 0).trans rfl
    have hz70 : W.cell? ⟨w.heap.size + 1, 0, none⟩ = some (.bool wd) := (zN kk5 0).trans rfl
    clear kk1 kk2 kk3 kk4 kk5 kk6 kk7
    have hhb : headB L wd o = (L ++ PL.digs (if wd then 1 else 0) (PL.hw 2)) ++ PL.digs (IntKind.u64.wrap o) (PL.hw 4) := rfl
    have HHB := zG.mk hhb
    clear hhb
    cases wd with
    | false =>
      gi_wp2
      refine ⟨trivial, ?_⟩
      gi_at_call 25
      refine (callsIn_wide.2 (bits_Writer_Put.calls g _ _ _ _ _ _ w0 _ HIW.out.2.1 HIW.out.2.2.2.2.2.2 (PL.put_eq L 0 2 (by have := HROOM.out; omega)))).mono ?_
      rintro e w4 ⟨rfl, hI4, hB4, hK4⟩
      have HI4 := zG.mk (HIW.out.put hI4 hB4 hK4)
      have HKD4 := zG.mk (hK4.same HIW.out.2.1 HKD.out (by simp))
      clear hI4 hB4 hK4 hz4 hz70
      have hz4 : w4.cell? ⟨w.heap.size, 0, none⟩ = some (.pointer (some ⟨g, 0, none⟩)) := (zN HI4.out.2.2.2.1 0).trans rfl
      have hz71 : w4.cell? ⟨w.heap.size + 1, 1, none⟩ = some (.int .i64 o) := (zN HI4.out.2.2.2.2.1 1).trans rfl
      gi_wp2
      refine ⟨trivial, ?_⟩
      gi_at_call 25
      refine (callsIn_wide.2 (bits_Writer_Put.calls g _ _ _ _ _ _ w0 _ HI4.out.2.1 HI4.out.2.2.2.2.2.2 (PL.put_eq (L ++ PL.digs 0 (PL.hw 2)) (IntKind.u64.wrap o) 4 (by have := HROOM.out; have := PL.hw_le 2; rw [List.length_append, PL.digs_len]; omega)))).mono ?_
      rintro e w5 ⟨rfl, hI5, hB5, hK5⟩
      have HI5 := zG.mk (HI4.out.put hI5 hB5 hK5)
      have HKD5 := zG.mk (hK5.same HI4.out.2.1 HKD4.out (by simp))
      clear hI5 hB5 hK5 hz4 hz71
      have hz70 : w5.cell? ⟨w.heap.size + 1, 0, none⟩ = some (.bool false) := (zN HI5.out.2.2.2.2.1 0).trans rfl
      have hz71 : w5.cell? ⟨w.heap.size + 1, 1, none⟩ = some (.int .i64 o) := (zN HI5.out.2.2.2.2.1 1).trans rfl
      have hz72 : w5.cell? ⟨w.heap.size + 1, 2, none⟩ = some (.slice A3 ps.length c3) := (zN HI5.out.2.2.2.2.1 2).trans rfl
      gi_wp2
      refine wpIn_label ?_
      gi_wp2_with (refine ⟨trivial, ?_⟩; gi_at_call 23; refine (sec_each_in _ A l.length c order false o A3 ps.length c3 _).mono ?_; rintro e w6 ⟨rfl, rfl⟩)
      obtain ⟨W6, hW6⟩ : ∃ W6, ((w5.alloc (.cells #[.slice A l.length c] 22)).alloc (.cells #[.int .i64 order] 3)).alloc (.cells #[.bool false, .int .i64 o, .slice A3 ps.length c3] 25) = W6 := ⟨_, rfl⟩
      have c1 : W6.heap[w5.heap.size]? = some (.cells #[.slice A l.length c] 22 (0, 0)) := by rw [← hW6]; exact zK (zK (World.alloc_heap_new w5 _) _) _
      have c2 : W6.heap[w5.heap.size + 1]? = some (.cells #[.int .i64 order] 3 (0, 0)) := by
        have h := World.alloc_heap_new (w5.alloc (.cells #[.slice A l.length c] 22)) (.cells #[.int .i64 order] 3)
        rw [World.size_alloc] at h
        rw [← hW6]; exact zK h _
      have c3_ : W6.heap[w5.heap.size + 2]? = some (.cells #[.bool false, .int .i64 o, .slice A3 ps.length c3] 25 (0, 0)) := by
        have h := World.alloc_heap_new ((w5.alloc (.cells #[.slice A l.length c] 22)).alloc (.cells #[.int .i64 order] 3)) (.cells #[.bool false, .int .i64 o, .slice A3 ps.length c3] 25)
        rw [World.size_alloc, World.size_alloc] at h
        rw [← hW6]; exact h
      have hB6 : Below w5.heap.size w5 W6 := by rw [← hW6]; exact (((Below.refl _ w5).alloc (Nat.le_refl _) _).alloc (by simp) _).alloc (by simp; omega) _
      have hs6 : W6.heap.size = w5.heap.size + 3 := by rw [← hW6]; simp
      have hDl : D < w5.heap.size := (Array.getElem?_eq_some_iff.1 HKD5.out).1
      have J6 : J15 w0 w g false o A3 ps.length c3 (putAll15 false (headB L false o) []) w5.heap.size D W6 := ⟨HI5.out.below hsz hB6, ⟨_, c1⟩, (hB6.block _ hDl).trans HKD5.out⟩
      have k6 : KC w0 w W6 := J6.1.1
      rw [hW6]
      have hgives2 := sec_each1 5 (by omega) k w0 W6 w5.heap.size (w5.heap.size + 1) (w5.heap.size + 2) A c l order false o A3 c3 ps cuts HCUT.out HFIT.out HLEN.out HBIG.out Hc1.out (by omega) (by omega) (fun W' hk => HC3.out W' (k6.trans hk)) c1 c2 c3_
      have hsw6 : w0.heap.size ≤ W6.heap.size := by omega
      obtain ⟨B2, hB2⟩ : ∃ B2, B2 = w5.heap.size := ⟨_, rfl⟩
      rw [← hB2] at hgives2 hs6 J6 hDl ⊢
      have hB2k : w0.heap.size ≤ B2 := by omega
      clear hW6 c2 c3_ c1 hB6 hz70 hz71 hz72
      refine wpIn_rangeFunc_turn rfl (by omega) (gf := 43) rfl trivial (enters_of Try.func43 (by kernel_rfl) rfl) (fun _ => rfl) hgives2 (fun h k => Kp15.trans h k) (Kp15.book hsw6)
        (fun pre W => J15 w0 w g false o A3 ps.length c3 (putAll15 false (headB L false o) pre) B2 D W) (fun cd pre W => False)
        ?hI2 ?hIx2 ?hTI2 ?hTK2 J6 ?round2 ?done2 ?stop2
      case hI2 => exact fun s X Y row hs hg hr => hs.grown hsz (S := W6.heap.size) (by omega) (by omega) hg hr
      case hIx2 => exact fun cd s X Y row hs hg hr => hs
      case hTI2 => exact fun pre X Y hs ht => hs.turn hsz (by omega) ht
      case hTK2 =>
        rintro X Y ⟨u, u', hb, rfl⟩
        exact (KeepsOthers.setCell _ _ _).from _
      case stop2 => exact fun D cd pre W hD hp h _ => h.elim
      case done2 =>
        rintro D2 W7 hD2 hi7 hK7
        have hc8 := hi7.1.2.2.2.2.2.1.cell
        have hf8 := hi7.1.2.2.2.2.2.1.frozen
        have HI7 := zG.mk hi7
        have HK7 := zG.mk hK7
        clear hi7 hK7 hgives2 J6 k6
        have hcz : (W7.setCell ⟨w.heap.size + 1 + 1, 0, none⟩ (.int .i64 0)).heap[D2]? = some (.deferred (some [])) := (Below.heap_setCell W7 ⟨w.heap.size + 1 + 1, 0, none⟩ _ D2 (by show D2 ≠ w.heap.size + 1 + 1; omega)).trans HK7.out
        have hcy : (W7.setCell ⟨w.heap.size + 1 + 1, 0, none⟩ (.int .i64 0)).heap[D]? = some (.deferred (some [])) := (Below.heap_setCell W7 ⟨w.heap.size + 1 + 1, 0, none⟩ _ D (by show D ≠ w.heap.size + 1 + 1; omega)).trans HI7.out.2.2
        have hcy2 : ((W7.setCell ⟨w.heap.size + 1 + 1, 0, none⟩ (.int .i64 0)).putObj D2 (.deferred none)).heap[D]? = some (.deferred (some [])) := (World.putObj_heap_other (by omega)).trans hcy
        have HC1 := zG.mk hcz
        have HC2 := zG.mk hcy2
        clear hcz hcy hcy2
        have t7 := HI7.out.1.told hsz 0
        have t8 := t7.grown hsz (grownBy_putObj' _ D2 (.deferred none)) (fun q e => by cases e; exact ⟨by omega, _, HC1.out, rfl⟩)
        have t9 := t8.grown hsz (grownBy_putObj' _ D (.deferred none)) (fun q e => by cases e; exact ⟨by omega, _, HC2.out, rfl⟩)
        have HT9 := zG.mk t9
        clear t7 t8 t9
        gi_wp2
        obtain ⟨_, ht2, ht3, _, _, ht6, ht7⟩ := HT9.out
        have hc6 := ht6.cell
        rw [Exit.noGoto_ret]
        refine ⟨by simp, .inl ⟨_, _, rfl, run_takeDeferred HC1.out, ?_⟩⟩
        refine ⟨by simp, .inl ⟨_, _, rfl, run_takeDeferred HC2.out, ?_⟩⟩
        refine ⟨.int .i64 0, ?_, rfl, ht2, ht7, ht3⟩
        simp [results, Try.f9, go_sem, hc6]
      case round2 =>
        rintro lp pre ⟨q, A', c', xs⟩ W K hi hfull hK
        simp only [encE, List.map_toArray] at hK ⊢
        gi_wp2
        have hmem : (q, A', c', xs) ∈ rows15 cuts A c l ps := hfull.subset (by simp)
        obtain ⟨hCx, hcx, hlx, hqm⟩ := HGOOD.out _ hmem
        have hWs : w0.heap.size ≤ W.heap.size := Nat.le_trans hsz hi.1.1.1
        refine hK _ (W.alloc (.cells #[.int .i64 q.f0, .bool q.f1] 50)) ((KeepsOthers.alloc _ _).from _) ⟨KC.of_below hWs (zF (Below.refl _ _) _), fun cs t f e => zK e _⟩ (hi.below hsz (zF (Below.refl _ _) _)) ?_
        intro Z hZb hZc hZr hZk hZi
        have hp50 : Z.heap[W.heap.size]? = some (.cells #[.int .i64 q.f0, .bool q.f1] 50 (0, 0)) := hZc _ _ _ _ (World.alloc_heap_new W _)
        have hy0 : Z.cell? ⟨W.heap.size, 0, none⟩ = some (.int .i64 q.f0) := (zN hp50 0).trans rfl
        have hy1 : Z.cell? ⟨W.heap.size, 1, none⟩ = some (.bool q.f1) := (zN hp50 1).trans rfl
        have hz4 : Z.cell? ⟨w.heap.size, 0, none⟩ = some (.pointer (some ⟨g, 0, none⟩)) := (zN hZi.1.2.2.2.1 0).trans rfl
        have hz70 : Z.cell? ⟨w.heap.size + 1, 0, none⟩ = some (.bool false) := (zN hZi.1.2.2.2.2.1 0).trans rfl
        have hsnoc : putAll15 false (headB L false o) (pre ++ [(q, A', c', xs)]) = putPart false (putAll15 false (headB L false o) pre) q xs := putAll15_snoc _ _ _ _
        have hlp := put_room false o cuts A c l ps L pre (q, A', c', xs) hfull (fun x hx => (HGOOD.out x hx).2.2.1) HROOM.out
        have hx64 : ∀ y ∈ xs, -9223372036854775808 ≤ y ∧ y < 9223372036854775808 := fun y hy => H64.out y (rows15_sub _ _ _ _ _ _ hmem y hy)
        obtain ⟨Lp, hLp⟩ : ∃ Lp, putAll15 false (headB L false o) pre = Lp := ⟨_, rfl⟩
        rw [hLp] at hsnoc hlp hZi
        rw [hsnoc]
        have HCX := zG.mk hCx
        have HIZ := zG.mk hZi
        have HIZ1 := zG.mk hZi.1.2.1
        have HIZ2 := zG.mk hZi.1.2.2.2.2.2.2
        have HLP := zG.mk hlp
        have HP50 := zG.mk hp50
        have HX64 := zG.mk hx64
        have hxl : xs.length < 1000000 := Nat.lt_of_le_of_lt hlx HL9.out
        clear hK hi hfull hmem hCx hcx hlx hqm hZb hZc hZr hZk hp50 hZi hlp hx64 hLp hsnoc hgives2 J6 k6
        cases hraw : q.f1 with
        | false =>
          rw [hraw] at hy1
          gi_wp2
          refine startR_ (n := 8) (S := fun w' => w'.cell? ⟨w.heap.size, 0, none⟩ = some (.pointer (some ⟨g, 0, none⟩)) ∧ w'.cell? ⟨W.heap.size, 0, none⟩ = some (.int .i64 q.f0) ∧ w'.cell? ⟨w.heap.size + 1, 0, none⟩ = some (.bool false)) (ds := [7]) #[false, false, false, false, false, false, false, false] (by kernel_rfl) (by kernel_rfl) (by rintro ⟨a_, w_, h_⟩; exact h_) rfl rfl ⟨hz4, hy0, hz70⟩ (fun hHeld => ?_)
          refine pure_ (i := 1) (N := some 67) (v := ?_) (a' := ?_) #[false, true, false, false, false, false, false, false] rfl rfl (by kernel_rfl) (fun _ _ _ h => h) (Or.inl ⟨by rfl, ?_⟩) ?_ ?_
          rotate_left
          · intro w'
            go_simp
            first | done | with_reducible rfl
          rotate_left
          · simp only [Act.put, List.setIfInBounds_toArray, List.set_cons_zero, List.set_cons_succ, i64_w, i32_w]
            rfl
          refine pure_ (i := 4) (N := some 70) (v := ?_) (a' := ?_) #[false, true, false, false, true, false, false, false] rfl rfl (by kernel_rfl) (fun _ _ _ h => h) (Or.inl ⟨by rfl, ?_⟩) ?_ ?_
          rotate_left
          · intro w'
            go_simp
            first | done | with_reducible rfl
          rotate_left
          · simp only [Act.put, List.setIfInBounds_toArray, List.set_cons_zero, List.set_cons_succ, i64_w, i32_w]
            rfl
          refine take_ (i := 0) (N := some 66) (v := ?_) (a' := ?_) #[true, true, false, false, true, false, false, false] rfl rfl (by kernel_rfl) (fun _ _ _ h => h) (Or.inl ⟨by rfl, ?_⟩) hHeld ?_ ?_
          rotate_left
          · rintro w' ⟨s0, s1, s2⟩
            go_simp
            first | done | with_reducible rfl
          rotate_left
          · simp only [Act.put, List.setIfInBounds_toArray, List.set_cons_zero, List.set_cons_succ, i64_w, i32_w]
            rfl
          refine take_ (i := 2) (N := some 68) (v := ?_) (a' := ?_) #[true, true, true, false, true, false, false, false] rfl rfl (by kernel_rfl) (fun _ _ _ h => h) (Or.inl ⟨by rfl, ?_⟩) hHeld ?_ ?_
          rotate_left
          · rintro w' ⟨s0, s1, s2⟩
            go_simp
            first | done | with_reducible rfl
          rotate_left
          · simp only [Act.put, List.setIfInBounds_toArray, List.set_cons_zero, List.set_cons_succ, i64_w, i32_w]
            rfl
          refine pure_ (i := 3) (N := some 69) (v := ?_) (a' := ?_) #[true, true, true, true, true, false, false, false] rfl rfl (by kernel_rfl) (fun _ _ _ h => h) (Or.inl ⟨by rfl, ?_⟩) ?_ ?_
          rotate_left
          · intro w'
            go_simp
            first | done | with_reducible rfl
          rotate_left
          · simp only [Act.put, List.setIfInBounds_toArray, List.set_cons_zero, List.set_cons_succ, i64_w, i32_w]
            rfl
          refine take_ (i := 5) (N := some 71) (v := ?_) (a' := ?_) #[true, true, true, true, true, true, false, false] rfl rfl (by kernel_rfl) (fun _ _ _ h => h) (Or.inl ⟨by rfl, ?_⟩) hHeld ?_ ?_
          rotate_left
          · rintro w' ⟨s0, s1, s2⟩
            go_simp
            first | done | with_reducible rfl
          rotate_left
          · simp only [Act.put, List.setIfInBounds_toArray, List.set_cons_zero, List.set_cons_succ, i64_w, i32_w]
            rfl
          refine one_ (i := 6) (N := some 72) #[true, true, true, true, true, true, true, false] rfl rfl (by kernel_rfl) (by decide) (fun K hK => ?_)
          refine goes_ Try.func26 (by kernel_rfl) rfl #[.bool false] (by rfl) rfl rfl (by simp only [List.map_toArray, List.map_cons, List.map_nil, Act.put, List.setIfInBounds_toArray, List.set_cons_zero, List.set_cons_succ]; first | done | rfl) ?_
          refine (section_size.calls false 4 _ rfl).mono ?_
          rintro e w8 ⟨rfl, d8_, rfl⟩
          refine ⟨_, rfl, ?_⟩
          refine hK.out _ _ hHeld (fun hHeld => ?_)
          clear hK K
          refine last_ (i := 7) (N := some 73) #[true, true, true, true, true, true, true, true] rfl rfl (by kernel_rfl) (by decide) (fun K hK => ?_)
          refine goes_ Try.func25 (by kernel_rfl) rfl #[.pointer (some ⟨g, 0, none⟩), .int .u64 (IntKind.u64.wrap q.f0), .int .i64 4] (by rfl) rfl rfl (by simp only [List.map_toArray, List.map_cons, List.map_nil, Act.put, List.setIfInBounds_toArray, List.set_cons_zero, List.set_cons_succ]; first | done | rfl) ?_
          refine (bits_Writer_Put.calls g (PL.WB Lp) (Lp.length : Int) _ _ _ _ w0 _ ?qI9false ?qB9false (PL.put_eq Lp (IntKind.u64.wrap q.f0) 4 (by have := HLP.out; omega))).mono ?_
          case qI9false => exact HIZ1.out
          case qB9false => exact ⟨HIZ2.out.os, HIZ2.out.tape, HIZ2.out.output, HIZ2.out.size, HIZ2.out.block⟩
          rintro e w9 ⟨rfl, hI9, hB9, hK9⟩
          refine ⟨_, rfl, ?_⟩
          refine hK.out _ _ ?_
          clear hK K
          refine done_ (by kernel_rfl) ?_
          have hpart : putPart false Lp q xs = riceAll q.f0 (Lp ++ PL.digs (IntKind.u64.wrap q.f0) (PL.hw 4)) xs := by
            unfold putPart
            rw [if_neg (by rw [hraw]; simp)]
            rfl
          have HPART := zG.mk hpart
          have hj9 : J15 w0 w g false o A3 ps.length c3 (Lp ++ PL.digs (IntKind.u64.wrap q.f0) (PL.hw 4)) B2 D w9 := HIZ.out.put hI9 hB9 hK9
          have hl9 : (Lp ++ PL.digs (IntKind.u64.wrap q.f0) (PL.hw 4)).length + 65600 * xs.length < 1099000000000 := by
            have h1 := PL.hw_le 4
            have h2 := HLP.out
            rw [List.length_append, PL.digs_len]
            omega
          obtain ⟨Lq, hLq⟩ : ∃ Lq, Lp ++ PL.digs (IntKind.u64.wrap q.f0) (PL.hw 4) = Lq := ⟨_, rfl⟩
          rw [hLq] at hj9 hl9
          have HLQ := zG.mk hLq
          have HJ9 := zG.mk hj9
          have HL9' := zG.mk hl9
          have HK9 := zG.mk (show KBe w0 Z w9 g from hK9)
          clear hpart hj9 hl9 hLq hI9 hB9 hK9 hHeld hz4 hz70 hy0 hy1
          gi_wp2
          gi_loopw [76] (fun v wr => ∃ (i : Nat), i ≤ xs.length ∧ v = .int .i64 (i : Int) ∧ zG (J15 w0 w g false o A3 ps.length c3 (riceAll q.f0 Lq (xs.take i)) B2 D wr) ∧ zG (KBe w0 Z wr g))
            (fun v _ => xs.length - (intOf v).toNat)
          case atStart => exact ⟨0, Nat.zero_le _, rfl, ⟨by rw [List.take_zero]; exact HJ9.out⟩, HK9⟩
          case round =>
            obtain ⟨i, hil, rfl, HJ, HK⟩ := hrel
            by_cases hlt : i < xs.length
            · have hdl : decide ((i : Int) < (xs.length : Int)) = true := decide_eq_true (by omega)
              obtain ⟨ad, hA, hcell⟩ := Kd.at_int (HCX.out _ HJ.out.1.1) (i : Int) (by omega) (by omega)
              subst hA
              simp only [Int.toNat_natCast] at hcell
              have q1 := eq_true (show (i : Int) < (xs.length : Int) by omega)
              have hz4 : wr.cell? ⟨w.heap.size, 0, none⟩ = some (.pointer (some ⟨g, 0, none⟩)) := (zN HJ.out.1.2.2.2.1 0).trans rfl
              have hy0 : wr.cell? ⟨W.heap.size, 0, none⟩ = some (.int .i64 q.f0) := (zN (HK.out.same HIZ1.out HP50.out (by simp)) 0).trans rfl
              have hrd : rd xs (i : Int) = xs[i] := by unfold rd; simp [List.getD_eq_getElem?_getD, List.getElem?_eq_getElem hlt]
              have hsn : riceAll q.f0 Lq (xs.take (i + 1)) = (PL.rputR (riceAll q.f0 Lq (xs.take i)) (rd xs (i : Int)) (PL.kk q.f0)).2 := by
                rw [hrd, List.take_succ_eq_append_getElem hlt, riceAll_snoc]
              have hlc : (riceAll q.f0 Lq (xs.take i)).length < 1099511000000 := by
                have h1 := riceAll_len q.f0 (xs.take i) Lq
                have h2 := HL9'.out
                rw [List.length_take] at h1
                omega
              have hn64 : -9223372036854775808 ≤ rd xs (i : Int) ∧ rd xs (i : Int) < 9223372036854775808 := by rw [hrd]; exact HX64.out _ (List.getElem_mem hlt)
              obtain ⟨Lc, hLc⟩ : ∃ Lc, riceAll q.f0 Lq (xs.take i) = Lc := ⟨_, rfl⟩
              rw [hLc] at hsn hlc HJ
              obtain ⟨kq, hkq⟩ := PL.rput_ev Lc (rd xs (i : Int)) q.f0 hn64 hlc
              have HEV := zG.mk (hkq kq (Nat.le_refl _))
              have HSN := zG.mk hsn
              clear hsn hlc hn64 hkq hLc hrd
              gi_wp2
              refine ⟨trivial, ?_⟩
              gi_at_call 27
              refine (CallsIn.inRound lp (callsIn_wide.2 (rice_Put.calls kq g (PL.WB Lc) (Lc.length : Int) (rd xs (i : Int)) q.f0 _ _ _ w0 _ HJ.out.1.2.1 HJ.out.1.2.2.2.2.2.2 HEV.out))).mono ?_
              rintro e w10 ⟨rfl, hI10, hB10, hK10⟩
              have HJ10 := zG.mk (HJ.out.put hI10 hB10 hK10)
              have HK10 := zG.mk (HK.out.trans hK10)
              clear hI10 hB10 hK10 hz4 hy0
              gi_wp2
              go_roundw
              case rel => exact ⟨i + 1, hlt, by simp, ⟨by rw [HSN.out]; exact HJ10.out⟩, HK10⟩
              case measure => simp [intOf]; omega
            · obtain rfl : i = xs.length := by omega
              have hdl : decide (((xs.length : Nat) : Int) < (xs.length : Int)) = false := decide_eq_false (by omega)
              gi_wp2
              rw [HPART.out, HLQ.out]
              have hj := HJ.out
              rw [List.take_length] at hj
              exact ⟨KeepsFrom.of_KBe HK.out HIZ1.out _, Kp15.of_KBe HIZ.out HK.out, hj⟩
        | true =>
          rw [hraw] at hy1
          gi_wp2
          refine startR_ (n := 5) (S := fun w' => w'.cell? ⟨w.heap.size, 0, none⟩ = some (.pointer (some ⟨g, 0, none⟩)) ∧ w'.cell? ⟨w.heap.size + 1, 0, none⟩ = some (.bool false)) (ds := [4]) #[false, false, false, false, false] (by kernel_rfl) (by kernel_rfl) (by rintro ⟨a_, w_, h_⟩; exact h_) rfl rfl ⟨hz4, hz70⟩ (fun hHeld => ?_)
          refine pure_ (i := 1) (N := some 87) (v := ?_) (a' := ?_) #[false, true, false, false, false] rfl rfl (by kernel_rfl) (fun _ _ _ h => h) (Or.inl ⟨by rfl, ?_⟩) ?_ ?_
          rotate_left
          · intro w'
            go_simp
            first | done | with_reducible rfl
          rotate_left
          · simp only [Act.put, List.setIfInBounds_toArray, List.set_cons_zero, List.set_cons_succ, i64_w, i32_w]
            rfl
          refine take_ (i := 0) (N := some 86) (v := ?_) (a' := ?_) #[true, true, false, false, false] rfl rfl (by kernel_rfl) (fun _ _ _ h => h) (Or.inl ⟨by rfl, ?_⟩) hHeld ?_ ?_
          rotate_left
          · rintro w' ⟨s0, s1⟩
            go_simp
            first | done | with_reducible rfl
          rotate_left
          · simp only [Act.put, List.setIfInBounds_toArray, List.set_cons_zero, List.set_cons_succ, i64_w, i32_w]
            rfl
          refine take_ (i := 2) (N := some 88) (v := ?_) (a' := ?_) #[true, true, true, false, false] rfl rfl (by kernel_rfl) (fun _ _ _ h => h) (Or.inl ⟨by rfl, ?_⟩) hHeld ?_ ?_
          rotate_left
          · rintro w' ⟨s0, s1⟩
            go_simp
            first | done | with_reducible rfl
          rotate_left
          · simp only [Act.put, List.setIfInBounds_toArray, List.set_cons_zero, List.set_cons_succ, i64_w, i32_w]
            rfl
          refine one_ (i := 3) (N := some 89) #[true, true, true, true, false] rfl rfl (by kernel_rfl) (by decide) (fun K hK => ?_)
          refine goes_ Try.func26 (by kernel_rfl) rfl #[.bool false] (by rfl) rfl rfl (by simp only [List.map_toArray, List.map_cons, List.map_nil, Act.put, List.setIfInBounds_toArray, List.set_cons_zero, List.set_cons_succ]; first | done | rfl) ?_
          refine (section_size.calls false 4 _ rfl).mono ?_
          rintro e w8 ⟨rfl, d8_, rfl⟩
          refine ⟨_, rfl, ?_⟩
          refine hK.out _ _ hHeld (fun hHeld => ?_)
          clear hK K
          refine last_ (i := 4) (N := some 90) #[true, true, true, true, true] rfl rfl (by kernel_rfl) (by decide) (fun K hK => ?_)
          refine goes_ Try.func25 (by kernel_rfl) rfl #[.pointer (some ⟨g, 0, none⟩), .int .u64 31, .int .i64 4] (by rfl) rfl rfl (by simp only [List.map_toArray, List.map_cons, List.map_nil, Act.put, List.setIfInBounds_toArray, List.set_cons_zero, List.set_cons_succ]; first | done | rfl) ?_
          refine (bits_Writer_Put.calls g (PL.WB Lp) (Lp.length : Int) _ _ _ _ w0 _ ?qI8false ?qB8false (PL.put_eq Lp 31 4 (by have := HLP.out; omega))).mono ?_
          case qI8false => exact HIZ1.out
          case qB8false => exact ⟨HIZ2.out.os, HIZ2.out.tape, HIZ2.out.output, HIZ2.out.size, HIZ2.out.block⟩
          rintro e w9 ⟨rfl, hI9, hB9, hK9⟩
          refine ⟨_, rfl, ?_⟩
          refine hK.out _ _ ?_
          clear hK K
          refine done_ (by kernel_rfl) ?_
          have hj9 : J15 w0 w g false o A3 ps.length c3 (Lp ++ PL.digs 31 (PL.hw 4)) B2 D w9 := HIZ.out.put hI9 hB9 hK9
          have hk9 : KBe w0 Z w9 g := hK9
          have HJ9 := zG.mk hj9
          have HK9 := zG.mk hk9
          have hl9 : (Lp ++ PL.digs 31 (PL.hw 4)).length + 100 + 65600 * xs.length < 1098000000000 := by
            have h1 := PL.hw_le 4
            have h2 := HLP.out
            rw [List.length_append, PL.digs_len]
            omega
          have HL9' := zG.mk hl9
          have hpart : putPart false Lp q xs = rawAll q.f0 ((Lp ++ PL.digs 31 (PL.hw 4)) ++ PL.digs (IntKind.u64.wrap q.f0) (PL.hw 5)) xs := by
            unfold putPart
            rw [if_pos hraw]
            rfl
          have HPART := zG.mk hpart
          clear hj9 hk9 hl9 hpart hI9 hB9 hK9 hHeld hz4 hz70 hy0 hy1
          have hz4 : w9.cell? ⟨w.heap.size, 0, none⟩ = some (.pointer (some ⟨g, 0, none⟩)) := (zN HJ9.out.1.2.2.2.1 0).trans rfl
          have hy0 : w9.cell? ⟨W.heap.size, 0, none⟩ = some (.int .i64 q.f0) := (zN (HK9.out.same HIZ1.out HP50.out (by simp)) 0).trans rfl
          gi_wp2
          refine ⟨trivial, ?_⟩
          gi_at_call 25
          refine (CallsIn.inRound lp (callsIn_wide.2 (bits_Writer_Put.calls g (PL.WB (Lp ++ PL.digs 31 (PL.hw 4))) _ _ _ _ _ w0 _ HJ9.out.1.2.1 HJ9.out.1.2.2.2.2.2.2 (PL.put_eq (Lp ++ PL.digs 31 (PL.hw 4)) (IntKind.u64.wrap q.f0) 5 (by have := HL9'.out; omega))))).mono ?_
          rintro e w11 ⟨rfl, hI11, hB11, hK11⟩
          have hj11 := HJ9.out.put hI11 hB11 hK11
          have hk11 := HK9.out.trans hK11
          have hl11 : ((Lp ++ PL.digs 31 (PL.hw 4)) ++ PL.digs (IntKind.u64.wrap q.f0) (PL.hw 5)).length + 65600 * xs.length < 1099000000000 := by
            have h1 := PL.hw_le 5
            have h2 := HL9'.out
            rw [List.length_append, PL.digs_len]
            omega
          obtain ⟨Lq, hLq⟩ : ∃ Lq, (Lp ++ PL.digs 31 (PL.hw 4)) ++ PL.digs (IntKind.u64.wrap q.f0) (PL.hw 5) = Lq := ⟨_, rfl⟩
          rw [hLq] at hj11 hl11
          have HLQ := zG.mk hLq
          have HJ11 := zG.mk hj11
          have HL11 := zG.mk hl11
          have HK11 := zG.mk hk11
          clear hj11 hk11 hl11 hLq hI11 hB11 hK11 hz4 hy0
          gi_wp2
          gi_loopw [98] (fun v wr => ∃ (i : Nat), i ≤ xs.length ∧ v = .int .i64 (i : Int) ∧ zG (J15 w0 w g false o A3 ps.length c3 (rawAll q.f0 Lq (xs.take i)) B2 D wr) ∧ zG (KBe w0 Z wr g))
            (fun v _ => xs.length - (intOf v).toNat)
          case atStart => exact ⟨0, Nat.zero_le _, rfl, ⟨by rw [List.take_zero]; exact HJ11.out⟩, HK11⟩
          case round =>
            obtain ⟨i, hil, rfl, HJ, HK⟩ := hrel
            by_cases hlt : i < xs.length
            · have hdl : decide ((i : Int) < (xs.length : Int)) = true := decide_eq_true (by omega)
              obtain ⟨ad, hA, hcell⟩ := Kd.at_int (HCX.out _ HJ.out.1.1) (i : Int) (by omega) (by omega)
              subst hA
              simp only [Int.toNat_natCast] at hcell
              have q1 := eq_true (show (i : Int) < (xs.length : Int) by omega)
              have hz4 : wr.cell? ⟨w.heap.size, 0, none⟩ = some (.pointer (some ⟨g, 0, none⟩)) := (zN HJ.out.1.2.2.2.1 0).trans rfl
              have hy0 : wr.cell? ⟨W.heap.size, 0, none⟩ = some (.int .i64 q.f0) := (zN (HK.out.same HIZ1.out HP50.out (by simp)) 0).trans rfl
              have hrd : rd xs (i : Int) = xs[i] := by unfold rd; simp [List.getD_eq_getElem?_getD, List.getElem?_eq_getElem hlt]
              have hsn : rawAll q.f0 Lq (xs.take (i + 1)) = rawAll q.f0 Lq (xs.take i) ++ PL.digs (IntKind.u64.wrap (rd xs (i : Int))) (PL.hw q.f0) := by
                rw [hrd, List.take_succ_eq_append_getElem hlt, rawAll_snoc]
              have hlc : (rawAll q.f0 Lq (xs.take i)).length < 1099511000000 := by
                have h1 := rawAll_len q.f0 (xs.take i) Lq
                have h2 := HL11.out
                rw [List.length_take] at h1
                omega
              obtain ⟨Lc, hLc⟩ : ∃ Lc, rawAll q.f0 Lq (xs.take i) = Lc := ⟨_, rfl⟩
              rw [hLc] at hsn hlc HJ
              have HEV := zG.mk (PL.put_eq Lc (IntKind.u64.wrap (rd xs (i : Int))) q.f0 (by omega))
              have HSN := zG.mk hsn
              clear hsn hlc hLc hrd
              gi_wp2
              refine ⟨trivial, ?_⟩
              gi_at_call 25
              refine (CallsIn.inRound lp (callsIn_wide.2 (bits_Writer_Put.calls g (PL.WB Lc) (Lc.length : Int) _ _ _ _ w0 _ HJ.out.1.2.1 HJ.out.1.2.2.2.2.2.2 HEV.out))).mono ?_
              rintro e w10 ⟨rfl, hI10, hB10, hK10⟩
              have HJ10 := zG.mk (HJ.out.put hI10 hB10 hK10)
              have HK10 := zG.mk (HK.out.trans hK10)
              clear hI10 hB10 hK10 hz4 hy0
              gi_wp2
              go_roundw
              case rel => exact ⟨i + 1, hlt, by simp, ⟨by rw [HSN.out]; exact HJ10.out⟩, HK10⟩
              case measure => simp [intOf]; omega
            · obtain rfl : i = xs.length := by omega
              have hdl : decide (((xs.length : Nat) : Int) < (xs.length : Int)) = false := decide_eq_false (by omega)
              gi_wp2
              rw [HPART.out, HLQ.out]
              have hj := HJ.out
              rw [List.take_length] at hj
              exact ⟨KeepsFrom.of_KBe HK.out HIZ1.out _, Kp15.of_KBe HIZ.out HK.out, hj⟩
    | true =>
      gi_wp2
      refine ⟨trivial, ?_⟩
      gi_at_call 25
      refine (callsIn_wide.2 (bits_Writer_Put.calls g _ _ _ _ _ _ w0 _ HIW.out.2.1 HIW.out.2.2.2.2.2.2 (PL.put_eq L 1 2 (by have := HROOM.out; omega)))).mono ?_
      rintro e w4 ⟨rfl, hI4, hB4, hK4⟩
      have HI4 := zG.mk (HIW.out.put hI4 hB4 hK4)
      have HKD4 := zG.mk (hK4.same HIW.out.2.1 HKD.out (by simp))
      clear hI4 hB4 hK4 hz4 hz70
      have hz4 : w4.cell? ⟨w.heap.size, 0, none⟩ = some (.pointer (some ⟨g, 0, none⟩)) := (zN HI4.out.2.2.2.1 0).trans rfl
      have hz71 : w4.cell? ⟨w.heap.size + 1, 1, none⟩ = some (.int .i64 o) := (zN HI4.out.2.2.2.2.1 1).trans rfl
      gi_wp2
      refine ⟨trivial, ?_⟩
      gi_at_call 25
      refine (callsIn_wide.2 (bits_Writer_Put.calls g _ _ _ _ _ _ w0 _ HI4.out.2.1 HI4.out.2.2.2.2.2.2 (PL.put_eq (L ++ PL.digs 1 (PL.hw 2)) (IntKind.u64.wrap o) 4 (by have := HROOM.out; have := PL.hw_le 2; rw [List.length_append, PL.digs_len]; omega)))).mono ?_
      rintro e w5 ⟨rfl, hI5, hB5, hK5⟩
      have HI5 := zG.mk (HI4.out.put hI5 hB5 hK5)
      have HKD5 := zG.mk (hK5.same HI4.out.2.1 HKD4.out (by simp))
      clear hI5 hB5 hK5 hz4 hz71
      have hz70 : w5.cell? ⟨w.heap.size + 1, 0, none⟩ = some (.bool true) := (zN HI5.out.2.2.2.2.1 0).trans rfl
      have hz71 : w5.cell? ⟨w.heap.size + 1, 1, none⟩ = some (.int .i64 o) := (zN HI5.out.2.2.2.2.1 1).trans rfl
      have hz72 : w5.cell? ⟨w.heap.size + 1, 2, none⟩ = some (.slice A3 ps.length c3) := (zN HI5.out.2.2.2.2.1 2).trans rfl
      gi_wp2
      refine wpIn_label ?_
      gi_wp2_with (refine ⟨trivial, ?_⟩; gi_at_call 23; refine (sec_each_in _ A l.length c order true o A3 ps.length c3 _).mono ?_; rintro e w6 ⟨rfl, rfl⟩)
      obtain ⟨W6, hW6⟩ : ∃ W6, ((w5.alloc (.cells #[.slice A l.length c] 22)).alloc (.cells #[.int .i64 order] 3)).alloc (.cells #[.bool true, .int .i64 o, .slice A3 ps.length c3] 25) = W6 := ⟨_, rfl⟩
      have c1 : W6.heap[w5.heap.size]? = some (.cells #[.slice A l.length c] 22 (0, 0)) := by rw [← hW6]; exact zK (zK (World.alloc_heap_new w5 _) _) _
      have c2 : W6.heap[w5.heap.size + 1]? = some (.cells #[.int .i64 order] 3 (0, 0)) := by
        have h := World.alloc_heap_new (w5.alloc (.cells #[.slice A l.length c] 22)) (.cells #[.int .i64 order] 3)
        rw [World.size_alloc] at h
        rw [← hW6]; exact zK h _
      have c3_ : W6.heap[w5.heap.size + 2]? = some (.cells #[.bool true, .int .i64 o, .slice A3 ps.length c3] 25 (0, 0)) := by
        have h := World.alloc_heap_new ((w5.alloc (.cells #[.slice A l.length c] 22)).alloc (.cells #[.int .i64 order] 3)) (.cells #[.bool true, .int .i64 o, .slice A3 ps.length c3] 25)
        rw [World.size_alloc, World.size_alloc] at h
        rw [← hW6]; exact h
      have hB6 : Below w5.heap.size w5 W6 := by rw [← hW6]; exact (((Below.refl _ w5).alloc (Nat.le_refl _) _).alloc (by simp) _).alloc (by simp; omega) _
      have hs6 : W6.heap.size = w5.heap.size + 3 := by rw [← hW6]; simp
      have hDl : D < w5.heap.size := (Array.getElem?_eq_some_iff.1 HKD5.out).1
      have J6 : J15 w0 w g true o A3 ps.length c3 (putAll15 true (headB L true o) []) w5.heap.size D W6 := ⟨HI5.out.below hsz hB6, ⟨_, c1⟩, (hB6.block _ hDl).trans HKD5.out⟩
      have k6 : KC w0 w W6 := J6.1.1
      rw [hW6]
      have hgives2 := sec_each1 5 (by omega) k w0 W6 w5.heap.size (w5.heap.size + 1) (w5.heap.size + 2) A c l order true o A3 c3 ps cuts HCUT.out HFIT.out HLEN.out HBIG.out Hc1.out (by omega) (by omega) (fun W' hk => HC3.out W' (k6.trans hk)) c1 c2 c3_
      have hsw6 : w0.heap.size ≤ W6.heap.size := by omega
      obtain ⟨B2, hB2⟩ : ∃ B2, B2 = w5.heap.size := ⟨_, rfl⟩
      rw [← hB2] at hgives2 hs6 J6 hDl ⊢
      have hB2k : w0.heap.size ≤ B2 := by omega
      clear hW6 c2 c3_ c1 hB6 hz70 hz71 hz72
      refine wpIn_rangeFunc_turn rfl (by omega) (gf := 43) rfl trivial (enters_of Try.func43 (by kernel_rfl) rfl) (fun _ => rfl) hgives2 (fun h k => Kp15.trans h k) (Kp15.book hsw6)
        (fun pre W => J15 w0 w g true o A3 ps.length c3 (putAll15 true (headB L true o) pre) B2 D W) (fun cd pre W => False)
        ?hI2 ?hIx2 ?hTI2 ?hTK2 J6 ?round2 ?done2 ?stop2
      case hI2 => exact fun s X Y row hs hg hr => hs.grown hsz (S := W6.heap.size) (by omega) (by omega) hg hr
      case hIx2 => exact fun cd s X Y row hs hg hr => hs
      case hTI2 => exact fun pre X Y hs ht => hs.turn hsz (by omega) ht
      case hTK2 =>
        rintro X Y ⟨u, u', hb, rfl⟩
        exact (KeepsOthers.setCell _ _ _).from _
      case stop2 => exact fun D cd pre W hD hp h _ => h.elim
      case done2 =>
        rintro D2 W7 hD2 hi7 hK7
        have hc8 := hi7.1.2.2.2.2.2.1.cell
        have hf8 := hi7.1.2.2.2.2.2.1.frozen
        have HI7 := zG.mk hi7
        have HK7 := zG.mk hK7
        clear hi7 hK7 hgives2 J6 k6
        have hcz : (W7.setCell ⟨w.heap.size + 1 + 1, 0, none⟩ (.int .i64 0)).heap[D2]? = some (.deferred (some [])) := (Below.heap_setCell W7 ⟨w.heap.size + 1 + 1, 0, none⟩ _ D2 (by show D2 ≠ w.heap.size + 1 + 1; omega)).trans HK7.out
        have hcy : (W7.setCell ⟨w.heap.size + 1 + 1, 0, none⟩ (.int .i64 0)).heap[D]? = some (.deferred (some [])) := (Below.heap_setCell W7 ⟨w.heap.size + 1 + 1, 0, none⟩ _ D (by show D ≠ w.heap.size + 1 + 1; omega)).trans HI7.out.2.2
        have hcy2 : ((W7.setCell ⟨w.heap.size + 1 + 1, 0, none⟩ (.int .i64 0)).putObj D2 (.deferred none)).heap[D]? = some (.deferred (some [])) := (World.putObj_heap_other (by omega)).trans hcy
        have HC1 := zG.mk hcz
        have HC2 := zG.mk hcy2
        clear hcz hcy hcy2
        have t7 := HI7.out.1.told hsz 0
        have t8 := t7.grown hsz (grownBy_putObj' _ D2 (.deferred none)) (fun q e => by cases e; exact ⟨by omega, _, HC1.out, rfl⟩)
        have t9 := t8.grown hsz (grownBy_putObj' _ D (.deferred none)) (fun q e => by cases e; exact ⟨by omega, _, HC2.out, rfl⟩)
        have HT9 := zG.mk t9
        clear t7 t8 t9
        gi_wp2
        obtain ⟨_, ht2, ht3, _, _, ht6, ht7⟩ := HT9.out
        have hc6 := ht6.cell
        rw [Exit.noGoto_ret]
        refine ⟨by simp, .inl ⟨_, _, rfl, run_takeDeferred HC1.out, ?_⟩⟩
        refine ⟨by simp, .inl ⟨_, _, rfl, run_takeDeferred HC2.out, ?_⟩⟩
        refine ⟨.int .i64 0, ?_, rfl, ht2, ht7, ht3⟩
        simp [results, Try.f9, go_sem, hc6]
      case round2 =>
        rintro lp pre ⟨q, A', c', xs⟩ W K hi hfull hK
        simp only [encE, List.map_toArray] at hK ⊢
        gi_wp2
        have hmem : (q, A', c', xs) ∈ rows15 cuts A c l ps := hfull.subset (by simp)
        obtain ⟨hCx, hcx, hlx, hqm⟩ := HGOOD.out _ hmem
        have hWs : w0.heap.size ≤ W.heap.size := Nat.le_trans hsz hi.1.1.1
        refine hK _ (W.alloc (.cells #[.int .i64 q.f0, .bool q.f1] 50)) ((KeepsOthers.alloc _ _).from _) ⟨KC.of_below hWs (zF (Below.refl _ _) _), fun cs t f e => zK e _⟩ (hi.below hsz (zF (Below.refl _ _) _)) ?_
        intro Z hZb hZc hZr hZk hZi
        have hp50 : Z.heap[W.heap.size]? = some (.cells #[.int .i64 q.f0, .bool q.f1] 50 (0, 0)) := hZc _ _ _ _ (World.alloc_heap_new W _)
        have hy0 : Z.cell? ⟨W.heap.size, 0, none⟩ = some (.int .i64 q.f0) := (zN hp50 0).trans rfl
        have hy1 : Z.cell? ⟨W.heap.size, 1, none⟩ = some (.bool q.f1) := (zN hp50 1).trans rfl
        have hz4 : Z.cell? ⟨w.heap.size, 0, none⟩ = some (.pointer (some ⟨g, 0, none⟩)) := (zN hZi.1.2.2.2.1 0).trans rfl
        have hz70 : Z.cell? ⟨w.heap.size + 1, 0, none⟩ = some (.bool true) := (zN hZi.1.2.2.2.2.1 0).trans rfl
        have hsnoc : putAll15 true (headB L true o) (pre ++ [(q, A', c', xs)]) = putPart true (putAll15 true (headB L true o) pre) q xs := putAll15_snoc _ _ _ _
        have hlp := put_room true o cuts A c l ps L pre (q, A', c', xs) hfull (fun x hx => (HGOOD.out x hx).2.2.1) HROOM.out
        have hx64 : ∀ y ∈ xs, -9223372036854775808 ≤ y ∧ y < 9223372036854775808 := fun y hy => H64.out y (rows15_sub _ _ _ _ _ _ hmem y hy)
        obtain ⟨Lp, hLp⟩ : ∃ Lp, putAll15 true (headB L true o) pre = Lp := ⟨_, rfl⟩
        rw [hLp] at hsnoc hlp hZi
        rw [hsnoc]
        have HCX := zG.mk hCx
        have HIZ := zG.mk hZi
        have HIZ1 := zG.mk hZi.1.2.1
        have HIZ2 := zG.mk hZi.1.2.2.2.2.2.2
        have HLP := zG.mk hlp
        have HP50 := zG.mk hp50
        have HX64 := zG.mk hx64
        have hxl : xs.length < 1000000 := Nat.lt_of_le_of_lt hlx HL9.out
        clear hK hi hfull hmem hCx hcx hlx hqm hZb hZc hZr hZk hp50 hZi hlp hx64 hLp hsnoc hgives2 J6 k6
        cases hraw : q.f1 with
        | false =>
          rw [hraw] at hy1
          gi_wp2
          refine startR_ (n := 8) (S := fun w' => w'.cell? ⟨w.heap.size, 0, none⟩ = some (.pointer (some ⟨g, 0, none⟩)) ∧ w'.cell? ⟨W.heap.size, 0, none⟩ = some (.int .i64 q.f0) ∧ w'.cell? ⟨w.heap.size + 1, 0, none⟩ = some (.bool true)) (ds := [7]) #[false, false, false, false, false, false, false, false] (by kernel_rfl) (by kernel_rfl) (by rintro ⟨a_, w_, h_⟩; exact h_) rfl rfl ⟨hz4, hy0, hz70⟩ (fun hHeld => ?_)
          refine pure_ (i := 1) (N := some 67) (v := ?_) (a' := ?_) #[false, true, false, false, false, false, false, false] rfl rfl (by kernel_rfl) (fun _ _ _ h => h) (Or.inl ⟨by rfl, ?_⟩) ?_ ?_
          rotate_left
          · intro w'
            go_simp
            first | done | with_reducible rfl
          rotate_left
          · simp only [Act.put, List.setIfInBounds_toArray, List.set_cons_zero, List.set_cons_succ, i64_w, i32_w]
            rfl
          refine pure_ (i := 4) (N := some 70) (v := ?_) (a' := ?_) #[false, true, false, false, true, false, false, false] rfl rfl (by kernel_rfl) (fun _ _ _ h => h) (Or.inl ⟨by rfl, ?_⟩) ?_ ?_
          rotate_left
          · intro w'
            go_simp
            first | done | with_reducible rfl
          rotate_left
          · simp only [Act.put, List.setIfInBounds_toArray, List.set_cons_zero, List.set_cons_succ, i64_w, i32_w]
            rfl
          refine take_ (i := 0) (N := some 66) (v := ?_) (a' := ?_) #[true, true, false, false, true, false, false, false] rfl rfl (by kernel_rfl) (fun _ _ _ h => h) (Or.inl ⟨by rfl, ?_⟩) hHeld ?_ ?_
          rotate_left
          · rintro w' ⟨s0, s1, s2⟩
            go_simp
            first | done | with_reducible rfl
          rotate_left
          · simp only [Act.put, List.setIfInBounds_toArray, List.set_cons_zero, List.set_cons_succ, i64_w, i32_w]
            rfl
          refine take_ (i := 2) (N := some 68) (v := ?_) (a' := ?_) #[true, true, true, false, true, false, false, false] rfl rfl (by kernel_rfl) (fun _ _ _ h => h) (Or.inl ⟨by rfl, ?_⟩) hHeld ?_ ?_
          rotate_left
          · rintro w' ⟨s0, s1, s2⟩
            go_simp
            first | done | with_reducible rfl
          rotate_left
          · simp only [Act.put, List.setIfInBounds_toArray, List.set_cons_zero, List.set_cons_succ, i64_w, i32_w]
            rfl
          refine pure_ (i := 3) (N := some 69) (v := ?_) (a' := ?_) #[true, true, true, true, true, false, false, false] rfl rfl (by kernel_rfl) (fun _ _ _ h => h) (Or.inl ⟨by rfl, ?_⟩) ?_ ?_
          rotate_left
          · intro w'
            go_simp
            first | done | with_reducible rfl
          rotate_left
          · simp only [Act.put, List.setIfInBounds_toArray, List.set_cons_zero, List.set_cons_succ, i64_w, i32_w]
            rfl
          refine take_ (i := 5) (N := some 71) (v := ?_) (a' := ?_) #[true, true, true, true, true, true, false, false] rfl rfl (by kernel_rfl) (fun _ _ _ h => h) (Or.inl ⟨by rfl, ?_⟩) hHeld ?_ ?_
          rotate_left
          · rintro w' ⟨s0, s1, s2⟩
            go_simp
            first | done | with_reducible rfl
          rotate_left
          · simp only [Act.put, List.setIfInBounds_toArray, List.set_cons_zero, List.set_cons_succ, i64_w, i32_w]
            rfl
          refine one_ (i := 6) (N := some 72) #[true, true, true, true, true, true, true, false] rfl rfl (by kernel_rfl) (by decide) (fun K hK => ?_)
          refine goes_ Try.func26 (by kernel_rfl) rfl #[.bool true] (by rfl) rfl rfl (by simp only [List.map_toArray, List.map_cons, List.map_nil, Act.put, List.setIfInBounds_toArray, List.set_cons_zero, List.set_cons_succ]; first | done | rfl) ?_
          refine (section_size.calls true 5 _ rfl).mono ?_
          rintro e w8 ⟨rfl, d8_, rfl⟩
          refine ⟨_, rfl, ?_⟩
          refine hK.out _ _ hHeld (fun hHeld => ?_)
          clear hK K
          refine last_ (i := 7) (N := some 73) #[true, true, true, true, true, true, true, true] rfl rfl (by kernel_rfl) (by decide) (fun K hK => ?_)
          refine goes_ Try.func25 (by kernel_rfl) rfl #[.pointer (some ⟨g, 0, none⟩), .int .u64 (IntKind.u64.wrap q.f0), .int .i64 5] (by rfl) rfl rfl (by simp only [List.map_toArray, List.map_cons, List.map_nil, Act.put, List.setIfInBounds_toArray, List.set_cons_zero, List.set_cons_succ]; first | done | rfl) ?_
          refine (bits_Writer_Put.calls g (PL.WB Lp) (Lp.length : Int) _ _ _ _ w0 _ ?qI9true ?qB9true (PL.put_eq Lp (IntKind.u64.wrap q.f0) 5 (by have := HLP.out; omega))).mono ?_
          case qI9true => exact HIZ1.out
          case qB9true => exact ⟨HIZ2.out.os, HIZ2.out.tape, HIZ2.out.output, HIZ2.out.size, HIZ2.out.block⟩
          rintro e w9 ⟨rfl, hI9, hB9, hK9⟩
          refine ⟨_, rfl, ?_⟩
          refine hK.out _ _ ?_
          clear hK K
          refine done_ (by kernel_rfl) ?_
          have hpart : putPart true Lp q xs = riceAll q.f0 (Lp ++ PL.digs (IntKind.u64.wrap q.f0) (PL.hw 5)) xs := by
            unfold putPart
            rw [if_neg (by rw [hraw]; simp)]
            rfl
          have HPART := zG.mk hpart
          have hj9 : J15 w0 w g true o A3 ps.length c3 (Lp ++ PL.digs (IntKind.u64.wrap q.f0) (PL.hw 5)) B2 D w9 := HIZ.out.put hI9 hB9 hK9
          have hl9 : (Lp ++ PL.digs (IntKind.u64.wrap q.f0) (PL.hw 5)).length + 65600 * xs.length < 1099000000000 := by
            have h1 := PL.hw_le 5
            have h2 := HLP.out
            rw [List.length_append, PL.digs_len]
            omega
          obtain ⟨Lq, hLq⟩ : ∃ Lq, Lp ++ PL.digs (IntKind.u64.wrap q.f0) (PL.hw 5) = Lq := ⟨_, rfl⟩
          rw [hLq] at hj9 hl9
          have HLQ := zG.mk hLq
          have HJ9 := zG.mk hj9
          have HL9' := zG.mk hl9
          have HK9 := zG.mk (show KBe w0 Z w9 g from hK9)
          clear hpart hj9 hl9 hLq hI9 hB9 hK9 hHeld hz4 hz70 hy0 hy1
          gi_wp2
          gi_loopw [76] (fun v wr => ∃ (i : Nat), i ≤ xs.length ∧ v = .int .i64 (i : Int) ∧ zG (J15 w0 w g true o A3 ps.length c3 (riceAll q.f0 Lq (xs.take i)) B2 D wr) ∧ zG (KBe w0 Z wr g))
            (fun v _ => xs.length - (intOf v).toNat)
          case atStart => exact ⟨0, Nat.zero_le _, rfl, ⟨by rw [List.take_zero]; exact HJ9.out⟩, HK9⟩
          case round =>
            obtain ⟨i, hil, rfl, HJ, HK⟩ := hrel
            by_cases hlt : i < xs.length
            · have hdl : decide ((i : Int) < (xs.length : Int)) = true := decide_eq_true (by omega)
              obtain ⟨ad, hA, hcell⟩ := Kd.at_int (HCX.out _ HJ.out.1.1) (i : Int) (by omega) (by omega)
              subst hA
              simp only [Int.toNat_natCast] at hcell
              have q1 := eq_true (show (i : Int) < (xs.length : Int) by omega)
              have hz4 : wr.cell? ⟨w.heap.size, 0, none⟩ = some (.pointer (some ⟨g, 0, none⟩)) := (zN HJ.out.1.2.2.2.1 0).trans rfl
              have hy0 : wr.cell? ⟨W.heap.size, 0, none⟩ = some (.int .i64 q.f0) := (zN (HK.out.same HIZ1.out HP50.out (by simp)) 0).trans rfl
              have hrd : rd xs (i : Int) = xs[i] := by unfold rd; simp [List.getD_eq_getElem?_getD, List.getElem?_eq_getElem hlt]
              have hsn : riceAll q.f0 Lq (xs.take (i + 1)) = (PL.rputR (riceAll q.f0 Lq (xs.take i)) (rd xs (i : Int)) (PL.kk q.f0)).2 := by
                rw [hrd, List.take_succ_eq_append_getElem hlt, riceAll_snoc]
              have hlc : (riceAll q.f0 Lq (xs.take i)).length < 1099511000000 := by
                have h1 := riceAll_len q.f0 (xs.take i) Lq
                have h2 := HL9'.out
                rw [List.length_take] at h1
                omega
              have hn64 : -9223372036854775808 ≤ rd xs (i : Int) ∧ rd xs (i : Int) < 9223372036854775808 := by rw [hrd]; exact HX64.out _ (List.getElem_mem hlt)
              obtain ⟨Lc, hLc⟩ : ∃ Lc, riceAll q.f0 Lq (xs.take i) = Lc := ⟨_, rfl⟩
              rw [hLc] at hsn hlc HJ
              obtain ⟨kq, hkq⟩ := PL.rput_ev Lc (rd xs (i : Int)) q.f0 hn64 hlc
              have HEV := zG.mk (hkq kq (Nat.le_refl _))
              have HSN := zG.mk hsn
              clear hsn hlc hn64 hkq hLc hrd
              gi_wp2
              refine ⟨trivial, ?_⟩
              gi_at_call 27
              refine (CallsIn.inRound lp (callsIn_wide.2 (rice_Put.calls kq g (PL.WB Lc) (Lc.length : Int) (rd xs (i : Int)) q.f0 _ _ _ w0 _ HJ.out.1.2.1 HJ.out.1.2.2.2.2.2.2 HEV.out))).mono ?_
              rintro e w10 ⟨rfl, hI10, hB10, hK10⟩
              have HJ10 := zG.mk (HJ.out.put hI10 hB10 hK10)
              have HK10 := zG.mk (HK.out.trans hK10)
              clear hI10 hB10 hK10 hz4 hy0
              gi_wp2
              go_roundw
              case rel => exact ⟨i + 1, hlt, by simp, ⟨by rw [HSN.out]; exact HJ10.out⟩, HK10⟩
              case measure => simp [intOf]; omega
            · obtain rfl : i = xs.length := by omega
              have hdl : decide (((xs.length : Nat) : Int) < (xs.length : Int)) = false := decide_eq_false (by omega)
              gi_wp2
              rw [HPART.out, HLQ.out]
              have hj := HJ.out
              rw [List.take_length] at hj
              exact ⟨KeepsFrom.of_KBe HK.out HIZ1.out _, Kp15.of_KBe HIZ.out HK.out, hj⟩
        | true =>
          rw [hraw] at hy1
          gi_wp2
          refine startR_ (n := 5) (S := fun w' => w'.cell? ⟨w.heap.size, 0, none⟩ = some (.pointer (some ⟨g, 0, none⟩)) ∧ w'.cell? ⟨w.heap.size + 1, 0, none⟩ = some (.bool true)) (ds := [4]) #[false, false, false, false, false] (by kernel_rfl) (by kernel_rfl) (by rintro ⟨a_, w_, h_⟩; exact h_) rfl rfl ⟨hz4, hz70⟩ (fun hHeld => ?_)
          refine pure_ (i := 1) (N := some 87) (v := ?_) (a' := ?_) #[false, true, false, false, false] rfl rfl (by kernel_rfl) (fun _ _ _ h => h) (Or.inl ⟨by rfl, ?_⟩) ?_ ?_
          rotate_left
          · intro w'
            go_simp
            first | done | with_reducible rfl
          rotate_left
          · simp only [Act.put, List.setIfInBounds_toArray, List.set_cons_zero, List.set_cons_succ, i64_w, i32_w]
            rfl
          refine take_ (i := 0) (N := some 86) (v := ?_) (a' := ?_) #[true, true, false, false, false] rfl rfl (by kernel_rfl) (fun _ _ _ h => h) (Or.inl ⟨by rfl, ?_⟩) hHeld ?_ ?_
          rotate_left
          · rintro w' ⟨s0, s1⟩
            go_simp
            first | done | with_reducible rfl
          rotate_left
          · simp only [Act.put, List.setIfInBounds_toArray, List.set_cons_zero, List.set_cons_succ, i64_w, i32_w]
            rfl
          refine take_ (i := 2) (N := some 88) (v := ?_) (a' := ?_) #[true, true, true, false, false] rfl rfl (by kernel_rfl) (fun _ _ _ h => h) (Or.inl ⟨by rfl, ?_⟩) hHeld ?_ ?_
          rotate_left
          · rintro w' ⟨s0, s1⟩
            go_simp
            first | done | with_reducible rfl
          rotate_left
          · simp only [Act.put, List.setIfInBounds_toArray, List.set_cons_zero, List.set_cons_succ, i64_w, i32_w]
            rfl
          refine one_ (i := 3) (N := some 89) #[true, true, true, true, false] rfl rfl (by kernel_rfl) (by decide) (fun K hK => ?_)
          refine goes_ Try.func26 (by kernel_rfl) rfl #[.bool true] (by rfl) rfl rfl (by simp only [List.map_toArray, List.map_cons, List.map_nil, Act.put, List.setIfInBounds_toArray, List.set_cons_zero, List.set_cons_succ]; first | done | rfl) ?_
          refine (section_size.calls true 5 _ rfl).mono ?_
          rintro e w8 ⟨rfl, d8_, rfl⟩
          refine ⟨_, rfl, ?_⟩
          refine hK.out _ _ hHeld (fun hHeld => ?_)
          clear hK K
          refine last_ (i := 4) (N := some 90) #[true, true, true, true, true] rfl rfl (by kernel_rfl) (by decide) (fun K hK => ?_)
          refine goes_ Try.func25 (by kernel_rfl) rfl #[.pointer (some ⟨g, 0, none⟩), .int .u64 31, .int .i64 5] (by rfl) rfl rfl (by simp only [List.map_toArray, List.map_cons, List.map_nil, Act.put, List.setIfInBounds_toArray, List.set_cons_zero, List.set_cons_succ]; first | done | rfl) ?_
          refine (bits_Writer_Put.calls g (PL.WB Lp) (Lp.length : Int) _ _ _ _ w0 _ ?qI8true ?qB8true (PL.put_eq Lp 31 5 (by have := HLP.out; omega))).mono ?_
          case qI8true => exact HIZ1.out
          case qB8true => exact ⟨HIZ2.out.os, HIZ2.out.tape, HIZ2.out.output, HIZ2.out.size, HIZ2.out.block⟩
          rintro e w9 ⟨rfl, hI9, hB9, hK9⟩
          refine ⟨_, rfl, ?_⟩
          refine hK.out _ _ ?_
          clear hK K
          refine done_ (by kernel_rfl) ?_
          have hj9 : J15 w0 w g true o A3 ps.length c3 (Lp ++ PL.digs 31 (PL.hw 5)) B2 D w9 := HIZ.out.put hI9 hB9 hK9
          have hk9 : KBe w0 Z w9 g := hK9
          have HJ9 := zG.mk hj9
          have HK9 := zG.mk hk9
          have hl9 : (Lp ++ PL.digs 31 (PL.hw 5)).length + 100 + 65600 * xs.length < 1098000000000 := by
            have h1 := PL.hw_le 5
            have h2 := HLP.out
            rw [List.length_append, PL.digs_len]
            omega
          have HL9' := zG.mk hl9
          have hpart : putPart true Lp q xs = rawAll q.f0 ((Lp ++ PL.digs 31 (PL.hw 5)) ++ PL.digs (IntKind.u64.wrap q.f0) (PL.hw 5)) xs := by
            unfold putPart
            rw [if_pos hraw]
            rfl
          have HPART := zG.mk hpart
          clear hj9 hk9 hl9 hpart hI9 hB9 hK9 hHeld hz4 hz70 hy0 hy1
          have hz4 : w9.cell? ⟨w.heap.size, 0, none⟩ = some (.pointer (some ⟨g, 0, none⟩)) := (zN HJ9.out.1.2.2.2.1 0).trans rfl
          have hy0 : w9.cell? ⟨W.heap.size, 0, none⟩ = some (.int .i64 q.f0) := (zN (HK9.out.same HIZ1.out HP50.out (by simp)) 0).trans rfl
          gi_wp2
          refine ⟨trivial, ?_⟩
          gi_at_call 25
          refine (CallsIn.inRound lp (callsIn_wide.2 (bits_Writer_Put.calls g (PL.WB (Lp ++ PL.digs 31 (PL.hw 5))) _ _ _ _ _ w0 _ HJ9.out.1.2.1 HJ9.out.1.2.2.2.2.2.2 (PL.put_eq (Lp ++ PL.digs 31 (PL.hw 5)) (IntKind.u64.wrap q.f0) 5 (by have := HL9'.out; omega))))).mono ?_
          rintro e w11 ⟨rfl, hI11, hB11, hK11⟩
          have hj11 := HJ9.out.put hI11 hB11 hK11
          have hk11 := HK9.out.trans hK11
          have hl11 : ((Lp ++ PL.digs 31 (PL.hw 5)) ++ PL.digs (IntKind.u64.wrap q.f0) (PL.hw 5)).length + 65600 * xs.length < 1099000000000 := by
            have h1 := PL.hw_le 5
            have h2 := HL9'.out
            rw [List.length_append, PL.digs_len]
            omega
          obtain ⟨Lq, hLq⟩ : ∃ Lq, (Lp ++ PL.digs 31 (PL.hw 5)) ++ PL.digs (IntKind.u64.wrap q.f0) (PL.hw 5) = Lq := ⟨_, rfl⟩
          rw [hLq] at hj11 hl11
          have HLQ := zG.mk hLq
          have HJ11 := zG.mk hj11
          have HL11 := zG.mk hl11
          have HK11 := zG.mk hk11
          clear hj11 hk11 hl11 hLq hI11 hB11 hK11 hz4 hy0
          gi_wp2
          gi_loopw [98] (fun v wr => ∃ (i : Nat), i ≤ xs.length ∧ v = .int .i64 (i : Int) ∧ zG (J15 w0 w g true o A3 ps.length c3 (rawAll q.f0 Lq (xs.take i)) B2 D wr) ∧ zG (KBe w0 Z wr g))
            (fun v _ => xs.length - (intOf v).toNat)
          case atStart => exact ⟨0, Nat.zero_le _, rfl, ⟨by rw [List.take_zero]; exact HJ11.out⟩, HK11⟩
          case round =>
            obtain ⟨i, hil, rfl, HJ, HK⟩ := hrel
            by_cases hlt : i < xs.length
            · have hdl : decide ((i : Int) < (xs.length : Int)) = true := decide_eq_true (by omega)
              obtain ⟨ad, hA, hcell⟩ := Kd.at_int (HCX.out _ HJ.out.1.1) (i : Int) (by omega) (by omega)
              subst hA
              simp only [Int.toNat_natCast] at hcell
              have q1 := eq_true (show (i : Int) < (xs.length : Int) by omega)
              have hz4 : wr.cell? ⟨w.heap.size, 0, none⟩ = some (.pointer (some ⟨g, 0, none⟩)) := (zN HJ.out.1.2.2.2.1 0).trans rfl
              have hy0 : wr.cell? ⟨W.heap.size, 0, none⟩ = some (.int .i64 q.f0) := (zN (HK.out.same HIZ1.out HP50.out (by simp)) 0).trans rfl
              have hrd : rd xs (i : Int) = xs[i] := by unfold rd; simp [List.getD_eq_getElem?_getD, List.getElem?_eq_getElem hlt]
              have hsn : rawAll q.f0 Lq (xs.take (i + 1)) = rawAll q.f0 Lq (xs.take i) ++ PL.digs (IntKind.u64.wrap (rd xs (i : Int))) (PL.hw q.f0) := by
                rw [hrd, List.take_succ_eq_append_getElem hlt, rawAll_snoc]
              have hlc : (rawAll q.f0 Lq (xs.take i)).length < 1099511000000 := by
                have h1 := rawAll_len q.f0 (xs.take i) Lq
                have h2 := HL11.out
                rw [List.length_take] at h1
                omega
              obtain ⟨Lc, hLc⟩ : ∃ Lc, rawAll q.f0 Lq (xs.take i) = Lc := ⟨_, rfl⟩
              rw [hLc] at hsn hlc HJ
              have HEV := zG.mk (PL.put_eq Lc (IntKind.u64.wrap (rd xs (i : Int))) q.f0 (by omega))
              have HSN := zG.mk hsn
              clear hsn hlc hLc hrd
              gi_wp2
              refine ⟨trivial, ?_⟩
              gi_at_call 25
              refine (CallsIn.inRound lp (callsIn_wide.2 (bits_Writer_Put.calls g (PL.WB Lc) (Lc.length : Int) _ _ _ _ w0 _ HJ.out.1.2.1 HJ.out.1.2.2.2.2.2.2 HEV.out))).mono ?_
              rintro e w10 ⟨rfl, hI10, hB10, hK10⟩
              have HJ10 := zG.mk (HJ.out.put hI10 hB10 hK10)
              have HK10 := zG.mk (HK.out.trans hK10)
              clear hI10 hB10 hK10 hz4 hy0
              gi_wp2
              go_roundw
              case rel => exact ⟨i + 1, hlt, by simp, ⟨by rw [HSN.out]; exact HJ10.out⟩, HK10⟩
              case measure => simp [intOf]; omega
            · obtain rfl : i = xs.length := by omega
              have hdl : decide (((xs.length : Nat) : Int) < (xs.length : Int)) = false := decide_eq_false (by omega)
              gi_wp2
              rw [HPART.out, HLQ.out]
              have hj := HJ.out
              rw [List.take_length] at hj
              exact ⟨KeepsFrom.of_KBe HK.out HIZ1.out _, Kp15.of_KBe HIZ.out HK.out, hj⟩
end Go.Proofs.Ytokdjeoecnnckaa.PA
end
section
namespace Go.Proofs.Ytokdjeoecnnckaa.PA
open Go Go.RowKit Go.Proofs.YtokdjeoecnnckaaW.PrintWords Go.Proofs.YtokdjeoecnnckaaW.PrintLast Go.Proofs.YtokdjeoecnnckaaW.PrintMore
set_option linter.unusedSimpArgs false
set_option linter.unusedVariables false
noncomputable def lim15 {α : Type} (g : Nat → Option α) : Option α := open Classical in if h : ∃ r, Ev g r then some h.choose else none
theorem ev_unique {α : Type} {g : Nat → Option α} {r s : α} (h : Ev g r) (k : Ev g s) : r = s := by
  obtain ⟨K1, h1⟩ := h
  obtain ⟨K2, h2⟩ := k
  have e := (h1 (max K1 K2) (by omega)).symm.trans (h2 (max K1 K2) (by omega))
  exact Option.some.inj e
theorem lim15_ev {α : Type} {g : Nat → Option α} {r : α} (h : Ev g r) : lim15 g = some r := by
  have hx : ∃ r, Ev g r := ⟨r, h⟩
  unfold lim15
  rw [dif_pos hx]
  exact congrArg some (ev_unique hx.choose_spec h)
theorem ev_of_lim15 {α : Type} {g : Nat → Option α} {r : α} (h : lim15 g = some r) : Ev g r := by
  unfold lim15 at h
  split at h
  · rename_i hx
    rw [← Option.some.inj h]
    exact hx.choose_spec
  · cases h
def rowsP : List Int → List Int → List S50 → List (S50 × List Int)
  | n :: cs, l, p :: ps => (p, l.take n.toNat) :: rowsP cs (l.drop n.toNat) ps
  | _, _, _ => []
def longP (x : S50 × List Int) : Bool := !x.1.f1 && x.2.any (fun n => (section_long.f n x.1.f0).getD false)
def putAllP (w : Bool) (L : List Bool) (xs : List (S50 × List Int)) : List Bool := xs.foldl (fun L x => putPart w L x.1 x.2) L
theorem rows15_P : ∀ (cuts : List Int) (A : Option Addr) (c : Nat) (l : List Int) (ps : List S50), (rows15 cuts A c l ps).map (fun x => (x.1, x.2.2.2)) = rowsP cuts l ps
  | [], A, c, l, ps => by simp [rows15, rowsP]
  | _ :: _, A, c, l, [] => by simp [rows15, rowsP]
  | n :: cs, A, c, l, p :: ps => by
    simp only [rows15, rowsP, List.map_cons]
    rw [rows15_P cs]
theorem putAll15_P (w : Bool) (L : List Bool) (cuts : List Int) (A : Option Addr) (c : Nat) (l : List Int) (ps : List S50) : putAll15 w L (rows15 cuts A c l ps) = putAllP w L (rowsP cuts l ps) := by
  rw [← rows15_P cuts A c l ps, putAllP, List.foldl_map, putAll15]
theorem long15_P (cuts : List Int) (A : Option Addr) (c : Nat) (l : List Int) (ps : List S50) : (rows15 cuts A c l ps).any longEl = (rowsP cuts l ps).any longP := by
  rw [← rows15_P cuts A c l ps, List.any_map]
  rfl
open Classical in
noncomputable def sectionPut.f (s0_0 : ByteArray) (s0_1 : Int) (l : List Int) (order : Int) (wd : Bool) (o : Int) (ps : List S50) : Option (Int × ByteArray × Int) :=
  if s0_0.size = 0 ∧ s0_1 = 0 ∧ l.length ≤ 1000 ∧ ps.length ≤ 1000 ∧ (∀ x ∈ l, -9223372036854775808 ≤ x ∧ x < 9223372036854775808) then
    (lim15 (fun k => parts_Bits.f k l order wd o ps)).bind fun r => if r < 0 then some (1, s0_0, s0_1) else
      (lim15 (fun k => parts_Cuts.f k (l.length : Int) order o)).bind fun cuts =>
        if SFits cuts l.length ∧ cuts.length = ps.length ∧ (∀ p ∈ ps, p.f1 = true ∨ 0 ≤ p.f0) then
          (if (rowsP cuts l ps).any longP = true then some (7, s0_0, s0_1) else some (0, PL.WB (putAllP wd (headB [] wd o) (rowsP cuts l ps)), ((putAllP wd (headB [] wd o) (rowsP cuts l ps)).length : Int)))
        else none
  else none
theorem sectionPut.calls (g : Nat) (s0_0 : ByteArray) (s0_1 : Int) (A : Option Addr) (c : Nat) (l : List Int) (order : Int) (wd : Bool) (o : Int) (A3 : Option Addr) (c3 : Nat) (ps : List S50) (r1 : Int) (r2 : ByteArray) (r3 : Int) (w0 w : World) (hI : zI w0 w g s0_0 s0_1) (hB : Below w0.heap.size w0 w)
    (hc1 : l.length ≤ c) (hC1 : ∀ W', KC w0 w W' → Kd.C (Kd.int .i64) W' A l.length l) (hC3 : ∀ W', KC w0 w W' → Kd.C k50 W' A3 ps.length ps) (hc3 : ps.length ≤ c3) (h : sectionPut.f s0_0 s0_1 l order wd o ps = some (r1, r2, r3)) :
    Calls Try.prog 9 #[.pointer (some ⟨g, 0, none⟩), .slice A l.length c, .int .i64 order, .agg #[.bool wd, .int .i64 o, .slice A3 ps.length c3]] w fun e w' => e = .returned (.int .i64 r1) ∧ zI w0 w' g r2 r3 ∧ Below w0.heap.size w0 w' ∧ KBe w0 w w' g := by
  unfold sectionPut.f at h
  split at h
  · rename_i hg
    obtain ⟨hz, h0, hl, hp, h64⟩ := hg
    subst h0
    have hs : s0_0 = PL.WB [] := by
      rw [PL.WB_nil]
      obtain ⟨d⟩ := s0_0
      have : d = #[] := Array.eq_empty_of_size_eq_zero hz
      rw [this]
    subst hs
    obtain ⟨r, hr, h⟩ := Option.bind_eq_some_iff.1 h
    obtain ⟨K1, hK1⟩ := ev_of_lim15 hr
    split at h
    · rename_i hneg
      cases h
      exact sec_Put_arg K1 g _ _ A c l order wd o A3 c3 ps r w0 w hI hB hC1 hc1 hC3 hc3 (hK1 K1 (Nat.le_refl _)) hneg
    · rename_i hpos
      obtain ⟨cuts, hc, h⟩ := Option.bind_eq_some_iff.1 h
      obtain ⟨K2, hK2⟩ := ev_of_lim15 hc
      have b1 := hK1 (max K1 K2) (by omega)
      have b2 := hK2 (max K1 K2) (by omega)
      split at h
      · rename_i hf
        obtain ⟨hfit, hlen, hK⟩ := hf
        split at h
        · rename_i hlong
          cases h
          rw [← long15_P cuts A c l ps, List.any_eq_true] at hlong
          exact sec_Put_long (max K1 K2) g _ _ A c l order wd o A3 c3 ps cuts r w0 w hI hB hC1 hc1 hC3 hc3 b1 (by omega) b2 hfit hlen (by omega) (by omega) hK hlong
        · rename_i hlong
          cases h
          rw [← long15_P cuts A c l ps] at hlong
          rw [← putAll15_P wd _ cuts A c l ps]
          refine sec_Put_ok (max K1 K2) g [] A c l order wd o A3 c3 ps cuts r w0 w hI hB hC1 hc1 hC3 hc3 b1 (by omega) b2 hfit hlen (by omega) (by omega) hK ?_ h64 ?_
          · intro x hx
            cases hle : longEl x with
            | false => rfl
            | true => exact absurd (List.any_eq_true.2 ⟨x, hx, hle⟩) hlong
          · have h1 : cuts.length * (200 + 65600 * l.length) ≤ 1000 * (200 + 65600 * 1000) := Nat.mul_le_mul (by omega) (by omega)
            simp only [List.length_nil]
            omega
      · cases h
  · cases h
end Go.Proofs.Ytokdjeoecnnckaa.PA
end
section
namespace Go.Proofs.Ytokdjeoecnnckaa.PA
open Go.RowKit Go.Proofs.YtokdjeoecnnckaaW.PrintWords Go.Proofs.YtokdjeoecnnckaaW.PrintLast Go.Proofs.YtokdjeoecnnckaaW.PrintMore
attribute [local go_sem] max2_int min2_int max_two min_two max_three min_three max_four min_four   -- for this text's walks alone
set_option linter.unusedVariables false
set_option linter.unusedSimpArgs false

noncomputable def section_Put.f (s0_0 : ByteArray) (s0_1 : Int) (l1 : List Int) (a2 : Int) (a3_0 : Bool) (a3_1 : Int) (l3_2 : List (S50)) : Option (Int × ByteArray × Int) := sectionPut.f s0_0 s0_1 l1 a2 a3_0 a3_1 l3_2
theorem section_Put.calls (g : Nat) (s0_0 : ByteArray) (s0_1 : Int) (A1 : Option Addr) (c1 : Nat) (l1 : List Int) (a2 : Int) (a3_0 : Bool) (a3_1 : Int) (A3 : Option Addr) (c3 : Nat) (l3_2 : List (S50)) (r1 : Int) (r2 : ByteArray) (r3 : Int) (w0 w : World) (hI : zI w0 w g s0_0 s0_1) (hB : Below w0.heap.size w0 w) (hr1 : Kd.C (Kd.int .i64) w A1 l1.length l1) (hc1 : l1.length ≤ c1) (hk1 : ∀ W', KC w0 w W' → Kd.C (Kd.int .i64) W' A1 l1.length l1) (hk3 : ∀ W', KC w0 w W' → Kd.C k50 W' A3 l3_2.length l3_2) (hc3 : l3_2.length ≤ c3) (h : section_Put.f s0_0 s0_1 l1 a2 a3_0 a3_1 l3_2 = some (r1, r2, r3)) :
    Calls Try.prog 9 #[.pointer (some ⟨g, 0, none⟩), .slice A1 l1.length c1, .int .i64 a2, .agg #[.bool a3_0, .int .i64 a3_1, .slice A3 l3_2.length c3]] w fun e w' => e = .returned (.int .i64 r1) ∧ zI w0 w' g r2 r3 ∧ Below w0.heap.size w0 w' ∧ KBe w0 w w' g := sectionPut.calls g s0_0 s0_1 A1 c1 l1 a2 a3_0 a3_1 A3 c3 l3_2 r1 r2 r3 w0 w hI hB hc1 hk1 hk3 hc3 h
end Go.Proofs.Ytokdjeoecnnckaa.PA
end
section
namespace Go.Proofs.Ytokdjeoecnnckaa.PA
open Go.RowKit Go.Proofs.YtokdjeoecnnckaaW.PrintWords Go.Proofs.YtokdjeoecnnckaaW.PrintLast Go.Proofs.YtokdjeoecnnckaaW.PrintMore
attribute [local go_sem] max2_int min2_int max_two min_two max_three min_three max_four min_four   -- for this text's walks alone
set_option linter.unusedVariables false
set_option linter.unusedSimpArgs false

noncomputable def serinettelaw15_awake.f (k : Nat)  : Option (Bool) := (bits_New.f).bind fun bt168 => ((section_Put.f bt168.1 bt168.2 (([0, 0] : List Int)) 0 false 0 (([(⟨0, false⟩ : S50)] : List (S50)))).bind fun bt177 => (if bt177.1 = 0 then ((bits_Writer_Len.f bt177.2.1 bt177.2.2).bind fun bt180 => (if bt180.1 = 12 then ((bits_Writer_Bytes.f bt180.2.1 bt180.2.2).bind fun bt183 => ((serinetteref01_Same.f k bt183.1 (([0, 48] : List Int))).bind fun t191 => (some t191))) else (some false))) else (some false)))
set_option maxHeartbeats 8000000 in
set_option maxRecDepth 100000 in
theorem serinettelaw15_awake.calls (k : Nat)  (r : Bool) (w : World) (h : serinettelaw15_awake.f k  = some r) :
    Calls Try.prog 6 #[] w fun e w' => e = .returned (.bool r) ∧ Below w.heap.size w w' := by
  have hu50 := Try.underlying50
  have hu25 := Try.underlying25
  have HB := zG.mk (Below.refl w.heap.size w)
  have H : ((bits_New.f).bind fun bt168 => ((section_Put.f bt168.1 bt168.2 (([0, 0] : List Int)) 0 false 0 (([(⟨0, false⟩ : S50)] : List (S50)))).bind fun bt177 => (if bt177.1 = 0 then ((bits_Writer_Len.f bt177.2.1 bt177.2.2).bind fun bt180 => (if bt180.1 = 12 then ((bits_Writer_Bytes.f bt180.2.1 bt180.2.2).bind fun bt183 => ((serinetteref01_Same.f k bt183.1 (([0, 48] : List Int))).bind fun t191 => (some t191))) else (some false))) else (some false)))) = some r := h
  clear h
  replace H := Option.bind_eq_some_iff.mp H
  obtain ⟨⟨t168, t169⟩, A10, H⟩ := H
  replace H : ((section_Put.f t168 t169 (([0, 0] : List Int)) 0 false 0 (([(⟨0, false⟩ : S50)] : List (S50)))).bind fun bt177 => (if bt177.1 = 0 then ((bits_Writer_Len.f bt177.2.1 bt177.2.2).bind fun bt180 => (if bt180.1 = 12 then ((bits_Writer_Bytes.f bt180.2.1 bt180.2.2).bind fun bt183 => ((serinetteref01_Same.f k bt183.1 (([0, 48] : List Int))).bind fun t191 => (some t191))) else (some false))) else (some false))) = some r := H
  have A1 := zG.mk A10
  clear A10
  obtain ⟨y171, hy171⟩ : ∃ y_ : List Int, y_ = (([0, 0] : List Int)) := ⟨_, rfl⟩
  replace H : ((section_Put.f t168 t169 y171 0 false 0 (([(⟨0, false⟩ : S50)] : List (S50)))).bind fun bt177 => (if bt177.1 = 0 then ((bits_Writer_Len.f bt177.2.1 bt177.2.2).bind fun bt180 => (if bt180.1 = 12 then ((bits_Writer_Bytes.f bt180.2.1 bt180.2.2).bind fun bt183 => ((serinetteref01_Same.f k bt183.1 (([0, 48] : List Int))).bind fun t191 => (some t191))) else (some false))) else (some false))) = some r := by first | (rw [hy171]; with_reducible exact H) | (have H2_ := (Option.bind_some _ _).symm.trans H; rw [hy171]; with_reducible exact H2_) | (have H2_ := (Option.bind_some _ _).symm.trans H; with_reducible exact H2_) | with_reducible exact H | (rw [hy171]; exact H) | exact H
  have Ny171 := zG.mk hy171
  clear hy171
  obtain ⟨y174, hy174⟩ : ∃ y_ : List (S50), y_ = (([(⟨0, false⟩ : S50)] : List (S50))) := ⟨_, rfl⟩
  replace H : ((section_Put.f t168 t169 y171 0 false 0 y174).bind fun bt177 => (if bt177.1 = 0 then ((bits_Writer_Len.f bt177.2.1 bt177.2.2).bind fun bt180 => (if bt180.1 = 12 then ((bits_Writer_Bytes.f bt180.2.1 bt180.2.2).bind fun bt183 => ((serinetteref01_Same.f k bt183.1 (([0, 48] : List Int))).bind fun t191 => (some t191))) else (some false))) else (some false))) = some r := by first | (rw [hy174]; with_reducible exact H) | (have H2_ := (Option.bind_some _ _).symm.trans H; rw [hy174]; with_reducible exact H2_) | (have H2_ := (Option.bind_some _ _).symm.trans H; with_reducible exact H2_) | with_reducible exact H | (rw [hy174]; exact H) | exact H
  have Ny174 := zG.mk hy174
  clear hy174
  replace H := Option.bind_eq_some_iff.mp H
  obtain ⟨⟨t177, t178, t179⟩, A20, H⟩ := H
  replace H : (if t177 = 0 then ((bits_Writer_Len.f t178 t179).bind fun bt180 => (if bt180.1 = 12 then ((bits_Writer_Bytes.f bt180.2.1 bt180.2.2).bind fun bt183 => ((serinetteref01_Same.f k bt183.1 (([0, 48] : List Int))).bind fun t191 => (some t191))) else (some false))) else (some false)) = some r := H
  have A2 := zG.mk A20
  clear A20
  by_cases c3 : t177 = 0
  focus
    rw [if_pos c3] at H
    have c3b0 : (t177 == 0) = true := beq_iff_eq.mpr c3
    have c3b1 : (t177 != 0) = false := bne_eq_false_iff_eq.mpr c3
    clear c3
    replace H := Option.bind_eq_some_iff.mp H
    obtain ⟨⟨t180, t181, t182⟩, A40, H⟩ := H
    replace H : (if t180 = 12 then ((bits_Writer_Bytes.f t181 t182).bind fun bt183 => ((serinetteref01_Same.f k bt183.1 (([0, 48] : List Int))).bind fun t191 => (some t191))) else (some false)) = some r := H
    have A4 := zG.mk A40
    clear A40
    by_cases c5 : t180 = 12
    focus
      rw [if_pos c5] at H
      have c5b0 : (t180 == 12) = true := beq_iff_eq.mpr c5
      have c5b1 : (t180 != 12) = false := bne_eq_false_iff_eq.mpr c5
      clear c5
      replace H := Option.bind_eq_some_iff.mp H
      obtain ⟨⟨t183, t186, t187⟩, A60, H⟩ := H
      replace H : ((serinetteref01_Same.f k t183 (([0, 48] : List Int))).bind fun t191 => (some t191)) = some r := H
      have A6 := zG.mk A60
      clear A60
      obtain ⟨y188, hy188⟩ : ∃ y_ : List Int, y_ = (([0, 48] : List Int)) := ⟨_, rfl⟩
      replace H : ((serinetteref01_Same.f k t183 y188).bind fun t191 => (some t191)) = some r := by first | (rw [hy188]; with_reducible exact H) | (have H2_ := (Option.bind_some _ _).symm.trans H; rw [hy188]; with_reducible exact H2_) | (have H2_ := (Option.bind_some _ _).symm.trans H; with_reducible exact H2_) | with_reducible exact H | (rw [hy188]; exact H) | exact H
      have Ny188 := zG.mk hy188
      clear hy188
      replace H := Option.bind_eq_some_iff.mp H
      obtain ⟨t191, A70, H⟩ := H
      replace H : (some t191) = some r := H
      have A7 := zG.mk A70
      clear A70
      obtain rfl := Option.some.inj H
      go_enter Try.func6, Try.ntmps6
    rotate_left 1
    focus
      rw [if_neg c5] at H
      have c5b0 : (t180 == 12) = false := beq_eq_false_iff_ne.mpr c5
      have c5b1 : (t180 != 12) = true := bne_iff_ne.mpr c5
      obtain rfl := Option.some.inj H
      go_enter Try.func6, Try.ntmps6
  rotate_left 2
  focus
    rw [if_neg c3] at H
    have c3b0 : (t177 == 0) = false := beq_eq_false_iff_ne.mpr c3
    have c3b1 : (t177 != 0) = true := bne_iff_ne.mpr c3
    obtain rfl := Option.some.inj H
    go_enter Try.func6, Try.ntmps6
  all_goals
    go_wp2_with (first | ((with_reducible refine gate_callee (f := 8) rfl ?_); refine goesL_ (some 3) rfl rfl Try.func8 (by kernel_rfl) rfl #[] rfl (by (try simp only [List.map_toArray, List.map_cons, List.map_nil]); first | done | rfl | (simp only [List.length_drop, List.length_take]; rfl)) ?_; (with_reducible refine (bits_New.calls  t168 t169 w _ ?side1 A1.out).mono ?_); (case side1 => repeat (first | (with_reducible first | exact HB.out | apply zF | apply zC | apply zD) | exact HB.out)); rintro e w8 ⟨g170, rfl, hi, hb, hb2⟩; refine ⟨_, rfl, ?_⟩; have n0_ := zG.mk (hb); have n1_ := zG.mk (hi); clear HB; have HB := n0_; have HI170 := n1_; clear n0_ n1_; (try clear hb); (try clear hb2); (try clear hk); (try clear hi)) | ((with_reducible refine gate_dst (N := 7) rfl ?_); (try (refine gate_guard (by rfl) ?_; dsimp only)); refine Kd.R_lit (Kd.int .i64) _ 3 ?hg (N := 7) ?hd (xs := ([0, 0] : List Int)) (inner := [.int .i64 0, .int .i64 0]) (ok := fun _ => True) (okp := fun _ => True) ?hr ?hp (fun _ hk => hk) trivial (Below.refl _ _) (Nat.le_refl _) (by simp) ?_; (case hd => rfl); (case hg => rfl); (case hr => first | (go_simp; done) | (go_simp; rfl)); (case hp => exact (Reps.one (show Kd.M (Kd.int .i64) _ _ _ 0 [.int .i64 0] from rfl) (Reps.one (show Kd.M (Kd.int .i64) _ _ _ 0 [.int .i64 0] from rfl) (Reps.none _ _)))); intro v172 w9 ho10 hb hg_ hnew_; clear hg_ hnew_; (first | rw [← Ny171.out] at ho10 | (simp only [Int.reduceToNat] at ho10; rw [← Ny171.out] at ho10)); have n0_ := zG.mk (Kd.R_lower ho10 (below_size (by repeat (first | (with_reducible first | exact HB.out | apply zF | apply zC | apply zD | refine zE ?_ (zI.ge HI170.out)) | exact HB.out)))); have n1_ := zG.mk (zI.below (by repeat (first | (with_reducible first | exact HI170.out | apply zI.alloc | apply zI.drewN | apply zI.drew | apply zI.set_0 | apply zI.set_1) | exact HI170.out)) hb); have n2_ := zG.mk (below_step (by repeat (first | (with_reducible first | exact HB.out | apply zF | apply zC | apply zD | refine zE ?_ (zI.ge HI170.out)) | exact HB.out)) hb); clear HI170; clear HB; have HO173 := n0_; have HI170 := n1_; have HB := n2_; clear n0_ n1_ n2_; clear hb ho10) | ((with_reducible refine gate_dst (N := 9) rfl ?_); (try (refine gate_guard (by rfl) ?_; dsimp only)); refine Kd.R_lit k50 _ 50 ?hg (N := 9) ?hd (xs := ([(⟨0, false⟩ : S50)] : List (S50))) (inner := [.int .i64 0, .bool false]) (ok := fun _ => True) (okp := fun _ => True) ?hr ?hp (fun _ hk => hk) trivial (Below.refl _ _) (Nat.le_refl _) (by simp) ?_; (case hd => rfl); (case hg => rfl); (case hr => first | (go_simp; done) | (go_simp; rfl)); (case hp => exact (Reps.c2 (show Kd.M k50 _ _ _ (⟨0, false⟩ : S50) [.int .i64 0, .bool false] from (k50_mkM _ _ _ (⟨0, false⟩ : S50) )) (Reps.none _ _))); intro v175 w11 ho12 hb hg_ hnew_; clear hg_ hnew_; (first | rw [← Ny174.out] at ho12 | (simp only [Int.reduceToNat] at ho12; rw [← Ny174.out] at ho12)); have n0_ := zG.mk (Kd.R_below (by (with_reducible repeat (first | apply Kd.zS | apply Kd.zQ | apply Kd.zR)); exact HO173.out) hb); have n1_ := zG.mk (Kd.R_lower ho12 (below_size (by repeat (first | (with_reducible first | exact HB.out | apply zF | apply zC | apply zD | refine zE ?_ (zI.ge HI170.out)) | exact HB.out)))); have n2_ := zG.mk (zI.below (by repeat (first | (with_reducible first | exact HI170.out | apply zI.alloc | apply zI.drewN | apply zI.drew | apply zI.set_0 | apply zI.set_1) | exact HI170.out)) hb); have n3_ := zG.mk (below_step (by repeat (first | (with_reducible first | exact HB.out | apply zF | apply zC | apply zD | refine zE ?_ (zI.ge HI170.out)) | exact HB.out)) hb); clear HO173; clear HI170; clear HB; have HO173 := n0_; have HO176 := n1_; have HI170 := n2_; have HB := n3_; clear n0_ n1_ n2_ n3_; clear hb ho12; obtain ⟨Ao13, co13, eo13⟩ := Kd.R_slice HO176.out; subst eo13; obtain ⟨Ao14, co14, eo14⟩ := Kd.R_slice HO173.out; subst eo14) | ((with_reducible refine gate_callee (f := 9) rfl ?_); refine goesL_ (some 11) rfl rfl Try.func9 (by kernel_rfl) rfl #[.pointer (some ⟨g170, 0, none⟩), .slice Ao14 y171.length co14, .int .i64 0, .agg #[.bool false, .int .i64 0, .slice Ao13 y174.length co13]] rfl (by (try simp only [List.map_toArray, List.map_cons, List.map_nil]); first | done | rfl | (simp only [List.length_drop, List.length_take]; rfl)) ?_; (with_reducible refine (section_Put.calls g170 t168 t169 _ _ y171 0 false 0 _ _ y174 t177 t178 t179 w _ ?side1 ?side2 ?side3 ?side4 ?side5 ?side6 ?side7 A2.out).mono ?_); (case side1 => repeat (first | (with_reducible first | exact HI170.out | apply zI.alloc | apply zI.drewN | apply zI.drew | apply zI.set_0 | apply zI.set_1) | exact HI170.out)); (case side2 => repeat (first | (with_reducible first | exact HB.out | apply zF | apply zC | apply zD | refine zE ?_ (zI.ge HI170.out)) | exact HB.out)); (case side3 => repeat (first | exact (Kd.R_reads' HO173.out).2.2 | (with_reducible refine Kd.zV ?_ _) | (with_reducible refine Kd.zT ?_ _) | (with_reducible refine Kd.zU ?_))); (case side4 => exact (Kd.R_reads' HO173.out).2.1); (case side5 => exact KC.own (by (with_reducible repeat (first | apply Kd.zS | apply Kd.zQ | apply Kd.zR)); exact HO173.out) (by decide)); (case side6 => exact KC.own (by (with_reducible repeat (first | apply Kd.zS | apply Kd.zQ | apply Kd.zR)); exact HO176.out) (by decide)); (case side7 => exact (Kd.R_reads' HO176.out).2.1); rintro e w15 ⟨rfl, hi, hb, hk⟩; refine ⟨_, rfl, ?_⟩; have n0_ := zG.mk (Kd.R_mono (KB.R_keep (zI.apart (show zI w _ g170 t168 t169 from by repeat (first | (with_reducible first | exact HI170.out | apply zI.alloc | apply zI.drewN | apply zI.drew | apply zI.set_0 | apply zI.set_1) | exact HI170.out)) (by (with_reducible repeat (first | apply Kd.zS | apply Kd.zQ | apply Kd.zR)); exact HO173.out) (by decide)) (fun _ h => h.2) (by decide) hk.1) (fun _ h => h.1)); have n1_ := zG.mk (Kd.R_mono (KB.R_keep (zI.apart (show zI w _ g170 t168 t169 from by repeat (first | (with_reducible first | exact HI170.out | apply zI.alloc | apply zI.drewN | apply zI.drew | apply zI.set_0 | apply zI.set_1) | exact HI170.out)) (by (with_reducible repeat (first | apply Kd.zS | apply Kd.zQ | apply Kd.zR)); exact HO176.out) (by decide)) (fun _ h => h.2) (by decide) hk.1) (fun _ h => h.1)); have n2_ := zG.mk (hb); have n3_ := zG.mk (hi); clear HO173; clear HO176; clear HB; clear HI170; have HO173 := n0_; have HO176 := n1_; have HB := n2_; have HI170 := n3_; clear n0_ n1_ n2_ n3_; (try clear hb); (try clear hb2); (try clear hk); (try clear hi)) | (go_at_call 11; (with_reducible refine (bits_Writer_Len.calls g170 t178 t179 t180 t181 t182 w _ ?side1 ?side2 A4.out).mono ?_); (case side1 => repeat (first | (with_reducible first | exact HI170.out | apply zI.alloc | apply zI.drewN | apply zI.drew | apply zI.set_0 | apply zI.set_1) | exact HI170.out)); (case side2 => repeat (first | (with_reducible first | exact HB.out | apply zF | apply zC | apply zD | refine zE ?_ (zI.ge HI170.out)) | exact HB.out)); rintro e w16 ⟨rfl, hi, hb, hk⟩; have n0_ := zG.mk (Kd.R_mono (Kd.R_keep (zI.apart (show zI w _ g170 t178 t179 from by repeat (first | (with_reducible first | exact HI170.out | apply zI.alloc | apply zI.drewN | apply zI.drew | apply zI.set_0 | apply zI.set_1) | exact HI170.out)) (by (with_reducible repeat (first | apply Kd.zS | apply Kd.zQ | apply Kd.zR)); exact HO173.out) (by decide)) hk (fun _ h => h.2)) (fun _ h => h.1)); have n1_ := zG.mk (Kd.R_mono (Kd.R_keep (zI.apart (show zI w _ g170 t178 t179 from by repeat (first | (with_reducible first | exact HI170.out | apply zI.alloc | apply zI.drewN | apply zI.drew | apply zI.set_0 | apply zI.set_1) | exact HI170.out)) (by (with_reducible repeat (first | apply Kd.zS | apply Kd.zQ | apply Kd.zR)); exact HO176.out) (by decide)) hk (fun _ h => h.2)) (fun _ h => h.1)); have n2_ := zG.mk (hb); have n3_ := zG.mk (hi); clear HO173; clear HO176; clear HB; clear HI170; have HO173 := n0_; have HO176 := n1_; have HB := n2_; have HI170 := n3_; clear n0_ n1_ n2_ n3_; (try clear hb); (try clear hb2); (try clear hk); (try clear hi)) | (go_at_call 13; (with_reducible refine (bits_Writer_Bytes.calls g170 t181 t182 t183 t186 t187 w _ ?side1 ?side2 A6.out).mono ?_); (case side1 => repeat (first | (with_reducible first | exact HI170.out | apply zI.alloc | apply zI.drewN | apply zI.drew | apply zI.set_0 | apply zI.set_1) | exact HI170.out)); (case side2 => repeat (first | (with_reducible first | exact HB.out | apply zF | apply zC | apply zD | refine zE ?_ (zI.ge HI170.out)) | exact HB.out)); rintro e w17 ⟨v184, rfl, ho0, hi, hb, hk⟩; have n0_ := zG.mk (Kd.R_mono (Kd.R_keep (zI.apart (show zI w _ g170 t181 t182 from by repeat (first | (with_reducible first | exact HI170.out | apply zI.alloc | apply zI.drewN | apply zI.drew | apply zI.set_0 | apply zI.set_1) | exact HI170.out)) (by (with_reducible repeat (first | apply Kd.zS | apply Kd.zQ | apply Kd.zR)); exact HO173.out) (by decide)) hk (fun _ h => h.2)) (fun _ h => h.1)); have n1_ := zG.mk (Kd.R_mono (Kd.R_keep (zI.apart (show zI w _ g170 t181 t182 from by repeat (first | (with_reducible first | exact HI170.out | apply zI.alloc | apply zI.drewN | apply zI.drew | apply zI.set_0 | apply zI.set_1) | exact HI170.out)) (by (with_reducible repeat (first | apply Kd.zS | apply Kd.zQ | apply Kd.zR)); exact HO176.out) (by decide)) hk (fun _ h => h.2)) (fun _ h => h.1)); have n2_ := zG.mk (Kd.R_lower ho0 (below_size (by repeat (first | (with_reducible first | exact HB.out | apply zF | apply zC | apply zD | refine zE ?_ (zI.ge HI170.out)) | exact HB.out)))); have n3_ := zG.mk (hb); have n4_ := zG.mk (hi); clear HO173; clear HO176; clear HB; clear HI170; have HO173 := n0_; have HO176 := n1_; have HO185 := n2_; have HB := n3_; have HI170 := n4_; clear n0_ n1_ n2_ n3_ n4_; (try clear hb); (try clear hb2); (try clear hk); (try clear hi); (try clear ho0)) | ((with_reducible refine gate_dst (N := 22) rfl ?_); (try (refine gate_guard (by rfl) ?_; dsimp only)); refine Kd.R_lit (Kd.int .u8) _ 5 ?hg (N := 22) ?hd (xs := ([0, 48] : List Int)) (inner := [.int .u8 0, .int .u8 48]) (ok := fun _ => True) (okp := fun _ => True) ?hr ?hp (fun _ hk => hk) trivial (Below.refl _ _) (Nat.le_refl _) (by simp) ?_; (case hd => rfl); (case hg => rfl); (case hr => first | (go_simp; done) | (go_simp; rfl)); (case hp => exact (Reps.one (show Kd.M (Kd.int .u8) _ _ _ 0 [.int .u8 0] from rfl) (Reps.one (show Kd.M (Kd.int .u8) _ _ _ 48 [.int .u8 48] from rfl) (Reps.none _ _)))); intro v189 w18 ho19 hb hg_ hnew_; clear hg_ hnew_; (first | rw [← Ny188.out] at ho19 | (simp only [Int.reduceToNat] at ho19; rw [← Ny188.out] at ho19)); have n0_ := zG.mk (Kd.R_below (by (with_reducible repeat (first | apply Kd.zS | apply Kd.zQ | apply Kd.zR)); exact HO173.out) hb); have n1_ := zG.mk (Kd.R_below (by (with_reducible repeat (first | apply Kd.zS | apply Kd.zQ | apply Kd.zR)); exact HO176.out) hb); have n2_ := zG.mk (Kd.R_elder' (by (with_reducible repeat (first | apply Kd.zS | apply Kd.zQ | apply Kd.zR)); exact HO185.out) (Kd.R_base ho19) hb); have n3_ := zG.mk (Kd.R_lower (Kd.R_new' ho19 (Kd.R_lt (by (with_reducible repeat (first | apply Kd.zS | apply Kd.zQ | apply Kd.zR)); exact HO185.out))) (below_size (by repeat (first | (with_reducible first | exact HB.out | apply zF | apply zC | apply zD | refine zE ?_ (zI.ge HI170.out)) | exact HB.out)))); have n4_ := zG.mk (zI.below (by repeat (first | (with_reducible first | exact HI170.out | apply zI.alloc | apply zI.drewN | apply zI.drew | apply zI.set_0 | apply zI.set_1) | exact HI170.out)) hb); have n5_ := zG.mk (below_step (by repeat (first | (with_reducible first | exact HB.out | apply zF | apply zC | apply zD | refine zE ?_ (zI.ge HI170.out)) | exact HB.out)) hb); clear HO173; clear HO176; clear HO185; clear HI170; clear HB; have HO173 := n0_; have HO176 := n1_; have HO185 := n2_; have HO190 := n3_; have HI170 := n4_; have HB := n5_; clear n0_ n1_ n2_ n3_ n4_ n5_; clear hb ho19; obtain ⟨Ao20, co20, eo20⟩ := Kd.R_slice HO185.out; subst eo20; obtain ⟨Ao21, co21, eo21⟩ := Kd.R_slice HO190.out; subst eo21) | (go_at_call 19; (with_reducible refine (serinetteref01_Same.calls k _ _ t183 _ _ y188 t191 _ ?side1 ?side2 ?side3 ?side4 A7.out).mono ?_); (case side1 => repeat (first | exact (Kd.R_reads' HO185.out).2.2 | (with_reducible refine Kd.zV ?_ _) | (with_reducible refine Kd.zT ?_ _) | (with_reducible refine Kd.zU ?_))); (case side2 => exact (Kd.R_reads' HO185.out).2.1); (case side3 => repeat (first | exact (Kd.R_reads' HO190.out).2.2 | (with_reducible refine Kd.zV ?_ _) | (with_reducible refine Kd.zT ?_ _) | (with_reducible refine Kd.zU ?_))); (case side4 => exact (Kd.R_reads' HO190.out).2.1); rintro e w' ⟨rfl, ⟨nd, rfl⟩⟩) | ((with_reducible refine gate_dst (N := 7) rfl ?_); (try (refine gate_guard (by rfl) ?_; dsimp only)); refine Kd.R_lit (Kd.int .i64) _ 3 ?hg (N := 7) ?hd (xs := ([0, 0] : List Int)) (inner := [.int .i64 0, .int .i64 0]) (ok := fun _ => True) (okp := fun _ => True) ?hr ?hp (fun _ hk => hk) trivial (Below.refl _ _) (Nat.le_refl _) (by simp) ?_; (case hd => rfl); (case hg => rfl); (case hr => first | (go_simp; done) | (go_simp; rfl)); (case hp => exact (Reps.one (show Kd.M (Kd.int .i64) _ _ _ 0 [.int .i64 0] from rfl) (Reps.one (show Kd.M (Kd.int .i64) _ _ _ 0 [.int .i64 0] from rfl) (Reps.none _ _)))); intro v172 w23 ho24 hb hg_ hnew_; clear hg_ hnew_; (first | rw [← Ny171.out] at ho24 | (simp only [Int.reduceToNat] at ho24; rw [← Ny171.out] at ho24)); have n0_ := zG.mk (Kd.R_lower ho24 (below_size (by repeat (first | (with_reducible first | exact HB.out | apply zF | apply zC | apply zD | refine zE ?_ (zI.ge HI170.out)) | exact HB.out)))); have n1_ := zG.mk (zI.below (by repeat (first | (with_reducible first | exact HI170.out | apply zI.alloc | apply zI.drewN | apply zI.drew | apply zI.set_0 | apply zI.set_1) | exact HI170.out)) hb); have n2_ := zG.mk (below_step (by repeat (first | (with_reducible first | exact HB.out | apply zF | apply zC | apply zD | refine zE ?_ (zI.ge HI170.out)) | exact HB.out)) hb); clear HI170; clear HB; have HO173 := n0_; have HI170 := n1_; have HB := n2_; clear n0_ n1_ n2_; clear hb ho24) | ((with_reducible refine gate_dst (N := 9) rfl ?_); (try (refine gate_guard (by rfl) ?_; dsimp only)); refine Kd.R_lit k50 _ 50 ?hg (N := 9) ?hd (xs := ([(⟨0, false⟩ : S50)] : List (S50))) (inner := [.int .i64 0, .bool false]) (ok := fun _ => True) (okp := fun _ => True) ?hr ?hp (fun _ hk => hk) trivial (Below.refl _ _) (Nat.le_refl _) (by simp) ?_; (case hd => rfl); (case hg => rfl); (case hr => first | (go_simp; done) | (go_simp; rfl)); (case hp => exact (Reps.c2 (show Kd.M k50 _ _ _ (⟨0, false⟩ : S50) [.int .i64 0, .bool false] from (k50_mkM _ _ _ (⟨0, false⟩ : S50) )) (Reps.none _ _))); intro v175 w25 ho26 hb hg_ hnew_; clear hg_ hnew_; (first | rw [← Ny174.out] at ho26 | (simp only [Int.reduceToNat] at ho26; rw [← Ny174.out] at ho26)); have n0_ := zG.mk (Kd.R_below (by (with_reducible repeat (first | apply Kd.zS | apply Kd.zQ | apply Kd.zR)); exact HO173.out) hb); have n1_ := zG.mk (Kd.R_lower ho26 (below_size (by repeat (first | (with_reducible first | exact HB.out | apply zF | apply zC | apply zD | refine zE ?_ (zI.ge HI170.out)) | exact HB.out)))); have n2_ := zG.mk (zI.below (by repeat (first | (with_reducible first | exact HI170.out | apply zI.alloc | apply zI.drewN | apply zI.drew | apply zI.set_0 | apply zI.set_1) | exact HI170.out)) hb); have n3_ := zG.mk (below_step (by repeat (first | (with_reducible first | exact HB.out | apply zF | apply zC | apply zD | refine zE ?_ (zI.ge HI170.out)) | exact HB.out)) hb); clear HO173; clear HI170; clear HB; have HO173 := n0_; have HO176 := n1_; have HI170 := n2_; have HB := n3_; clear n0_ n1_ n2_ n3_; clear hb ho26; obtain ⟨Ao13, co13, eo27⟩ := Kd.R_slice HO176.out; subst eo27; obtain ⟨Ao14, co14, eo28⟩ := Kd.R_slice HO173.out; subst eo28) | ((with_reducible refine gate_dst (N := 7) rfl ?_); (try (refine gate_guard (by rfl) ?_; dsimp only)); refine Kd.R_lit (Kd.int .i64) _ 3 ?hg (N := 7) ?hd (xs := ([0, 0] : List Int)) (inner := [.int .i64 0, .int .i64 0]) (ok := fun _ => True) (okp := fun _ => True) ?hr ?hp (fun _ hk => hk) trivial (Below.refl _ _) (Nat.le_refl _) (by simp) ?_; (case hd => rfl); (case hg => rfl); (case hr => first | (go_simp; done) | (go_simp; rfl)); (case hp => exact (Reps.one (show Kd.M (Kd.int .i64) _ _ _ 0 [.int .i64 0] from rfl) (Reps.one (show Kd.M (Kd.int .i64) _ _ _ 0 [.int .i64 0] from rfl) (Reps.none _ _)))); intro v172 w32 ho33 hb hg_ hnew_; clear hg_ hnew_; (first | rw [← Ny171.out] at ho33 | (simp only [Int.reduceToNat] at ho33; rw [← Ny171.out] at ho33)); have n0_ := zG.mk (Kd.R_lower ho33 (below_size (by repeat (first | (with_reducible first | exact HB.out | apply zF | apply zC | apply zD | refine zE ?_ (zI.ge HI170.out)) | exact HB.out)))); have n1_ := zG.mk (zI.below (by repeat (first | (with_reducible first | exact HI170.out | apply zI.alloc | apply zI.drewN | apply zI.drew | apply zI.set_0 | apply zI.set_1) | exact HI170.out)) hb); have n2_ := zG.mk (below_step (by repeat (first | (with_reducible first | exact HB.out | apply zF | apply zC | apply zD | refine zE ?_ (zI.ge HI170.out)) | exact HB.out)) hb); clear HI170; clear HB; have HO173 := n0_; have HI170 := n1_; have HB := n2_; clear n0_ n1_ n2_; clear hb ho33) | ((with_reducible refine gate_dst (N := 9) rfl ?_); (try (refine gate_guard (by rfl) ?_; dsimp only)); refine Kd.R_lit k50 _ 50 ?hg (N := 9) ?hd (xs := ([(⟨0, false⟩ : S50)] : List (S50))) (inner := [.int .i64 0, .bool false]) (ok := fun _ => True) (okp := fun _ => True) ?hr ?hp (fun _ hk => hk) trivial (Below.refl _ _) (Nat.le_refl _) (by simp) ?_; (case hd => rfl); (case hg => rfl); (case hr => first | (go_simp; done) | (go_simp; rfl)); (case hp => exact (Reps.c2 (show Kd.M k50 _ _ _ (⟨0, false⟩ : S50) [.int .i64 0, .bool false] from (k50_mkM _ _ _ (⟨0, false⟩ : S50) )) (Reps.none _ _))); intro v175 w34 ho35 hb hg_ hnew_; clear hg_ hnew_; (first | rw [← Ny174.out] at ho35 | (simp only [Int.reduceToNat] at ho35; rw [← Ny174.out] at ho35)); have n0_ := zG.mk (Kd.R_below (by (with_reducible repeat (first | apply Kd.zS | apply Kd.zQ | apply Kd.zR)); exact HO173.out) hb); have n1_ := zG.mk (Kd.R_lower ho35 (below_size (by repeat (first | (with_reducible first | exact HB.out | apply zF | apply zC | apply zD | refine zE ?_ (zI.ge HI170.out)) | exact HB.out)))); have n2_ := zG.mk (zI.below (by repeat (first | (with_reducible first | exact HI170.out | apply zI.alloc | apply zI.drewN | apply zI.drew | apply zI.set_0 | apply zI.set_1) | exact HI170.out)) hb); have n3_ := zG.mk (below_step (by repeat (first | (with_reducible first | exact HB.out | apply zF | apply zC | apply zD | refine zE ?_ (zI.ge HI170.out)) | exact HB.out)) hb); clear HO173; clear HI170; clear HB; have HO173 := n0_; have HO176 := n1_; have HI170 := n2_; have HB := n3_; clear n0_ n1_ n2_ n3_; clear hb ho35; obtain ⟨Ao13, co13, eo36⟩ := Kd.R_slice HO176.out; subst eo36; obtain ⟨Ao14, co14, eo37⟩ := Kd.R_slice HO173.out; subst eo37))
    go_ret
    exact ⟨by first | rfl | (simp [errW_none, errW_some] <;> rfl) | (simp [*, errW_none, errW_some] <;> rfl), by repeat (first | (with_reducible first | exact HB.out | apply zF | apply zC | apply zD | refine zE ?_ (zI.ge HI170.out)) | exact HB.out)⟩

end Go.Proofs.Ytokdjeoecnnckaa.PA
end
