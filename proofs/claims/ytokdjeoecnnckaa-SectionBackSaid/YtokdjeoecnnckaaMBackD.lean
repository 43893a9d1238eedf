/- What the law SectionBack needs, part 4: texts of this claim, merged; the row itself stands in the last part. Conditions: as each theorem says. -/
import Derived.Test.YtokdjeoecnnckaaMBackC
section
namespace Go.Proofs.Ytokdjeoecnnckaa.PA
open Go.RowKit Go.Proofs.YtokdjeoecnnckaaW.PrintWords Go.Proofs.YtokdjeoecnnckaaW.PrintLast Go.Proofs.YtokdjeoecnnckaaW.PrintMore
attribute [local go_sem] max2_int min2_int max_two min_two max_three min_three max_four min_four   -- for this text's walks alone
set_option linter.unusedVariables false
set_option linter.unusedSimpArgs false

mutual
def serinettelaw15_short.l0 : Nat → List (List Int) → Int → Bool → Int → List (S50) → Option (Bool)
  | 0, _, _, _, _, _ => none
  | k + 1, x8, x9, x212000, x212001, x212002 => if x9 < (x8.length : Int) then (serinettelaw15_short.l1 k x8 x9 0 x212000 x212001 x212002) else (some true)
def serinettelaw15_short.l1 : Nat → List (List Int) → Int → Int → Bool → Int → List (S50) → Option (Bool)
  | 0, _, _, _, _, _, _ => none
  | k + 1, x8, x9, x10, x212000, x212001, x212002 => if 0 ≤ x9 then (if x9 < (x8.length : Int) then (if x10 < ((rd_L4 x8 x9).length : Int) then (if 0 ≤ x10 then (if x9 < (x212002.length : Int) then ((serinetteref02_High.f k (rd (rd_L4 x8 x9) x10) ((rd_T50 x212002 x9).f0)).bind fun t222 => (if ((rd_T50 x212002 x9).f1 = true) then (serinettelaw15_short.l1 k x8 x9 (wrap64 (x10 + 1)) x212000 x212001 x212002) else (if t222 > 300 then (if t222 ≤ 65535 then (some false) else (serinettelaw15_short.l1 k x8 x9 (wrap64 (x10 + 1)) x212000 x212001 x212002)) else (serinettelaw15_short.l1 k x8 x9 (wrap64 (x10 + 1)) x212000 x212001 x212002)))) else (none)) else (none)) else (serinettelaw15_short.l0 k x8 (wrap64 (x9 + 1)) x212000 x212001 x212002)) else (none)) else (none)
end
def serinettelaw15_short.f (k : Nat) (l0 : List Int) (a1 : Int) (a2_0 : Bool) (a2_1 : Int) (l2_2 : List (S50)) : Option (Bool) := (serinetteref14_Cuts.f k (l0.length : Int) a1 a2_1).bind fun t212 => (if (t212.length : Int) = (l2_2.length : Int) then ((serinetteref14_Split.f k l0 t212).bind fun t215 => (serinettelaw15_short.l0 k t215 0 a2_0 a2_1 l2_2)) else (some true))
def serinettelaw15_short.T11 : Bool × List (List Nat × List Nat) := (true, [([], []), ([], []), ([0, 1], [0, 1]), ([2], [2]), ([], []), ([3, 4], [3, 4]), ([5], [5]), ([], []), ([7], [7]), ([], []), ([8, 9], [8, 9]), ([10], [10]), ([11], [11]), ([6, 12], [6, 12]), ([13, 13, 0, 1, 2, 3, 4, 5, 6, 7, 8, 9, 10, 11, 12, 13], [13])])
def serinettelaw15_short.B11 : List Nat := [0, 0, 3, 7, 0, 31, 63, 0, 128, 0, 896, 1920, 3968, 8191, 16383]
theorem serinettelaw15_short.tab11 : rtab .any (opsOf Try.f7 11) = serinettelaw15_short.T11 := by kernel_rfl
theorem serinettelaw15_short.bits11 : waitsOk serinettelaw15_short.T11.2 serinettelaw15_short.B11 = true := by kernel_rfl
set_option maxHeartbeats 8000000 in
set_option maxRecDepth 100000 in
theorem serinettelaw15_short.calls (k : Nat) (A0 : Option Addr) (c0 : Nat) (l0 : List Int) (a1 : Int) (a2_0 : Bool) (a2_1 : Int) (A2_2 : Option Addr) (c2_2 : Nat) (l2_2 : List (S50)) (r : Bool) (w : World) (hr0 : Kd.C (Kd.int .i64) w A0 l0.length l0) (hc0 : l0.length ≤ c0) (hr2_2 : Kd.C k50 w A2_2 l2_2.length l2_2) (hc2_2 : l2_2.length ≤ c2_2) (h : serinettelaw15_short.f k l0 a1 a2_0 a2_1 l2_2 = some r) :
    Calls Try.prog 7 #[.slice A0 l0.length c0, .int .i64 a1, .agg #[.bool a2_0, .int .i64 a2_1, .slice A2_2 l2_2.length c2_2]] w fun e w' => e = .returned (.bool r) ∧ Below w.heap.size w w' := by
  have hu25 := Try.underlying25
  have HR0 := zF.mk hr0
  have HC0 := zF.mk hc0
  clear hr0 hc0
  have HR2_2 := zF.mk hr2_2
  have HC2_2 := zF.mk hc2_2
  clear hr2_2 hc2_2
  have HB := zF.mk (Below.refl w.heap.size w)
  have H : ((serinetteref14_Cuts.f k (l0.length : Int) a1 a2_1).bind fun t212 => (if (t212.length : Int) = (l2_2.length : Int) then ((serinetteref14_Split.f k l0 t212).bind fun t215 => (serinettelaw15_short.l0 k t215 0 a2_0 a2_1 l2_2)) else (some true))) = some r := h
  clear h
  replace H := Option.bind_eq_some_iff.mp H
  obtain ⟨t212, A40, H⟩ := H
  replace H : (if (t212.length : Int) = (l2_2.length : Int) then ((serinetteref14_Split.f k l0 t212).bind fun t215 => (serinettelaw15_short.l0 k t215 0 a2_0 a2_1 l2_2)) else (some true)) = some r := H
  have A4 := zF.mk A40
  clear A40
  by_cases c5 : (t212.length : Int) = (l2_2.length : Int)
  · rw [if_pos c5] at H
    have c5b0 : ((t212.length : Int) == (l2_2.length : Int)) = true := beq_iff_eq.mpr c5
    have c5b1 : ((t212.length : Int) != (l2_2.length : Int)) = false := bne_eq_false_iff_eq.mpr c5
    have c5b2 : (t212.length == l2_2.length) = true := by first | simpa using c5 | (simp at c5 ⊢; omega)
    clear c5
    replace H := Option.bind_eq_some_iff.mp H
    obtain ⟨t215, A60, H⟩ := H
    replace H : (serinettelaw15_short.l0 k t215 0 a2_0 a2_1 l2_2) = some r := H
    have A6 := zF.mk A60
    clear A60
    have H' := zF.mk H
    clear H
    go_enter Try.func7, Try.ntmps7
    go_wp2_with (first | ((with_reducible refine gate_dst (N := 5) rfl ?_); refine box_event ?hg (N := 5) ?hd (cs := #[.bool a2_0, .int .i64 a2_1, .slice A2_2 l2_2.length c2_2]) (t := 25) ?hr ?_; (case hd => rfl); (case hg => rfl); (case hr => first | (go_simp; done) | (go_simp; rfl)); intro gb211 hg w7 hbox hb; have n0_ := zF.mk (below_step (by repeat (first | (with_reducible first | exact HB.out | apply zE | apply zB | apply zC) | exact HB.out)) hb); have n1_ := zF.mk (hbox); have n2_ := zF.mk ((by rw [hg]; exact (below_size (by repeat (first | (with_reducible first | exact HB.out | apply zE | apply zB | apply zC) | exact HB.out))) : w.heap.size ≤ gb211)); have n3_ := zF.mk ((by rw [hg]; exact (below_size (by repeat (first | (with_reducible first | exact HB.out | apply zE | apply zB | apply zC) | exact HB.out))) : w.heap.size ≤ gb211)); clear HB; have HB := n0_; have BK211 := n1_; have GW211 := n2_; have GE211 := n3_; clear n0_ n1_ n2_ n3_; clear hb hbox hg; have hcz8_0 : w7.cell? ⟨gb211, 0, none⟩ = some (.bool a2_0) := (zM BK211.out 0).trans rfl; have hcz8_1 : w7.cell? ⟨gb211, 1, none⟩ = some (.int .i64 a2_1) := (zM BK211.out 1).trans rfl; have hcz8_2 : w7.cell? ⟨gb211, 2, none⟩ = some (.slice A2_2 l2_2.length c2_2) := (zM BK211.out 2).trans rfl; have hfz8_0 := zN BK211.out 0; have hfz8_1 := zN BK211.out 1; have hfz8_2 := zN BK211.out 2) | ((with_reducible refine gate_callee (f := 20) rfl ?_); refine goesL_ (some 17) rfl rfl Try.func20 (by kernel_rfl) rfl #[.int .i64 (l0.length : Int), .int .i64 a1, .int .i64 a2_1] rfl (by (try simp only [List.map_toArray, List.map_cons, List.map_nil]); first | done | rfl | (simp only [List.length_drop, List.length_take]; rfl)) ?_; (with_reducible refine (serinetteref14_Cuts.calls k (l0.length : Int) a1 a2_1 t212 _ A4.out).mono ?_); rintro e w9 ⟨v213, rfl, ho0, hb⟩; refine ⟨_, rfl, ?_⟩; have n0_ := zF.mk (Kd.R_lower ho0 (below_size (by repeat (first | (with_reducible first | exact HB.out | apply zE | apply zB | apply zC | refine zD ?_ GE211.out) | exact HB.out)))); have n1_ := zF.mk (blk_below (g := gb211) (o := .cells #[.bool a2_0, .int .i64 a2_1, .slice A2_2 l2_2.length c2_2] 25 (0, 0)) (by (with_reducible repeat (first | refine zK ?_ _ | refine zL ?_ | refine zJ ?_ _)); exact BK211.out) hb); have n2_ := zF.mk (below_step (by repeat (first | (with_reducible first | exact HB.out | apply zE | apply zB | apply zC | refine zD ?_ GE211.out) | exact HB.out)) hb); clear BK211; clear HB; have HO214 := n0_; have BK211 := n1_; have HB := n2_; clear n0_ n1_ n2_; (try clear hb); (try clear hb2); (try clear hk); (try clear hi); (try clear ho0); obtain ⟨Ao10, co10, eo10⟩ := Kd.R_slice HO214.out; subst eo10; have hcz11_0 : w9.cell? ⟨gb211, 0, none⟩ = some (.bool a2_0) := (zM BK211.out 0).trans rfl; have hcz11_1 : w9.cell? ⟨gb211, 1, none⟩ = some (.int .i64 a2_1) := (zM BK211.out 1).trans rfl; have hcz11_2 : w9.cell? ⟨gb211, 2, none⟩ = some (.slice A2_2 l2_2.length c2_2) := (zM BK211.out 2).trans rfl; have hfz11_0 := zN BK211.out 0; have hfz11_1 := zN BK211.out 1; have hfz11_2 := zN BK211.out 2) | ((with_reducible refine gate_callee (f := 21) rfl ?_); refine goesL_ (some 26) rfl rfl Try.func21 (by kernel_rfl) rfl #[.slice A0 l0.length c0, .slice Ao10 t212.length co10] rfl (by (try simp only [List.map_toArray, List.map_cons, List.map_nil]); first | done | rfl | (simp only [List.length_drop, List.length_take]; rfl)) ?_; (with_reducible refine (serinetteref14_Split.calls k (fun k_ => k_ < w.heap.size) _ _ l0 _ _ t212 t215 _ ?side1 ?side2 ?side3 A6.out).mono ?_); (case side1 => exact Kd.V_mk HC0.out (Kd.F_below (Kd.C_F (Kd.heap_int .i64) HR0.out) (by repeat (first | (with_reducible first | exact HB.out | apply zE | apply zB | apply zC | refine zD ?_ GE211.out) | exact HB.out)))); (case side2 => repeat (first | exact (Kd.R_reads' HO214.out).2.2 | (with_reducible refine Kd.zU ?_ _) | (with_reducible refine Kd.zS ?_ _) | (with_reducible refine Kd.zT ?_))); (case side3 => exact (Kd.R_reads' HO214.out).2.1); rintro e w12 ⟨v216, rfl, ho0, hb⟩; refine ⟨_, rfl, ?_⟩; have n0_ := zF.mk (Kd.R_below (by (with_reducible repeat (first | apply Kd.zR | apply Kd.zP | apply Kd.zQ)); exact HO214.out) hb); have n1_ := zF.mk (Kd.N_lower (Kd.N_mono (ok' := fun k_ => some k_ ≠ (.slice Ao10 t212.length co10 : Value).ownBlock ∧ k_ ≠ gb211) ho0 (fun k_ hk_ => ⟨Or.elim hk_ (fun hs_ => fun e_ => Nat.not_le.2 hs_ (Kd.R_base HO214.out k_ e_.symm)) (fun hn_ => (Kd.fresh' (Kd.R_lt (by (with_reducible repeat (first | apply Kd.zR | apply Kd.zP | apply Kd.zQ)); exact HO214.out)) k_ hn_)), Or.elim hk_ (fun hs_ => fun e_ => Nat.not_le.2 hs_ (by rw [e_]; exact GW211.out)) (fun hn_ => (Kd.freshB (g := gb211) (o := .cells #[.bool a2_0, .int .i64 a2_1, .slice A2_2 l2_2.length c2_2] 25 (0, 0)) (by (with_reducible repeat (first | refine zK ?_ _ | refine zL ?_ | refine zJ ?_ _)); exact BK211.out) k_ hn_))⟩)) (below_size (by repeat (first | (with_reducible first | exact HB.out | apply zE | apply zB | apply zC | refine zD ?_ GE211.out) | exact HB.out)))); have n2_ := zF.mk (blk_below (g := gb211) (o := .cells #[.bool a2_0, .int .i64 a2_1, .slice A2_2 l2_2.length c2_2] 25 (0, 0)) (by (with_reducible repeat (first | refine zK ?_ _ | refine zL ?_ | refine zJ ?_ _)); exact BK211.out) hb); have n3_ := zF.mk (below_step (by repeat (first | (with_reducible first | exact HB.out | apply zE | apply zB | apply zC | refine zD ?_ GE211.out) | exact HB.out)) hb); clear HO214; clear BK211; clear HB; have HO214 := n0_; have HO217 := n1_; have BK211 := n2_; have HB := n3_; clear n0_ n1_ n2_ n3_; (try clear hb); (try clear hb2); (try clear hk); (try clear hi); (try clear ho0)))
    go_loopg [9] k (fun kq v9 w' => ∃ (x9_1 : Int), v9 = .int .i64 x9_1 ∧ zF (serinettelaw15_short.l0 kq t215 x9_1 a2_0 a2_1 l2_2 = some r) ∧ zF (kq ≤ k) ∧ zF (Kd.N (Kd.slice 3 (Kd.int .i64)) 22 w' w.heap.size (fun k_ => k_ ≠ gb211) v216 t215) ∧ zF (w'.heap[gb211]? = some (.cells #[.bool a2_0, .int .i64 a2_1, (.slice A2_2 l2_2.length c2_2)] 25 (0, 0))) ∧ zF (Below w.heap.size w w'))
    case atStart => exact ⟨(0), (by first | rfl | (simp; done) | (simp only [i64_w, i32_w]; done) | (simp [*]; done) | (simp only [i64_w, i32_w]; first | rfl | (simp; done) | (simp [*]; done))), H', ⟨Nat.le_refl _⟩, ⟨by (with_reducible repeat (first | apply Kd.N_alloc | apply Kd.N_drewN | apply Kd.N_drew)); exact Kd.N_mono HO217.out (fun _ hk => hk.2)⟩, ⟨by (with_reducible repeat (first | refine zK ?_ _ | refine zL ?_ | refine zJ ?_ _)); exact BK211.out⟩, ⟨by repeat (first | (with_reducible first | exact HB.out | apply zE | apply zB | apply zC | refine zD ?_ GE211.out) | exact HB.out)⟩⟩
    case round =>
      clear H'
      try clear c2
      try clear p2
      try clear c5
      try clear c5b0
      try clear c5b1
      try clear c5b2
      try clear c7
      try clear hcz11_0
      try clear hcz11_1
      try clear hcz11_2
      try clear hcz8_0
      try clear hcz8_1
      try clear hcz8_2
      try clear hfz11_0
      try clear hfz11_1
      try clear hfz11_2
      try clear hfz8_0
      try clear hfz8_1
      try clear hfz8_2
      obtain ⟨x9_1, rfl, HA, HK1, HO_8, BK211, HB⟩ := hrel
      cases gk with
      | zero => exact absurd HA.out (by simp [serinettelaw15_short.l0])
      | succ k1 =>
        have H := HA.out
        clear HA
        simp only [serinettelaw15_short.l0] at H
        by_cases c13 : x9_1 < (t215.length : Int)
        · rw [if_pos c13] at H
          have c13b0 : decide (x9_1 < (t215.length : Int)) = true := decide_eq_true c13
          clear c13
          have H' := zF.mk H
          clear H
          obtain ⟨Ao14, co14, eo14⟩ := Kd.N_slice HO_8.out
          subst eo14
          go_wp2
          go_loopg [10] k1 (fun kq v10 w' => ∃ (x10_2 : Int), v10 = .int .i64 x10_2 ∧ zF (serinettelaw15_short.l1 kq t215 x9_1 x10_2 a2_0 a2_1 l2_2 = some r) ∧ zF (kq ≤ k1) ∧ zF (Kd.N (Kd.slice 3 (Kd.int .i64)) 22 w' w.heap.size (fun k_ => k_ ≠ gb211) (.slice Ao14 t215.length co14) t215) ∧ zF (w'.heap[gb211]? = some (.cells #[.bool a2_0, .int .i64 a2_1, (.slice A2_2 l2_2.length c2_2)] 25 (0, 0))) ∧ zF (Below w.heap.size w w'))
          case atStart => exact ⟨(0), (by first | rfl | (simp; done) | (simp only [i64_w, i32_w]; done) | (simp [*]; done) | (simp only [i64_w, i32_w]; first | rfl | (simp; done) | (simp [*]; done))), H', ⟨Nat.le_refl _⟩, ⟨by (with_reducible repeat (first | apply Kd.N_alloc | apply Kd.N_drewN | apply Kd.N_drew)); exact HO_8.out⟩, ⟨by (with_reducible repeat (first | refine zK ?_ _ | refine zL ?_ | refine zJ ?_ _)); exact BK211.out⟩, ⟨by repeat (first | (with_reducible first | exact HB.out | apply zE | apply zB | apply zC | refine zD ?_ GE211.out) | exact HB.out)⟩⟩
          case round =>
            clear H'
            try clear c1
            try clear c2
            try clear p2
            try clear c5
            try clear c5b0
            try clear c5b1
            try clear c5b2
            try clear c7
            try clear c13
            try clear c13b0
            try clear hcz11_0
            try clear hcz11_1
            try clear hcz11_2
            try clear hcz8_0
            try clear hcz8_1
            try clear hcz8_2
            try clear hfz11_0
            try clear hfz11_1
            try clear hfz11_2
            try clear hfz8_0
            try clear hfz8_1
            try clear hfz8_2
            try clear p2
            obtain ⟨x10_2, rfl, HA, HK2, HO_8, BK211, HB⟩ := hrel
            cases gk with
            | zero => exact absurd HA.out (by simp [serinettelaw15_short.l1])
            | succ k2 =>
              have H := HA.out
              clear HA
              simp only [serinettelaw15_short.l1] at H
              by_cases c15 : 0 ≤ x9_1
              · rw [if_pos c15] at H
                have c15b0 : decide (0 ≤ x9_1) = true := decide_eq_true c15
                clear c15
                by_cases c16 : x9_1 < (t215.length : Int)
                · rw [if_pos c16] at H
                  have c16b0 : decide (x9_1 < (t215.length : Int)) = true := decide_eq_true c16
                  clear c16
                  by_cases c17 : x10_2 < ((rd_L4 t215 x9_1).length : Int)
                  · rw [if_pos c17] at H
                    have c17b0 : decide (x10_2 < ((rd_L4 t215 x9_1).length : Int)) = true := decide_eq_true c17
                    clear c17
                    by_cases c18 : 0 ≤ x10_2
                    · rw [if_pos c18] at H
                      have c18b0 : decide (0 ≤ x10_2) = true := decide_eq_true c18
                      clear c18
                      by_cases c19 : x9_1 < (l2_2.length : Int)
                      · rw [if_pos c19] at H
                        have c19b0 : decide (x9_1 < (l2_2.length : Int)) = true := decide_eq_true c19
                        clear c19
                        replace H := Option.bind_eq_some_iff.mp H
                        obtain ⟨t222, A200, H⟩ := H
                        replace H : (if ((rd_T50 l2_2 x9_1).f1 = true) then (serinettelaw15_short.l1 k2 t215 x9_1 (wrap64 (x10_2 + 1)) a2_0 a2_1 l2_2) else (if t222 > 300 then (if t222 ≤ 65535 then (some false) else (serinettelaw15_short.l1 k2 t215 x9_1 (wrap64 (x10_2 + 1)) a2_0 a2_1 l2_2)) else (serinettelaw15_short.l1 k2 t215 x9_1 (wrap64 (x10_2 + 1)) a2_0 a2_1 l2_2))) = some r := H
                        have A20 := zF.mk A200
                        clear A200
                        obtain ⟨bq21, hbq21⟩ : ∃ b_ : Bool, b_ = ((rd_T50 l2_2 x9_1).f1) := ⟨_, rfl⟩
                        replace H : (if (bq21 = true) then (serinettelaw15_short.l1 k2 t215 x9_1 (wrap64 (x10_2 + 1)) a2_0 a2_1 l2_2) else (if t222 > 300 then (if t222 ≤ 65535 then (some false) else (serinettelaw15_short.l1 k2 t215 x9_1 (wrap64 (x10_2 + 1)) a2_0 a2_1 l2_2)) else (serinettelaw15_short.l1 k2 t215 x9_1 (wrap64 (x10_2 + 1)) a2_0 a2_1 l2_2))) = some r := by rw [← hbq21] at H; exact H
                        have Nbq21 := zF.mk hbq21
                        clear hbq21
                        by_cases c22 : (bq21 = true)
                        · subst c22
                          have H1 : (serinettelaw15_short.l1 k2 t215 x9_1 (wrap64 (x10_2 + 1)) a2_0 a2_1 l2_2) = some r := by rw [if_pos rfl] at H; exact H
                          clear H
                          have H := H1
                          clear H1
                          have H' := zF.mk H
                          clear H
                          have p218 : 0 ≤ (x9_1 : Int) := of_decide_eq_true (by first | (with_reducible assumption) | assumption)
                          have q218 : x9_1 < (t215.length : Int) := of_decide_eq_true (by first | (with_reducible assumption) | assumption)
                          obtain ⟨ad218, A218_0, c218_0, e218, hx218_0, hl218_0, hi218_0⟩ := at_L4 (Kd.N_reads' HO_8.out).2.2 x9_1 p218 q218
                          cases e218
                          obtain ⟨ce218, hce218, hMe218, hcc218⟩ := Kd.N_get HO_8.out [] x9_1 p218 (by first | exact q218 | exact of_decide_eq_true (by first | (with_reducible assumption) | assumption) | (have e_ := (Kd.N_reads' HO_8.out).1; omega))
                          obtain ⟨ua218_0, uc218_0, rfl, ul218_0, ge218_0⟩ := Kd.FK_slice_open hMe218
                          have hv218_0 := hcc218 0 _ rfl
                          rw [Nat.add_zero, show ((Kd.slice 3 (Kd.int .i64))).sz = 1 from rfl, Nat.mul_one] at hv218_0
                          replace hv218_0 := Option.some.inj (hv218_0.symm.trans hx218_0)
                          injection hv218_0 with hva_ hvn_ hvc_
                          rw [hva_] at ge218_0
                          rw [hvc_] at ul218_0
                          have HL218_0 := zF.mk (show Kd.V (Kd.int .i64) 3 _ w.heap.size _ _ (rd_L4 t215 x9_1) from Kd.V_mk ul218_0 ge218_0)
                          clear hva_ hvn_ hvc_ ge218_0 ul218_0
                          clear hcc218 hce218
                          have HR218_0 := zF.mk hi218_0
                          have HC218_0 := zF.mk hl218_0
                          clear hi218_0 hl218_0
                          replace p218 := eq_true p218
                          replace q218 := eq_true q218
                          try go_wp2
                          have n0_ := zF.mk (Kd.N_drew HO_8.out)
                          have n1_ := zF.mk (Kd.V_drew HL218_0.out)
                          have n2_ := zF.mk (zL BK211.out)
                          have n3_ := zF.mk (Kd.zT HR218_0.out)
                          have n4_ := zF.mk (zC HB.out)
                          clear HO_8
                          clear HL218_0
                          clear BK211
                          clear HR218_0
                          clear HB
                          have HO_8 := n0_
                          have HL218_0 := n1_
                          have BK211 := n2_
                          have HR218_0 := n3_
                          have HB := n4_
                          clear n0_ n1_ n2_ n3_ n4_
                          have p219 : 0 ≤ (x9_1 : Int) := of_decide_eq_true (by first | (with_reducible assumption) | assumption)
                          have q219 : x9_1 < (t215.length : Int) := of_decide_eq_true (by first | (with_reducible assumption) | assumption)
                          obtain ⟨ad219, A219_0, c219_0, e219, hx219_0, hl219_0, hi219_0⟩ := at_L4 (Kd.N_reads' HO_8.out).2.2 x9_1 p219 q219
                          obtain rfl : ad218 = ad219 := (by injection e219)
                          obtain ⟨ce219, hce219, hMe219, hcc219⟩ := Kd.N_get HO_8.out [] x9_1 p219 (by first | exact q219 | exact of_decide_eq_true (by first | (with_reducible assumption) | assumption) | (have e_ := (Kd.N_reads' HO_8.out).1; omega))
                          obtain ⟨ua219_0, uc219_0, rfl, ul219_0, ge219_0⟩ := Kd.FK_slice_open hMe219
                          have hv219_0 := hcc219 0 _ rfl
                          rw [Nat.add_zero, show ((Kd.slice 3 (Kd.int .i64))).sz = 1 from rfl, Nat.mul_one] at hv219_0
                          replace hv219_0 := Option.some.inj (hv219_0.symm.trans hx219_0)
                          injection hv219_0 with hva_ hvn_ hvc_
                          rw [hva_] at ge219_0
                          rw [hvc_] at ul219_0
                          have HL219_0 := zF.mk (show Kd.V (Kd.int .i64) 3 _ w.heap.size _ _ (rd_L4 t215 x9_1) from Kd.V_mk ul219_0 ge219_0)
                          clear hva_ hvn_ hvc_ ge219_0 ul219_0
                          clear hcc219 hce219
                          have HR219_0 := zF.mk hi219_0
                          have HC219_0 := zF.mk hl219_0
                          clear hi219_0 hl219_0
                          replace p219 := eq_true p219
                          replace q219 := eq_true q219
                          have p220 : 0 ≤ (x10_2 : Int) := of_decide_eq_true (by first | (with_reducible assumption) | assumption)
                          have q220 : x10_2 < ((rd_L4 t215 x9_1).length : Int) := of_decide_eq_true (by first | (with_reducible assumption) | assumption)
                          obtain ⟨ad220, e220, hx220_0⟩ := Kd.at_int (by repeat (first | (with_reducible exact HR219_0.out) | (with_reducible refine Kd.zU ?_ _) | (with_reducible refine Kd.zS ?_ _) | (with_reducible refine Kd.zT ?_) | exact HR219_0.out)) x10_2 p220 q220
                          cases e220
                          replace p220 := eq_true p220
                          replace q220 := eq_true q220
                          have p221 : 0 ≤ (x9_1 : Int) := of_decide_eq_true (by first | (with_reducible assumption) | assumption)
                          have q221 : x9_1 < (l2_2.length : Int) := of_decide_eq_true (by first | (with_reducible assumption) | assumption)
                          obtain ⟨ad221, e221, hx221_0, hx221_1⟩ := at_T50 HR2_2.out x9_1 p221 q221
                          have hw221_1 := hx221_1
                          have hw221_0 := hx221_0
                          (try rw [← Nbq21.out] at hx221_1); (try rw [← Nbq21.out] at hw221_1)
                          cases e221
                          replace hx221_0 := (HB.out.cell (World.block_lt_of_cell? w _ hx221_0)).trans hx221_0
                          replace hx221_1 := (HB.out.cell (World.block_lt_of_cell? w _ hx221_1)).trans hx221_1
                          replace p221 := eq_true p221
                          replace q221 := eq_true q221
                          refine start_ (n := 15) (S := fun w' => w'.cell? ⟨gb211, 0, none⟩ = some (.bool a2_0) ∧ w'.cell? ⟨gb211, 1, none⟩ = some (.int .i64 a2_1) ∧ w'.cell? ⟨gb211, 2, none⟩ = some (.slice (some ad221) l2_2.length c2_2) ∧ w'.cell? (ad218.add (x9_1).toNat) = some (.slice (some ad220) (rd_L4 t215 x9_1).length c219_0) ∧ w'.cell? (ad220.add (x10_2).toNat) = some (.int .i64 (rd (rd_L4 t215 x9_1) x10_2)) ∧ w'.cell? (ad221.add ((x9_1).toNat * 2)) = some (.int .i64 ((rd_T50 l2_2 x9_1).f0)) ∧ w'.cell? ⟨(ad221.add ((x9_1).toNat * 2)).block, (ad221.add ((x9_1).toNat * 2)).off + 1, none⟩ = some (.bool true)) (ds := []) #[false, false, false, false, false, false, false, false, false, false, false, false, false, false, false] (by kernel_rfl) rfl rfl ⟨(zM BK211.out 0).trans rfl, (zM BK211.out 1).trans rfl, (zM BK211.out 2).trans rfl, hx219_0, hx220_0, ((HB.out.cell (World.block_lt_of_cell? w _ hw221_0)).trans hw221_0), ((HB.out.cell (World.block_lt_of_cell? w _ hw221_1)).trans hw221_1)⟩ (fun hHeld => ?_); refine with_tabW serinettelaw15_short.tab11 serinettelaw15_short.bits11 (fun HT_ HW_ => ?_)
                          generalize wr.drew = w23 at HO_8 HL218_0 BK211 HR218_0 HB HL219_0 HR219_0 hx219_0 hx220_0 hx221_0 hx221_1 hHeld ⊢
                          refine pure_ (i := 0) (N := some 42) (v := ?_) (a' := ?_) #[true, false, false, false, false, false, false, false, false, false, false, false, false, false, false] rfl rfl (any_of HT_.out (by kernel_rfl)) (fun _ _ _ h => h) (Or.inl ⟨by rfl, ?_⟩) ?_ ?_
                          rotate_left
                          · intro w'
                            go_simp
                            with_reducible rfl
                          rotate_left
                          · simp only [Act.put, List.setIfInBounds_toArray, List.set_cons_zero, List.set_cons_succ, i64_w, i32_w]
                            rfl
                          refine pure_ (i := 1) (N := some 43) (v := ?_) (a' := ?_) #[true, true, false, false, false, false, false, false, false, false, false, false, false, false, false] rfl rfl (any_of HT_.out (by kernel_rfl)) (fun _ _ _ h => h) (Or.inl ⟨by rfl, ?_⟩) ?_ ?_
                          rotate_left
                          · intro w'
                            go_simp
                            with_reducible rfl
                          rotate_left
                          · simp only [Act.put, List.setIfInBounds_toArray, List.set_cons_zero, List.set_cons_succ, i64_w, i32_w]
                            rfl
                          refine pure_ (i := 2) (N := some 44) (v := ?_) (a' := ?_) #[true, true, true, false, false, false, false, false, false, false, false, false, false, false, false] rfl rfl (any_of HT_.out (by kernel_rfl)) (fun _ _ _ h => h) (Or.inl ⟨by rfl, ?_⟩) ?_ ?_
                          rotate_left
                          · intro w'
                            go_simp
                            with_reducible rfl
                          rotate_left
                          · simp only [Act.put, List.setIfInBounds_toArray, List.set_cons_zero, List.set_cons_succ, i64_w, i32_w]
                            rfl
                          refine pure_ (i := 4) (N := some 46) (v := ?_) (a' := ?_) #[true, true, true, false, true, false, false, false, false, false, false, false, false, false, false] rfl rfl (any_of HT_.out (by kernel_rfl)) (fun _ _ _ h => h) (Or.inl ⟨by rfl, ?_⟩) ?_ ?_
                          rotate_left
                          · intro w'
                            go_simp
                            with_reducible rfl
                          rotate_left
                          · simp only [Act.put, List.setIfInBounds_toArray, List.set_cons_zero, List.set_cons_succ, i64_w, i32_w]
                            rfl
                          refine pure_ (i := 7) (N := some 49) (v := ?_) (a' := ?_) #[true, true, true, false, true, false, false, true, false, false, false, false, false, false, false] rfl rfl (any_of HT_.out (by kernel_rfl)) (fun _ _ _ h => h) (Or.inl ⟨by rfl, ?_⟩) ?_ ?_
                          rotate_left
                          · intro w'
                            go_simp
                            with_reducible rfl
                          rotate_left
                          · simp only [Act.put, List.setIfInBounds_toArray, List.set_cons_zero, List.set_cons_succ, i64_w, i32_w]
                            rfl
                          refine pure_ (i := 9) (N := some 51) (v := ?_) (a' := ?_) #[true, true, true, false, true, false, false, true, false, true, false, false, false, false, false] rfl rfl (any_of HT_.out (by kernel_rfl)) (fun _ _ _ h => h) (Or.inl ⟨by rfl, ?_⟩) ?_ ?_
                          rotate_left
                          · intro w'
                            go_simp
                            with_reducible rfl
                          rotate_left
                          · simp only [Act.put, List.setIfInBounds_toArray, List.set_cons_zero, List.set_cons_succ, i64_w, i32_w]
                            rfl
                          refine take_ (i := 3) (N := some 45) (v := ?_) (a' := ?_) #[true, true, true, true, true, false, false, true, false, true, false, false, false, false, false] rfl rfl (take_ofW HT_.out HW_.out (by kernel_rfl)) (fun _ _ _ h => h) (Or.inl ⟨by rfl, ?_⟩) hHeld ?_ ?_
                          rotate_left
                          · rintro w' ⟨s0, s1, s2, s3, s4, s5, s6⟩
                            go_simp
                            with_reducible rfl
                          rotate_left
                          · simp only [Act.put, List.setIfInBounds_toArray, List.set_cons_zero, List.set_cons_succ, i64_w, i32_w]
                            rfl
                          refine pure_ (i := 5) (N := some 47) (v := ?_) (a' := ?_) #[true, true, true, true, true, true, false, true, false, true, false, false, false, false, false] rfl rfl (any_of HT_.out (by kernel_rfl)) (fun _ _ _ h => h) (Or.inl ⟨by rfl, ?_⟩) ?_ ?_
                          rotate_left
                          · intro w'
                            go_simp
                            with_reducible rfl
                          rotate_left
                          · simp only [Act.put, List.setIfInBounds_toArray, List.set_cons_zero, List.set_cons_succ, i64_w, i32_w]
                            rfl
                          refine take_ (i := 6) (N := some 48) (v := ?_) (a' := ?_) #[true, true, true, true, true, true, true, true, false, true, false, false, false, false, false] rfl rfl (take_ofW HT_.out HW_.out (by kernel_rfl)) (fun _ _ _ h => h) (Or.inl ⟨by rfl, ?_⟩) hHeld ?_ ?_
                          rotate_left
                          · rintro w' ⟨s0, s1, s2, s3, s4, s5, s6⟩
                            go_simp
                            with_reducible rfl
                          rotate_left
                          · simp only [Act.put, List.setIfInBounds_toArray, List.set_cons_zero, List.set_cons_succ, i64_w, i32_w]
                            rfl
                          refine take_ (i := 8) (N := some 50) (v := ?_) (a' := ?_) #[true, true, true, true, true, true, true, true, true, true, false, false, false, false, false] rfl rfl (take_ofW HT_.out HW_.out (by kernel_rfl)) (fun _ _ _ h => h) (Or.inl ⟨by rfl, ?_⟩) hHeld ?_ ?_
                          rotate_left
                          · rintro w' ⟨s0, s1, s2, s3, s4, s5, s6⟩
                            go_simp
                            with_reducible rfl
                          rotate_left
                          · simp only [Act.put, List.setIfInBounds_toArray, List.set_cons_zero, List.set_cons_succ, i64_w, i32_w]
                            rfl
                          refine pure_ (i := 10) (N := some 52) (v := ?_) (a' := ?_) #[true, true, true, true, true, true, true, true, true, true, true, false, false, false, false] rfl rfl (any_of HT_.out (by kernel_rfl)) (fun _ _ _ h => h) (Or.inl ⟨by rfl, ?_⟩) ?_ ?_
                          rotate_left
                          · intro w'
                            go_simp
                            with_reducible rfl
                          rotate_left
                          · simp only [Act.put, List.setIfInBounds_toArray, List.set_cons_zero, List.set_cons_succ, i64_w, i32_w]
                            rfl
                          refine pure_ (i := 11) (N := some 53) (v := ?_) (a' := ?_) #[true, true, true, true, true, true, true, true, true, true, true, true, false, false, false] rfl rfl (any_of HT_.out (by kernel_rfl)) (fun _ _ _ h => h) (Or.inl ⟨by rfl, ?_⟩) ?_ ?_
                          rotate_left
                          · intro w'
                            go_simp
                            with_reducible rfl
                          rotate_left
                          · simp only [Act.put, List.setIfInBounds_toArray, List.set_cons_zero, List.set_cons_succ, i64_w, i32_w]
                            rfl
                          refine take_ (i := 12) (N := some 54) (v := ?_) (a' := ?_) #[true, true, true, true, true, true, true, true, true, true, true, true, true, false, false] rfl rfl (take_ofW HT_.out HW_.out (by kernel_rfl)) (fun _ _ _ h => h) (Or.inl ⟨by rfl, ?_⟩) hHeld ?_ ?_
                          rotate_left
                          · rintro w' ⟨s0, s1, s2, s3, s4, s5, s6⟩
                            go_simp
                            with_reducible rfl
                          rotate_left
                          · simp only [Act.put, List.setIfInBounds_toArray, List.set_cons_zero, List.set_cons_succ, i64_w, i32_w]
                            rfl
                          refine one_ (i := 13) (N := some 55) #[true, true, true, true, true, true, true, true, true, true, true, true, true, true, false] rfl rfl (one_of HT_.out (by kernel_rfl)) (by decide) (fun K hK => ?_)
                          refine goes_ Try.func22 (by kernel_rfl) rfl #[.int .i64 (rd (rd_L4 t215 x9_1) x10_2), .int .i64 ((rd_T50 l2_2 x9_1).f0)] (by rfl) rfl rfl (by (try simp only [List.map_toArray, List.map_cons, List.map_nil]); first | done | rfl | (simp only [List.length_drop, List.length_take]; rfl)) ?_
                          with_reducible refine (serinetteref02_High.calls k2 (rd (rd_L4 t215 x9_1) x10_2) ((rd_T50 l2_2 x9_1).f0) t222 _ A20.out).mono ?_
                          rintro e w24 ⟨rfl, hb⟩
                          have HS3_ := (hb.cell (World.block_lt_of_cell? _ _ (hHeld.2.2.2.1))).trans (hHeld.2.2.2.1)
                          have HS4_ := (hb.cell (World.block_lt_of_cell? _ _ (hHeld.2.2.2.2.1))).trans (hHeld.2.2.2.2.1)
                          refine ⟨_, rfl, ?_⟩
                          have n0_ := zF.mk (Kd.N_below (by (with_reducible repeat (first | apply Kd.N_alloc | apply Kd.N_drewN | apply Kd.N_drew)); exact HO_8.out) hb)
                          have n1_ := zF.mk (Kd.V_below (by (with_reducible repeat (first | apply Kd.V_alloc | apply Kd.V_drewN | apply Kd.V_drew)); exact HL218_0.out) hb)
                          have n2_ := zF.mk (Kd.V_below (by (with_reducible repeat (first | apply Kd.V_alloc | apply Kd.V_drewN | apply Kd.V_drew)); exact HL219_0.out) hb)
                          have n3_ := zF.mk (blk_below (g := gb211) (o := .cells #[.bool a2_0, .int .i64 a2_1, .slice (some ad221) l2_2.length c2_2] 25 (0, 0)) (by (with_reducible repeat (first | refine zK ?_ _ | refine zL ?_ | refine zJ ?_ _)); exact BK211.out) hb)
                          have n4_ := zF.mk (Kd.C_below (by repeat (first | (with_reducible exact HR218_0.out) | (with_reducible refine Kd.zU ?_ _) | (with_reducible refine Kd.zS ?_ _) | (with_reducible refine Kd.zT ?_) | exact HR218_0.out)) hb)
                          have n5_ := zF.mk (Kd.C_below (by repeat (first | (with_reducible exact HR219_0.out) | (with_reducible refine Kd.zU ?_ _) | (with_reducible refine Kd.zS ?_ _) | (with_reducible refine Kd.zT ?_) | exact HR219_0.out)) hb)
                          have n6_ := zF.mk (below_step (by repeat (first | (with_reducible first | exact HB.out | apply zE | apply zB | apply zC | refine zD ?_ GE211.out) | exact HB.out)) hb)
                          clear HO_8
                          clear HL218_0
                          clear HL219_0
                          clear BK211
                          clear HR218_0
                          clear HR219_0
                          clear HB
                          have HO_8 := n0_
                          have HL218_0 := n1_
                          have HL219_0 := n2_
                          have BK211 := n3_
                          have HR218_0 := n4_
                          have HR219_0 := n5_
                          have HB := n6_
                          clear n0_ n1_ n2_ n3_ n4_ n5_ n6_
                          (try clear hb)
                          (try clear hb2)
                          (try clear hk)
                          (try clear hi)
                          refine hK.out _ _ ⟨(zM BK211.out 0).trans rfl, (zM BK211.out 1).trans rfl, (zM BK211.out 2).trans rfl, HS3_, HS4_, ((HB.out.cell (World.block_lt_of_cell? w _ hw221_0)).trans hw221_0), ((HB.out.cell (World.block_lt_of_cell? w _ hw221_1)).trans hw221_1)⟩ (fun hHeld => ?_)
                          clear hK K
                          refine norm_ (a' := ?_) ?_ ?_
                          rotate_left
                          · show Act.put _ (some 55) _ = _
                            simp only [Act.put, List.setIfInBounds_toArray, List.set_cons_zero, List.set_cons_succ, i64_w, i32_w]
                            rfl
                          refine pure_ (i := 14) (N := some 11) (v := ?_) (a' := ?_) #[true, true, true, true, true, true, true, true, true, true, true, true, true, true, true] rfl rfl (any_of HT_.out (by kernel_rfl)) (fun _ _ _ h => h) (Or.inl ⟨by rfl, ?_⟩) ?_ ?_
                          rotate_left
                          · intro w'
                            go_simp
                            with_reducible rfl
                          rotate_left
                          · simp only [Act.put, List.setIfInBounds_toArray, List.set_cons_zero, List.set_cons_succ, i64_w, i32_w]
                            rfl
                          refine done_ (done_of HT_.out (by kernel_rfl)) ?_
                          have hcz25_0 : w24.cell? ⟨gb211, 0, none⟩ = some (.bool a2_0) := (zM BK211.out 0).trans rfl
                          have hcz25_1 : w24.cell? ⟨gb211, 1, none⟩ = some (.int .i64 a2_1) := (zM BK211.out 1).trans rfl
                          have hcz25_2 : w24.cell? ⟨gb211, 2, none⟩ = some (.slice (some ad221) l2_2.length c2_2) := (zM BK211.out 2).trans rfl
                          have hfz25_0 := zN BK211.out 0
                          have hfz25_1 := zN BK211.out 1
                          have hfz25_2 := zN BK211.out 2
                          have p223 : 0 ≤ (x9_1 : Int) := of_decide_eq_true (by first | (with_reducible assumption) | assumption)
                          have q223 : x9_1 < (l2_2.length : Int) := of_decide_eq_true (by first | (with_reducible assumption) | assumption)
                          obtain ⟨ad223, e223, hx223_0, hx223_1⟩ := at_T50 HR2_2.out x9_1 p223 q223
                          (try rw [← Nbq21.out] at hx223_1); (try rw [← Nbq21.out] at hw223_1)
                          obtain rfl : ad221 = ad223 := (by injection e223)
                          replace hx223_0 := (HB.out.cell (World.block_lt_of_cell? w _ hx223_0)).trans hx223_0
                          replace hx223_1 := (HB.out.cell (World.block_lt_of_cell? w _ hx223_1)).trans hx223_1
                          replace p223 := eq_true p223
                          replace q223 := eq_true q223
                          try go_wp2
                          go_roundg k2
                          case measure => have := HK1.out; have := HK2.out; omega
                          case rel => exact ⟨(wrap64 (x10_2 + 1)), (by first | rfl | (simp; done) | (simp only [i64_w, i32_w]; done) | (simp [*]; done) | (simp only [i64_w, i32_w]; first | rfl | (simp; done) | (simp [*]; done))), H', ⟨by have := HK1.out; have := HK2.out; omega⟩, ⟨by (with_reducible repeat (first | apply Kd.N_alloc | apply Kd.N_drewN | apply Kd.N_drew)); exact HO_8.out⟩, ⟨by (with_reducible repeat (first | refine zK ?_ _ | refine zL ?_ | refine zJ ?_ _)); exact BK211.out⟩, ⟨by repeat (first | (with_reducible first | exact HB.out | apply zE | apply zB | apply zC | refine zD ?_ GE211.out) | exact HB.out)⟩⟩
                        · replace c22 := Bool.eq_false_iff.mpr c22
                          subst c22
                          have H1 : (if t222 > 300 then (if t222 ≤ 65535 then (some false) else (serinettelaw15_short.l1 k2 t215 x9_1 (wrap64 (x10_2 + 1)) a2_0 a2_1 l2_2)) else (serinettelaw15_short.l1 k2 t215 x9_1 (wrap64 (x10_2 + 1)) a2_0 a2_1 l2_2)) = some r := by rw [if_neg (show ¬ (false = true) by decide)] at H; exact H
                          clear H
                          have H := H1
                          clear H1
                          by_cases c26 : t222 > 300
                          · rw [if_pos c26] at H
                            have c26b0 : decide (300 < t222) = true := decide_eq_true c26
                            clear c26
                            by_cases c27 : t222 ≤ 65535
                            · rw [if_pos c27] at H
                              have c27b0 : decide (t222 ≤ 65535) = true := decide_eq_true c27
                              clear c27
                              obtain rfl := Option.some.inj H
                              have p218 : 0 ≤ (x9_1 : Int) := of_decide_eq_true (by first | (with_reducible assumption) | assumption)
                              have q218 : x9_1 < (t215.length : Int) := of_decide_eq_true (by first | (with_reducible assumption) | assumption)
                              obtain ⟨ad218, A218_0, c218_0, e218, hx218_0, hl218_0, hi218_0⟩ := at_L4 (Kd.N_reads' HO_8.out).2.2 x9_1 p218 q218
                              cases e218
                              obtain ⟨ce218, hce218, hMe218, hcc218⟩ := Kd.N_get HO_8.out [] x9_1 p218 (by first | exact q218 | exact of_decide_eq_true (by first | (with_reducible assumption) | assumption) | (have e_ := (Kd.N_reads' HO_8.out).1; omega))
                              obtain ⟨ua218_0, uc218_0, rfl, ul218_0, ge218_0⟩ := Kd.FK_slice_open hMe218
                              have hv218_0 := hcc218 0 _ rfl
                              rw [Nat.add_zero, show ((Kd.slice 3 (Kd.int .i64))).sz = 1 from rfl, Nat.mul_one] at hv218_0
                              replace hv218_0 := Option.some.inj (hv218_0.symm.trans hx218_0)
                              injection hv218_0 with hva_ hvn_ hvc_
                              rw [hva_] at ge218_0
                              rw [hvc_] at ul218_0
                              have HL218_0 := zF.mk (show Kd.V (Kd.int .i64) 3 _ w.heap.size _ _ (rd_L4 t215 x9_1) from Kd.V_mk ul218_0 ge218_0)
                              clear hva_ hvn_ hvc_ ge218_0 ul218_0
                              clear hcc218 hce218
                              have HR218_0 := zF.mk hi218_0
                              have HC218_0 := zF.mk hl218_0
                              clear hi218_0 hl218_0
                              replace p218 := eq_true p218
                              replace q218 := eq_true q218
                              try go_wp2
                              have n0_ := zF.mk (Kd.N_drew HO_8.out)
                              have n1_ := zF.mk (Kd.V_drew HL218_0.out)
                              have n2_ := zF.mk (zL BK211.out)
                              have n3_ := zF.mk (Kd.zT HR218_0.out)
                              have n4_ := zF.mk (zC HB.out)
                              clear HO_8
                              clear HL218_0
                              clear BK211
                              clear HR218_0
                              clear HB
                              have HO_8 := n0_
                              have HL218_0 := n1_
                              have BK211 := n2_
                              have HR218_0 := n3_
                              have HB := n4_
                              clear n0_ n1_ n2_ n3_ n4_
                              have p219 : 0 ≤ (x9_1 : Int) := of_decide_eq_true (by first | (with_reducible assumption) | assumption)
                              have q219 : x9_1 < (t215.length : Int) := of_decide_eq_true (by first | (with_reducible assumption) | assumption)
                              obtain ⟨ad219, A219_0, c219_0, e219, hx219_0, hl219_0, hi219_0⟩ := at_L4 (Kd.N_reads' HO_8.out).2.2 x9_1 p219 q219
                              obtain rfl : ad218 = ad219 := (by injection e219)
                              obtain ⟨ce219, hce219, hMe219, hcc219⟩ := Kd.N_get HO_8.out [] x9_1 p219 (by first | exact q219 | exact of_decide_eq_true (by first | (with_reducible assumption) | assumption) | (have e_ := (Kd.N_reads' HO_8.out).1; omega))
                              obtain ⟨ua219_0, uc219_0, rfl, ul219_0, ge219_0⟩ := Kd.FK_slice_open hMe219
                              have hv219_0 := hcc219 0 _ rfl
                              rw [Nat.add_zero, show ((Kd.slice 3 (Kd.int .i64))).sz = 1 from rfl, Nat.mul_one] at hv219_0
                              replace hv219_0 := Option.some.inj (hv219_0.symm.trans hx219_0)
                              injection hv219_0 with hva_ hvn_ hvc_
                              rw [hva_] at ge219_0
                              rw [hvc_] at ul219_0
                              have HL219_0 := zF.mk (show Kd.V (Kd.int .i64) 3 _ w.heap.size _ _ (rd_L4 t215 x9_1) from Kd.V_mk ul219_0 ge219_0)
                              clear hva_ hvn_ hvc_ ge219_0 ul219_0
                              clear hcc219 hce219
                              have HR219_0 := zF.mk hi219_0
                              have HC219_0 := zF.mk hl219_0
                              clear hi219_0 hl219_0
                              replace p219 := eq_true p219
                              replace q219 := eq_true q219
                              have p220 : 0 ≤ (x10_2 : Int) := of_decide_eq_true (by first | (with_reducible assumption) | assumption)
                              have q220 : x10_2 < ((rd_L4 t215 x9_1).length : Int) := of_decide_eq_true (by first | (with_reducible assumption) | assumption)
                              obtain ⟨ad220, e220, hx220_0⟩ := Kd.at_int (by repeat (first | (with_reducible exact HR219_0.out) | (with_reducible refine Kd.zU ?_ _) | (with_reducible refine Kd.zS ?_ _) | (with_reducible refine Kd.zT ?_) | exact HR219_0.out)) x10_2 p220 q220
                              cases e220
                              replace p220 := eq_true p220
                              replace q220 := eq_true q220
                              have p221 : 0 ≤ (x9_1 : Int) := of_decide_eq_true (by first | (with_reducible assumption) | assumption)
                              have q221 : x9_1 < (l2_2.length : Int) := of_decide_eq_true (by first | (with_reducible assumption) | assumption)
                              obtain ⟨ad221, e221, hx221_0, hx221_1⟩ := at_T50 HR2_2.out x9_1 p221 q221
                              have hw221_1 := hx221_1
                              have hw221_0 := hx221_0
                              (try rw [← Nbq21.out] at hx221_1); (try rw [← Nbq21.out] at hw221_1)
                              cases e221
                              replace hx221_0 := (HB.out.cell (World.block_lt_of_cell? w _ hx221_0)).trans hx221_0
                              replace hx221_1 := (HB.out.cell (World.block_lt_of_cell? w _ hx221_1)).trans hx221_1
                              replace p221 := eq_true p221
                              replace q221 := eq_true q221
                              refine start_ (n := 15) (S := fun w' => w'.cell? ⟨gb211, 0, none⟩ = some (.bool a2_0) ∧ w'.cell? ⟨gb211, 1, none⟩ = some (.int .i64 a2_1) ∧ w'.cell? ⟨gb211, 2, none⟩ = some (.slice (some ad221) l2_2.length c2_2) ∧ w'.cell? (ad218.add (x9_1).toNat) = some (.slice (some ad220) (rd_L4 t215 x9_1).length c219_0) ∧ w'.cell? (ad220.add (x10_2).toNat) = some (.int .i64 (rd (rd_L4 t215 x9_1) x10_2)) ∧ w'.cell? (ad221.add ((x9_1).toNat * 2)) = some (.int .i64 ((rd_T50 l2_2 x9_1).f0)) ∧ w'.cell? ⟨(ad221.add ((x9_1).toNat * 2)).block, (ad221.add ((x9_1).toNat * 2)).off + 1, none⟩ = some (.bool false)) (ds := []) #[false, false, false, false, false, false, false, false, false, false, false, false, false, false, false] (by kernel_rfl) rfl rfl ⟨(zM BK211.out 0).trans rfl, (zM BK211.out 1).trans rfl, (zM BK211.out 2).trans rfl, hx219_0, hx220_0, ((HB.out.cell (World.block_lt_of_cell? w _ hw221_0)).trans hw221_0), ((HB.out.cell (World.block_lt_of_cell? w _ hw221_1)).trans hw221_1)⟩ (fun hHeld => ?_); refine with_tabW serinettelaw15_short.tab11 serinettelaw15_short.bits11 (fun HT_ HW_ => ?_)
                              generalize wr.drew = w28 at HO_8 HL218_0 BK211 HR218_0 HB HL219_0 HR219_0 hx219_0 hx220_0 hx221_0 hx221_1 hHeld ⊢
                              refine pure_ (i := 0) (N := some 42) (v := ?_) (a' := ?_) #[true, false, false, false, false, false, false, false, false, false, false, false, false, false, false] rfl rfl (any_of HT_.out (by kernel_rfl)) (fun _ _ _ h => h) (Or.inl ⟨by rfl, ?_⟩) ?_ ?_
                              rotate_left
                              · intro w'
                                go_simp
                                with_reducible rfl
                              rotate_left
                              · simp only [Act.put, List.setIfInBounds_toArray, List.set_cons_zero, List.set_cons_succ, i64_w, i32_w]
                                rfl
                              refine pure_ (i := 1) (N := some 43) (v := ?_) (a' := ?_) #[true, true, false, false, false, false, false, false, false, false, false, false, false, false, false] rfl rfl (any_of HT_.out (by kernel_rfl)) (fun _ _ _ h => h) (Or.inl ⟨by rfl, ?_⟩) ?_ ?_
                              rotate_left
                              · intro w'
                                go_simp
                                with_reducible rfl
                              rotate_left
                              · simp only [Act.put, List.setIfInBounds_toArray, List.set_cons_zero, List.set_cons_succ, i64_w, i32_w]
                                rfl
                              refine pure_ (i := 2) (N := some 44) (v := ?_) (a' := ?_) #[true, true, true, false, false, false, false, false, false, false, false, false, false, false, false] rfl rfl (any_of HT_.out (by kernel_rfl)) (fun _ _ _ h => h) (Or.inl ⟨by rfl, ?_⟩) ?_ ?_
                              rotate_left
                              · intro w'
                                go_simp
                                with_reducible rfl
                              rotate_left
                              · simp only [Act.put, List.setIfInBounds_toArray, List.set_cons_zero, List.set_cons_succ, i64_w, i32_w]
                                rfl
                              refine pure_ (i := 4) (N := some 46) (v := ?_) (a' := ?_) #[true, true, true, false, true, false, false, false, false, false, false, false, false, false, false] rfl rfl (any_of HT_.out (by kernel_rfl)) (fun _ _ _ h => h) (Or.inl ⟨by rfl, ?_⟩) ?_ ?_
                              rotate_left
                              · intro w'
                                go_simp
                                with_reducible rfl
                              rotate_left
                              · simp only [Act.put, List.setIfInBounds_toArray, List.set_cons_zero, List.set_cons_succ, i64_w, i32_w]
                                rfl
                              refine pure_ (i := 7) (N := some 49) (v := ?_) (a' := ?_) #[true, true, true, false, true, false, false, true, false, false, false, false, false, false, false] rfl rfl (any_of HT_.out (by kernel_rfl)) (fun _ _ _ h => h) (Or.inl ⟨by rfl, ?_⟩) ?_ ?_
                              rotate_left
                              · intro w'
                                go_simp
                                with_reducible rfl
                              rotate_left
                              · simp only [Act.put, List.setIfInBounds_toArray, List.set_cons_zero, List.set_cons_succ, i64_w, i32_w]
                                rfl
                              refine pure_ (i := 9) (N := some 51) (v := ?_) (a' := ?_) #[true, true, true, false, true, false, false, true, false, true, false, false, false, false, false] rfl rfl (any_of HT_.out (by kernel_rfl)) (fun _ _ _ h => h) (Or.inl ⟨by rfl, ?_⟩) ?_ ?_
                              rotate_left
                              · intro w'
                                go_simp
                                with_reducible rfl
                              rotate_left
                              · simp only [Act.put, List.setIfInBounds_toArray, List.set_cons_zero, List.set_cons_succ, i64_w, i32_w]
                                rfl
                              refine take_ (i := 3) (N := some 45) (v := ?_) (a' := ?_) #[true, true, true, true, true, false, false, true, false, true, false, false, false, false, false] rfl rfl (take_ofW HT_.out HW_.out (by kernel_rfl)) (fun _ _ _ h => h) (Or.inl ⟨by rfl, ?_⟩) hHeld ?_ ?_
                              rotate_left
                              · rintro w' ⟨s0, s1, s2, s3, s4, s5, s6⟩
                                go_simp
                                with_reducible rfl
                              rotate_left
                              · simp only [Act.put, List.setIfInBounds_toArray, List.set_cons_zero, List.set_cons_succ, i64_w, i32_w]
                                rfl
                              refine pure_ (i := 5) (N := some 47) (v := ?_) (a' := ?_) #[true, true, true, true, true, true, false, true, false, true, false, false, false, false, false] rfl rfl (any_of HT_.out (by kernel_rfl)) (fun _ _ _ h => h) (Or.inl ⟨by rfl, ?_⟩) ?_ ?_
                              rotate_left
                              · intro w'
                                go_simp
                                with_reducible rfl
                              rotate_left
                              · simp only [Act.put, List.setIfInBounds_toArray, List.set_cons_zero, List.set_cons_succ, i64_w, i32_w]
                                rfl
                              refine take_ (i := 6) (N := some 48) (v := ?_) (a' := ?_) #[true, true, true, true, true, true, true, true, false, true, false, false, false, false, false] rfl rfl (take_ofW HT_.out HW_.out (by kernel_rfl)) (fun _ _ _ h => h) (Or.inl ⟨by rfl, ?_⟩) hHeld ?_ ?_
                              rotate_left
                              · rintro w' ⟨s0, s1, s2, s3, s4, s5, s6⟩
                                go_simp
                                with_reducible rfl
                              rotate_left
                              · simp only [Act.put, List.setIfInBounds_toArray, List.set_cons_zero, List.set_cons_succ, i64_w, i32_w]
                                rfl
                              refine take_ (i := 8) (N := some 50) (v := ?_) (a' := ?_) #[true, true, true, true, true, true, true, true, true, true, false, false, false, false, false] rfl rfl (take_ofW HT_.out HW_.out (by kernel_rfl)) (fun _ _ _ h => h) (Or.inl ⟨by rfl, ?_⟩) hHeld ?_ ?_
                              rotate_left
                              · rintro w' ⟨s0, s1, s2, s3, s4, s5, s6⟩
                                go_simp
                                with_reducible rfl
                              rotate_left
                              · simp only [Act.put, List.setIfInBounds_toArray, List.set_cons_zero, List.set_cons_succ, i64_w, i32_w]
                                rfl
                              refine pure_ (i := 10) (N := some 52) (v := ?_) (a' := ?_) #[true, true, true, true, true, true, true, true, true, true, true, false, false, false, false] rfl rfl (any_of HT_.out (by kernel_rfl)) (fun _ _ _ h => h) (Or.inl ⟨by rfl, ?_⟩) ?_ ?_
                              rotate_left
                              · intro w'
                                go_simp
                                with_reducible rfl
                              rotate_left
                              · simp only [Act.put, List.setIfInBounds_toArray, List.set_cons_zero, List.set_cons_succ, i64_w, i32_w]
                                rfl
                              refine pure_ (i := 11) (N := some 53) (v := ?_) (a' := ?_) #[true, true, true, true, true, true, true, true, true, true, true, true, false, false, false] rfl rfl (any_of HT_.out (by kernel_rfl)) (fun _ _ _ h => h) (Or.inl ⟨by rfl, ?_⟩) ?_ ?_
                              rotate_left
                              · intro w'
                                go_simp
                                with_reducible rfl
                              rotate_left
                              · simp only [Act.put, List.setIfInBounds_toArray, List.set_cons_zero, List.set_cons_succ, i64_w, i32_w]
                                rfl
                              refine take_ (i := 12) (N := some 54) (v := ?_) (a' := ?_) #[true, true, true, true, true, true, true, true, true, true, true, true, true, false, false] rfl rfl (take_ofW HT_.out HW_.out (by kernel_rfl)) (fun _ _ _ h => h) (Or.inl ⟨by rfl, ?_⟩) hHeld ?_ ?_
                              rotate_left
                              · rintro w' ⟨s0, s1, s2, s3, s4, s5, s6⟩
                                go_simp
                                with_reducible rfl
                              rotate_left
                              · simp only [Act.put, List.setIfInBounds_toArray, List.set_cons_zero, List.set_cons_succ, i64_w, i32_w]
                                rfl
                              refine one_ (i := 13) (N := some 55) #[true, true, true, true, true, true, true, true, true, true, true, true, true, true, false] rfl rfl (one_of HT_.out (by kernel_rfl)) (by decide) (fun K hK => ?_)
                              refine goes_ Try.func22 (by kernel_rfl) rfl #[.int .i64 (rd (rd_L4 t215 x9_1) x10_2), .int .i64 ((rd_T50 l2_2 x9_1).f0)] (by rfl) rfl rfl (by (try simp only [List.map_toArray, List.map_cons, List.map_nil]); first | done | rfl | (simp only [List.length_drop, List.length_take]; rfl)) ?_
                              with_reducible refine (serinetteref02_High.calls k2 (rd (rd_L4 t215 x9_1) x10_2) ((rd_T50 l2_2 x9_1).f0) t222 _ A20.out).mono ?_
                              rintro e w29 ⟨rfl, hb⟩
                              have HS3_ := (hb.cell (World.block_lt_of_cell? _ _ (hHeld.2.2.2.1))).trans (hHeld.2.2.2.1)
                              have HS4_ := (hb.cell (World.block_lt_of_cell? _ _ (hHeld.2.2.2.2.1))).trans (hHeld.2.2.2.2.1)
                              refine ⟨_, rfl, ?_⟩
                              have n0_ := zF.mk (Kd.N_below (by (with_reducible repeat (first | apply Kd.N_alloc | apply Kd.N_drewN | apply Kd.N_drew)); exact HO_8.out) hb)
                              have n1_ := zF.mk (Kd.V_below (by (with_reducible repeat (first | apply Kd.V_alloc | apply Kd.V_drewN | apply Kd.V_drew)); exact HL218_0.out) hb)
                              have n2_ := zF.mk (Kd.V_below (by (with_reducible repeat (first | apply Kd.V_alloc | apply Kd.V_drewN | apply Kd.V_drew)); exact HL219_0.out) hb)
                              have n3_ := zF.mk (blk_below (g := gb211) (o := .cells #[.bool a2_0, .int .i64 a2_1, .slice (some ad221) l2_2.length c2_2] 25 (0, 0)) (by (with_reducible repeat (first | refine zK ?_ _ | refine zL ?_ | refine zJ ?_ _)); exact BK211.out) hb)
                              have n4_ := zF.mk (Kd.C_below (by repeat (first | (with_reducible exact HR218_0.out) | (with_reducible refine Kd.zU ?_ _) | (with_reducible refine Kd.zS ?_ _) | (with_reducible refine Kd.zT ?_) | exact HR218_0.out)) hb)
                              have n5_ := zF.mk (Kd.C_below (by repeat (first | (with_reducible exact HR219_0.out) | (with_reducible refine Kd.zU ?_ _) | (with_reducible refine Kd.zS ?_ _) | (with_reducible refine Kd.zT ?_) | exact HR219_0.out)) hb)
                              have n6_ := zF.mk (below_step (by repeat (first | (with_reducible first | exact HB.out | apply zE | apply zB | apply zC | refine zD ?_ GE211.out) | exact HB.out)) hb)
                              clear HO_8
                              clear HL218_0
                              clear HL219_0
                              clear BK211
                              clear HR218_0
                              clear HR219_0
                              clear HB
                              have HO_8 := n0_
                              have HL218_0 := n1_
                              have HL219_0 := n2_
                              have BK211 := n3_
                              have HR218_0 := n4_
                              have HR219_0 := n5_
                              have HB := n6_
                              clear n0_ n1_ n2_ n3_ n4_ n5_ n6_
                              (try clear hb)
                              (try clear hb2)
                              (try clear hk)
                              (try clear hi)
                              refine hK.out _ _ ⟨(zM BK211.out 0).trans rfl, (zM BK211.out 1).trans rfl, (zM BK211.out 2).trans rfl, HS3_, HS4_, ((HB.out.cell (World.block_lt_of_cell? w _ hw221_0)).trans hw221_0), ((HB.out.cell (World.block_lt_of_cell? w _ hw221_1)).trans hw221_1)⟩ (fun hHeld => ?_)
                              clear hK K
                              refine norm_ (a' := ?_) ?_ ?_
                              rotate_left
                              · show Act.put _ (some 55) _ = _
                                simp only [Act.put, List.setIfInBounds_toArray, List.set_cons_zero, List.set_cons_succ, i64_w, i32_w]
                                rfl
                              refine pure_ (i := 14) (N := some 11) (v := ?_) (a' := ?_) #[true, true, true, true, true, true, true, true, true, true, true, true, true, true, true] rfl rfl (any_of HT_.out (by kernel_rfl)) (fun _ _ _ h => h) (Or.inl ⟨by rfl, ?_⟩) ?_ ?_
                              rotate_left
                              · intro w'
                                go_simp
                                with_reducible rfl
                              rotate_left
                              · simp only [Act.put, List.setIfInBounds_toArray, List.set_cons_zero, List.set_cons_succ, i64_w, i32_w]
                                rfl
                              refine done_ (done_of HT_.out (by kernel_rfl)) ?_
                              have hcz30_0 : w29.cell? ⟨gb211, 0, none⟩ = some (.bool a2_0) := (zM BK211.out 0).trans rfl
                              have hcz30_1 : w29.cell? ⟨gb211, 1, none⟩ = some (.int .i64 a2_1) := (zM BK211.out 1).trans rfl
                              have hcz30_2 : w29.cell? ⟨gb211, 2, none⟩ = some (.slice (some ad221) l2_2.length c2_2) := (zM BK211.out 2).trans rfl
                              have hfz30_0 := zN BK211.out 0
                              have hfz30_1 := zN BK211.out 1
                              have hfz30_2 := zN BK211.out 2
                              have p223 : 0 ≤ (x9_1 : Int) := of_decide_eq_true (by first | (with_reducible assumption) | assumption)
                              have q223 : x9_1 < (l2_2.length : Int) := of_decide_eq_true (by first | (with_reducible assumption) | assumption)
                              obtain ⟨ad223, e223, hx223_0, hx223_1⟩ := at_T50 HR2_2.out x9_1 p223 q223
                              (try rw [← Nbq21.out] at hx223_1); (try rw [← Nbq21.out] at hw223_1)
                              obtain rfl : ad221 = ad223 := (by injection e223)
                              replace hx223_0 := (HB.out.cell (World.block_lt_of_cell? w _ hx223_0)).trans hx223_0
                              replace hx223_1 := (HB.out.cell (World.block_lt_of_cell? w _ hx223_1)).trans hx223_1
                              replace p223 := eq_true p223
                              replace q223 := eq_true q223
                              try go_wp2
                              go_ret
                              exact ⟨by first | rfl | (simp [errW_none, errW_some] <;> rfl) | (simp [*, errW_none, errW_some] <;> rfl), by repeat (first | (with_reducible first | exact HB.out | apply zE | apply zB | apply zC | refine zD ?_ GE211.out) | exact HB.out)⟩
                            · rw [if_neg c27] at H
                              have c27b0 : decide (t222 ≤ 65535) = false := decide_eq_false c27
                              clear c27
                              have H' := zF.mk H
                              clear H
                              have p218 : 0 ≤ (x9_1 : Int) := of_decide_eq_true (by first | (with_reducible assumption) | assumption)
                              have q218 : x9_1 < (t215.length : Int) := of_decide_eq_true (by first | (with_reducible assumption) | assumption)
                              obtain ⟨ad218, A218_0, c218_0, e218, hx218_0, hl218_0, hi218_0⟩ := at_L4 (Kd.N_reads' HO_8.out).2.2 x9_1 p218 q218
                              cases e218
                              obtain ⟨ce218, hce218, hMe218, hcc218⟩ := Kd.N_get HO_8.out [] x9_1 p218 (by first | exact q218 | exact of_decide_eq_true (by first | (with_reducible assumption) | assumption) | (have e_ := (Kd.N_reads' HO_8.out).1; omega))
                              obtain ⟨ua218_0, uc218_0, rfl, ul218_0, ge218_0⟩ := Kd.FK_slice_open hMe218
                              have hv218_0 := hcc218 0 _ rfl
                              rw [Nat.add_zero, show ((Kd.slice 3 (Kd.int .i64))).sz = 1 from rfl, Nat.mul_one] at hv218_0
                              replace hv218_0 := Option.some.inj (hv218_0.symm.trans hx218_0)
                              injection hv218_0 with hva_ hvn_ hvc_
                              rw [hva_] at ge218_0
                              rw [hvc_] at ul218_0
                              have HL218_0 := zF.mk (show Kd.V (Kd.int .i64) 3 _ w.heap.size _ _ (rd_L4 t215 x9_1) from Kd.V_mk ul218_0 ge218_0)
                              clear hva_ hvn_ hvc_ ge218_0 ul218_0
                              clear hcc218 hce218
                              have HR218_0 := zF.mk hi218_0
                              have HC218_0 := zF.mk hl218_0
                              clear hi218_0 hl218_0
                              replace p218 := eq_true p218
                              replace q218 := eq_true q218
                              try go_wp2
                              have n0_ := zF.mk (Kd.N_drew HO_8.out)
                              have n1_ := zF.mk (Kd.V_drew HL218_0.out)
                              have n2_ := zF.mk (zL BK211.out)
                              have n3_ := zF.mk (Kd.zT HR218_0.out)
                              have n4_ := zF.mk (zC HB.out)
                              clear HO_8
                              clear HL218_0
                              clear BK211
                              clear HR218_0
                              clear HB
                              have HO_8 := n0_
                              have HL218_0 := n1_
                              have BK211 := n2_
                              have HR218_0 := n3_
                              have HB := n4_
                              clear n0_ n1_ n2_ n3_ n4_
                              have p219 : 0 ≤ (x9_1 : Int) := of_decide_eq_true (by first | (with_reducible assumption) | assumption)
                              have q219 : x9_1 < (t215.length : Int) := of_decide_eq_true (by first | (with_reducible assumption) | assumption)
                              obtain ⟨ad219, A219_0, c219_0, e219, hx219_0, hl219_0, hi219_0⟩ := at_L4 (Kd.N_reads' HO_8.out).2.2 x9_1 p219 q219
                              obtain rfl : ad218 = ad219 := (by injection e219)
                              obtain ⟨ce219, hce219, hMe219, hcc219⟩ := Kd.N_get HO_8.out [] x9_1 p219 (by first | exact q219 | exact of_decide_eq_true (by first | (with_reducible assumption) | assumption) | (have e_ := (Kd.N_reads' HO_8.out).1; omega))
                              obtain ⟨ua219_0, uc219_0, rfl, ul219_0, ge219_0⟩ := Kd.FK_slice_open hMe219
                              have hv219_0 := hcc219 0 _ rfl
                              rw [Nat.add_zero, show ((Kd.slice 3 (Kd.int .i64))).sz = 1 from rfl, Nat.mul_one] at hv219_0
                              replace hv219_0 := Option.some.inj (hv219_0.symm.trans hx219_0)
                              injection hv219_0 with hva_ hvn_ hvc_
                              rw [hva_] at ge219_0
                              rw [hvc_] at ul219_0
                              have HL219_0 := zF.mk (show Kd.V (Kd.int .i64) 3 _ w.heap.size _ _ (rd_L4 t215 x9_1) from Kd.V_mk ul219_0 ge219_0)
                              clear hva_ hvn_ hvc_ ge219_0 ul219_0
                              clear hcc219 hce219
                              have HR219_0 := zF.mk hi219_0
                              have HC219_0 := zF.mk hl219_0
                              clear hi219_0 hl219_0
                              replace p219 := eq_true p219
                              replace q219 := eq_true q219
                              have p220 : 0 ≤ (x10_2 : Int) := of_decide_eq_true (by first | (with_reducible assumption) | assumption)
                              have q220 : x10_2 < ((rd_L4 t215 x9_1).length : Int) := of_decide_eq_true (by first | (with_reducible assumption) | assumption)
                              obtain ⟨ad220, e220, hx220_0⟩ := Kd.at_int (by repeat (first | (with_reducible exact HR219_0.out) | (with_reducible refine Kd.zU ?_ _) | (with_reducible refine Kd.zS ?_ _) | (with_reducible refine Kd.zT ?_) | exact HR219_0.out)) x10_2 p220 q220
                              cases e220
                              replace p220 := eq_true p220
                              replace q220 := eq_true q220
                              have p221 : 0 ≤ (x9_1 : Int) := of_decide_eq_true (by first | (with_reducible assumption) | assumption)
                              have q221 : x9_1 < (l2_2.length : Int) := of_decide_eq_true (by first | (with_reducible assumption) | assumption)
                              obtain ⟨ad221, e221, hx221_0, hx221_1⟩ := at_T50 HR2_2.out x9_1 p221 q221
                              have hw221_1 := hx221_1
                              have hw221_0 := hx221_0
                              (try rw [← Nbq21.out] at hx221_1); (try rw [← Nbq21.out] at hw221_1)
                              cases e221
                              replace hx221_0 := (HB.out.cell (World.block_lt_of_cell? w _ hx221_0)).trans hx221_0
                              replace hx221_1 := (HB.out.cell (World.block_lt_of_cell? w _ hx221_1)).trans hx221_1
                              replace p221 := eq_true p221
                              replace q221 := eq_true q221
                              refine start_ (n := 15) (S := fun w' => w'.cell? ⟨gb211, 0, none⟩ = some (.bool a2_0) ∧ w'.cell? ⟨gb211, 1, none⟩ = some (.int .i64 a2_1) ∧ w'.cell? ⟨gb211, 2, none⟩ = some (.slice (some ad221) l2_2.length c2_2) ∧ w'.cell? (ad218.add (x9_1).toNat) = some (.slice (some ad220) (rd_L4 t215 x9_1).length c219_0) ∧ w'.cell? (ad220.add (x10_2).toNat) = some (.int .i64 (rd (rd_L4 t215 x9_1) x10_2)) ∧ w'.cell? (ad221.add ((x9_1).toNat * 2)) = some (.int .i64 ((rd_T50 l2_2 x9_1).f0)) ∧ w'.cell? ⟨(ad221.add ((x9_1).toNat * 2)).block, (ad221.add ((x9_1).toNat * 2)).off + 1, none⟩ = some (.bool false)) (ds := []) #[false, false, false, false, false, false, false, false, false, false, false, false, false, false, false] (by kernel_rfl) rfl rfl ⟨(zM BK211.out 0).trans rfl, (zM BK211.out 1).trans rfl, (zM BK211.out 2).trans rfl, hx219_0, hx220_0, ((HB.out.cell (World.block_lt_of_cell? w _ hw221_0)).trans hw221_0), ((HB.out.cell (World.block_lt_of_cell? w _ hw221_1)).trans hw221_1)⟩ (fun hHeld => ?_); refine with_tabW serinettelaw15_short.tab11 serinettelaw15_short.bits11 (fun HT_ HW_ => ?_)
                              generalize wr.drew = w31 at HO_8 HL218_0 BK211 HR218_0 HB HL219_0 HR219_0 hx219_0 hx220_0 hx221_0 hx221_1 hHeld ⊢
                              refine pure_ (i := 0) (N := some 42) (v := ?_) (a' := ?_) #[true, false, false, false, false, false, false, false, false, false, false, false, false, false, false] rfl rfl (any_of HT_.out (by kernel_rfl)) (fun _ _ _ h => h) (Or.inl ⟨by rfl, ?_⟩) ?_ ?_
                              rotate_left
                              · intro w'
                                go_simp
                                with_reducible rfl
                              rotate_left
                              · simp only [Act.put, List.setIfInBounds_toArray, List.set_cons_zero, List.set_cons_succ, i64_w, i32_w]
                                rfl
                              refine pure_ (i := 1) (N := some 43) (v := ?_) (a' := ?_) #[true, true, false, false, false, false, false, false, false, false, false, false, false, false, false] rfl rfl (any_of HT_.out (by kernel_rfl)) (fun _ _ _ h => h) (Or.inl ⟨by rfl, ?_⟩) ?_ ?_
                              rotate_left
                              · intro w'
                                go_simp
                                with_reducible rfl
                              rotate_left
                              · simp only [Act.put, List.setIfInBounds_toArray, List.set_cons_zero, List.set_cons_succ, i64_w, i32_w]
                                rfl
                              refine pure_ (i := 2) (N := some 44) (v := ?_) (a' := ?_) #[true, true, true, false, false, false, false, false, false, false, false, false, false, false, false] rfl rfl (any_of HT_.out (by kernel_rfl)) (fun _ _ _ h => h) (Or.inl ⟨by rfl, ?_⟩) ?_ ?_
                              rotate_left
                              · intro w'
                                go_simp
                                with_reducible rfl
                              rotate_left
                              · simp only [Act.put, List.setIfInBounds_toArray, List.set_cons_zero, List.set_cons_succ, i64_w, i32_w]
                                rfl
                              refine pure_ (i := 4) (N := some 46) (v := ?_) (a' := ?_) #[true, true, true, false, true, false, false, false, false, false, false, false, false, false, false] rfl rfl (any_of HT_.out (by kernel_rfl)) (fun _ _ _ h => h) (Or.inl ⟨by rfl, ?_⟩) ?_ ?_
                              rotate_left
                              · intro w'
                                go_simp
                                with_reducible rfl
                              rotate_left
                              · simp only [Act.put, List.setIfInBounds_toArray, List.set_cons_zero, List.set_cons_succ, i64_w, i32_w]
                                rfl
                              refine pure_ (i := 7) (N := some 49) (v := ?_) (a' := ?_) #[true, true, true, false, true, false, false, true, false, false, false, false, false, false, false] rfl rfl (any_of HT_.out (by kernel_rfl)) (fun _ _ _ h => h) (Or.inl ⟨by rfl, ?_⟩) ?_ ?_
                              rotate_left
                              · intro w'
                                go_simp
                                with_reducible rfl
                              rotate_left
                              · simp only [Act.put, List.setIfInBounds_toArray, List.set_cons_zero, List.set_cons_succ, i64_w, i32_w]
                                rfl
                              refine pure_ (i := 9) (N := some 51) (v := ?_) (a' := ?_) #[true, true, true, false, true, false, false, true, false, true, false, false, false, false, false] rfl rfl (any_of HT_.out (by kernel_rfl)) (fun _ _ _ h => h) (Or.inl ⟨by rfl, ?_⟩) ?_ ?_
                              rotate_left
                              · intro w'
                                go_simp
                                with_reducible rfl
                              rotate_left
                              · simp only [Act.put, List.setIfInBounds_toArray, List.set_cons_zero, List.set_cons_succ, i64_w, i32_w]
                                rfl
                              refine take_ (i := 3) (N := some 45) (v := ?_) (a' := ?_) #[true, true, true, true, true, false, false, true, false, true, false, false, false, false, false] rfl rfl (take_ofW HT_.out HW_.out (by kernel_rfl)) (fun _ _ _ h => h) (Or.inl ⟨by rfl, ?_⟩) hHeld ?_ ?_
                              rotate_left
                              · rintro w' ⟨s0, s1, s2, s3, s4, s5, s6⟩
                                go_simp
                                with_reducible rfl
                              rotate_left
                              · simp only [Act.put, List.setIfInBounds_toArray, List.set_cons_zero, List.set_cons_succ, i64_w, i32_w]
                                rfl
                              refine pure_ (i := 5) (N := some 47) (v := ?_) (a' := ?_) #[true, true, true, true, true, true, false, true, false, true, false, false, false, false, false] rfl rfl (any_of HT_.out (by kernel_rfl)) (fun _ _ _ h => h) (Or.inl ⟨by rfl, ?_⟩) ?_ ?_
                              rotate_left
                              · intro w'
                                go_simp
                                with_reducible rfl
                              rotate_left
                              · simp only [Act.put, List.setIfInBounds_toArray, List.set_cons_zero, List.set_cons_succ, i64_w, i32_w]
                                rfl
                              refine take_ (i := 6) (N := some 48) (v := ?_) (a' := ?_) #[true, true, true, true, true, true, true, true, false, true, false, false, false, false, false] rfl rfl (take_ofW HT_.out HW_.out (by kernel_rfl)) (fun _ _ _ h => h) (Or.inl ⟨by rfl, ?_⟩) hHeld ?_ ?_
                              rotate_left
                              · rintro w' ⟨s0, s1, s2, s3, s4, s5, s6⟩
                                go_simp
                                with_reducible rfl
                              rotate_left
                              · simp only [Act.put, List.setIfInBounds_toArray, List.set_cons_zero, List.set_cons_succ, i64_w, i32_w]
                                rfl
                              refine take_ (i := 8) (N := some 50) (v := ?_) (a' := ?_) #[true, true, true, true, true, true, true, true, true, true, false, false, false, false, false] rfl rfl (take_ofW HT_.out HW_.out (by kernel_rfl)) (fun _ _ _ h => h) (Or.inl ⟨by rfl, ?_⟩) hHeld ?_ ?_
                              rotate_left
                              · rintro w' ⟨s0, s1, s2, s3, s4, s5, s6⟩
                                go_simp
                                with_reducible rfl
                              rotate_left
                              · simp only [Act.put, List.setIfInBounds_toArray, List.set_cons_zero, List.set_cons_succ, i64_w, i32_w]
                                rfl
                              refine pure_ (i := 10) (N := some 52) (v := ?_) (a' := ?_) #[true, true, true, true, true, true, true, true, true, true, true, false, false, false, false] rfl rfl (any_of HT_.out (by kernel_rfl)) (fun _ _ _ h => h) (Or.inl ⟨by rfl, ?_⟩) ?_ ?_
                              rotate_left
                              · intro w'
                                go_simp
                                with_reducible rfl
                              rotate_left
                              · simp only [Act.put, List.setIfInBounds_toArray, List.set_cons_zero, List.set_cons_succ, i64_w, i32_w]
                                rfl
                              refine pure_ (i := 11) (N := some 53) (v := ?_) (a' := ?_) #[true, true, true, true, true, true, true, true, true, true, true, true, false, false, false] rfl rfl (any_of HT_.out (by kernel_rfl)) (fun _ _ _ h => h) (Or.inl ⟨by rfl, ?_⟩) ?_ ?_
                              rotate_left
                              · intro w'
                                go_simp
                                with_reducible rfl
                              rotate_left
                              · simp only [Act.put, List.setIfInBounds_toArray, List.set_cons_zero, List.set_cons_succ, i64_w, i32_w]
                                rfl
                              refine take_ (i := 12) (N := some 54) (v := ?_) (a' := ?_) #[true, true, true, true, true, true, true, true, true, true, true, true, true, false, false] rfl rfl (take_ofW HT_.out HW_.out (by kernel_rfl)) (fun _ _ _ h => h) (Or.inl ⟨by rfl, ?_⟩) hHeld ?_ ?_
                              rotate_left
                              · rintro w' ⟨s0, s1, s2, s3, s4, s5, s6⟩
                                go_simp
                                with_reducible rfl
                              rotate_left
                              · simp only [Act.put, List.setIfInBounds_toArray, List.set_cons_zero, List.set_cons_succ, i64_w, i32_w]
                                rfl
                              refine one_ (i := 13) (N := some 55) #[true, true, true, true, true, true, true, true, true, true, true, true, true, true, false] rfl rfl (one_of HT_.out (by kernel_rfl)) (by decide) (fun K hK => ?_)
                              refine goes_ Try.func22 (by kernel_rfl) rfl #[.int .i64 (rd (rd_L4 t215 x9_1) x10_2), .int .i64 ((rd_T50 l2_2 x9_1).f0)] (by rfl) rfl rfl (by (try simp only [List.map_toArray, List.map_cons, List.map_nil]); first | done | rfl | (simp only [List.length_drop, List.length_take]; rfl)) ?_
                              with_reducible refine (serinetteref02_High.calls k2 (rd (rd_L4 t215 x9_1) x10_2) ((rd_T50 l2_2 x9_1).f0) t222 _ A20.out).mono ?_
                              rintro e w32 ⟨rfl, hb⟩
                              have HS3_ := (hb.cell (World.block_lt_of_cell? _ _ (hHeld.2.2.2.1))).trans (hHeld.2.2.2.1)
                              have HS4_ := (hb.cell (World.block_lt_of_cell? _ _ (hHeld.2.2.2.2.1))).trans (hHeld.2.2.2.2.1)
                              refine ⟨_, rfl, ?_⟩
                              have n0_ := zF.mk (Kd.N_below (by (with_reducible repeat (first | apply Kd.N_alloc | apply Kd.N_drewN | apply Kd.N_drew)); exact HO_8.out) hb)
                              have n1_ := zF.mk (Kd.V_below (by (with_reducible repeat (first | apply Kd.V_alloc | apply Kd.V_drewN | apply Kd.V_drew)); exact HL218_0.out) hb)
                              have n2_ := zF.mk (Kd.V_below (by (with_reducible repeat (first | apply Kd.V_alloc | apply Kd.V_drewN | apply Kd.V_drew)); exact HL219_0.out) hb)
                              have n3_ := zF.mk (blk_below (g := gb211) (o := .cells #[.bool a2_0, .int .i64 a2_1, .slice (some ad221) l2_2.length c2_2] 25 (0, 0)) (by (with_reducible repeat (first | refine zK ?_ _ | refine zL ?_ | refine zJ ?_ _)); exact BK211.out) hb)
                              have n4_ := zF.mk (Kd.C_below (by repeat (first | (with_reducible exact HR218_0.out) | (with_reducible refine Kd.zU ?_ _) | (with_reducible refine Kd.zS ?_ _) | (with_reducible refine Kd.zT ?_) | exact HR218_0.out)) hb)
                              have n5_ := zF.mk (Kd.C_below (by repeat (first | (with_reducible exact HR219_0.out) | (with_reducible refine Kd.zU ?_ _) | (with_reducible refine Kd.zS ?_ _) | (with_reducible refine Kd.zT ?_) | exact HR219_0.out)) hb)
                              have n6_ := zF.mk (below_step (by repeat (first | (with_reducible first | exact HB.out | apply zE | apply zB | apply zC | refine zD ?_ GE211.out) | exact HB.out)) hb)
                              clear HO_8
                              clear HL218_0
                              clear HL219_0
                              clear BK211
                              clear HR218_0
                              clear HR219_0
                              clear HB
                              have HO_8 := n0_
                              have HL218_0 := n1_
                              have HL219_0 := n2_
                              have BK211 := n3_
                              have HR218_0 := n4_
                              have HR219_0 := n5_
                              have HB := n6_
                              clear n0_ n1_ n2_ n3_ n4_ n5_ n6_
                              (try clear hb)
                              (try clear hb2)
                              (try clear hk)
                              (try clear hi)
                              refine hK.out _ _ ⟨(zM BK211.out 0).trans rfl, (zM BK211.out 1).trans rfl, (zM BK211.out 2).trans rfl, HS3_, HS4_, ((HB.out.cell (World.block_lt_of_cell? w _ hw221_0)).trans hw221_0), ((HB.out.cell (World.block_lt_of_cell? w _ hw221_1)).trans hw221_1)⟩ (fun hHeld => ?_)
                              clear hK K
                              refine norm_ (a' := ?_) ?_ ?_
                              rotate_left
                              · show Act.put _ (some 55) _ = _
                                simp only [Act.put, List.setIfInBounds_toArray, List.set_cons_zero, List.set_cons_succ, i64_w, i32_w]
                                rfl
                              refine pure_ (i := 14) (N := some 11) (v := ?_) (a' := ?_) #[true, true, true, true, true, true, true, true, true, true, true, true, true, true, true] rfl rfl (any_of HT_.out (by kernel_rfl)) (fun _ _ _ h => h) (Or.inl ⟨by rfl, ?_⟩) ?_ ?_
                              rotate_left
                              · intro w'
                                go_simp
                                with_reducible rfl
                              rotate_left
                              · simp only [Act.put, List.setIfInBounds_toArray, List.set_cons_zero, List.set_cons_succ, i64_w, i32_w]
                                rfl
                              refine done_ (done_of HT_.out (by kernel_rfl)) ?_
                              have hcz33_0 : w32.cell? ⟨gb211, 0, none⟩ = some (.bool a2_0) := (zM BK211.out 0).trans rfl
                              have hcz33_1 : w32.cell? ⟨gb211, 1, none⟩ = some (.int .i64 a2_1) := (zM BK211.out 1).trans rfl
                              have hcz33_2 : w32.cell? ⟨gb211, 2, none⟩ = some (.slice (some ad221) l2_2.length c2_2) := (zM BK211.out 2).trans rfl
                              have hfz33_0 := zN BK211.out 0
                              have hfz33_1 := zN BK211.out 1
                              have hfz33_2 := zN BK211.out 2
                              have p223 : 0 ≤ (x9_1 : Int) := of_decide_eq_true (by first | (with_reducible assumption) | assumption)
                              have q223 : x9_1 < (l2_2.length : Int) := of_decide_eq_true (by first | (with_reducible assumption) | assumption)
                              obtain ⟨ad223, e223, hx223_0, hx223_1⟩ := at_T50 HR2_2.out x9_1 p223 q223
                              (try rw [← Nbq21.out] at hx223_1); (try rw [← Nbq21.out] at hw223_1)
                              obtain rfl : ad221 = ad223 := (by injection e223)
                              replace hx223_0 := (HB.out.cell (World.block_lt_of_cell? w _ hx223_0)).trans hx223_0
                              replace hx223_1 := (HB.out.cell (World.block_lt_of_cell? w _ hx223_1)).trans hx223_1
                              replace p223 := eq_true p223
                              replace q223 := eq_true q223
                              try go_wp2
                              go_roundg k2
                              case measure => have := HK1.out; have := HK2.out; omega
                              case rel => exact ⟨(wrap64 (x10_2 + 1)), (by first | rfl | (simp; done) | (simp only [i64_w, i32_w]; done) | (simp [*]; done) | (simp only [i64_w, i32_w]; first | rfl | (simp; done) | (simp [*]; done))), H', ⟨by have := HK1.out; have := HK2.out; omega⟩, ⟨by (with_reducible repeat (first | apply Kd.N_alloc | apply Kd.N_drewN | apply Kd.N_drew)); exact HO_8.out⟩, ⟨by (with_reducible repeat (first | refine zK ?_ _ | refine zL ?_ | refine zJ ?_ _)); exact BK211.out⟩, ⟨by repeat (first | (with_reducible first | exact HB.out | apply zE | apply zB | apply zC | refine zD ?_ GE211.out) | exact HB.out)⟩⟩
                          · rw [if_neg c26] at H
                            have c26b0 : decide (300 < t222) = false := decide_eq_false c26
                            clear c26
                            have H' := zF.mk H
                            clear H
                            have p218 : 0 ≤ (x9_1 : Int) := of_decide_eq_true (by first | (with_reducible assumption) | assumption)
                            have q218 : x9_1 < (t215.length : Int) := of_decide_eq_true (by first | (with_reducible assumption) | assumption)
                            obtain ⟨ad218, A218_0, c218_0, e218, hx218_0, hl218_0, hi218_0⟩ := at_L4 (Kd.N_reads' HO_8.out).2.2 x9_1 p218 q218
                            cases e218
                            obtain ⟨ce218, hce218, hMe218, hcc218⟩ := Kd.N_get HO_8.out [] x9_1 p218 (by first | exact q218 | exact of_decide_eq_true (by first | (with_reducible assumption) | assumption) | (have e_ := (Kd.N_reads' HO_8.out).1; omega))
                            obtain ⟨ua218_0, uc218_0, rfl, ul218_0, ge218_0⟩ := Kd.FK_slice_open hMe218
                            have hv218_0 := hcc218 0 _ rfl
                            rw [Nat.add_zero, show ((Kd.slice 3 (Kd.int .i64))).sz = 1 from rfl, Nat.mul_one] at hv218_0
                            replace hv218_0 := Option.some.inj (hv218_0.symm.trans hx218_0)
                            injection hv218_0 with hva_ hvn_ hvc_
                            rw [hva_] at ge218_0
                            rw [hvc_] at ul218_0
                            have HL218_0 := zF.mk (show Kd.V (Kd.int .i64) 3 _ w.heap.size _ _ (rd_L4 t215 x9_1) from Kd.V_mk ul218_0 ge218_0)
                            clear hva_ hvn_ hvc_ ge218_0 ul218_0
                            clear hcc218 hce218
                            have HR218_0 := zF.mk hi218_0
                            have HC218_0 := zF.mk hl218_0
                            clear hi218_0 hl218_0
                            replace p218 := eq_true p218
                            replace q218 := eq_true q218
                            try go_wp2
                            have n0_ := zF.mk (Kd.N_drew HO_8.out)
                            have n1_ := zF.mk (Kd.V_drew HL218_0.out)
                            have n2_ := zF.mk (zL BK211.out)
                            have n3_ := zF.mk (Kd.zT HR218_0.out)
                            have n4_ := zF.mk (zC HB.out)
                            clear HO_8
                            clear HL218_0
                            clear BK211
                            clear HR218_0
                            clear HB
                            have HO_8 := n0_
                            have HL218_0 := n1_
                            have BK211 := n2_
                            have HR218_0 := n3_
                            have HB := n4_
                            clear n0_ n1_ n2_ n3_ n4_
                            have p219 : 0 ≤ (x9_1 : Int) := of_decide_eq_true (by first | (with_reducible assumption) | assumption)
                            have q219 : x9_1 < (t215.length : Int) := of_decide_eq_true (by first | (with_reducible assumption) | assumption)
                            obtain ⟨ad219, A219_0, c219_0, e219, hx219_0, hl219_0, hi219_0⟩ := at_L4 (Kd.N_reads' HO_8.out).2.2 x9_1 p219 q219
                            obtain rfl : ad218 = ad219 := (by injection e219)
                            obtain ⟨ce219, hce219, hMe219, hcc219⟩ := Kd.N_get HO_8.out [] x9_1 p219 (by first | exact q219 | exact of_decide_eq_true (by first | (with_reducible assumption) | assumption) | (have e_ := (Kd.N_reads' HO_8.out).1; omega))
                            obtain ⟨ua219_0, uc219_0, rfl, ul219_0, ge219_0⟩ := Kd.FK_slice_open hMe219
                            have hv219_0 := hcc219 0 _ rfl
                            rw [Nat.add_zero, show ((Kd.slice 3 (Kd.int .i64))).sz = 1 from rfl, Nat.mul_one] at hv219_0
                            replace hv219_0 := Option.some.inj (hv219_0.symm.trans hx219_0)
                            injection hv219_0 with hva_ hvn_ hvc_
                            rw [hva_] at ge219_0
                            rw [hvc_] at ul219_0
                            have HL219_0 := zF.mk (show Kd.V (Kd.int .i64) 3 _ w.heap.size _ _ (rd_L4 t215 x9_1) from Kd.V_mk ul219_0 ge219_0)
                            clear hva_ hvn_ hvc_ ge219_0 ul219_0
                            clear hcc219 hce219
                            have HR219_0 := zF.mk hi219_0
                            have HC219_0 := zF.mk hl219_0
                            clear hi219_0 hl219_0
                            replace p219 := eq_true p219
                            replace q219 := eq_true q219
                            have p220 : 0 ≤ (x10_2 : Int) := of_decide_eq_true (by first | (with_reducible assumption) | assumption)
                            have q220 : x10_2 < ((rd_L4 t215 x9_1).length : Int) := of_decide_eq_true (by first | (with_reducible assumption) | assumption)
                            obtain ⟨ad220, e220, hx220_0⟩ := Kd.at_int (by repeat (first | (with_reducible exact HR219_0.out) | (with_reducible refine Kd.zU ?_ _) | (with_reducible refine Kd.zS ?_ _) | (with_reducible refine Kd.zT ?_) | exact HR219_0.out)) x10_2 p220 q220
                            cases e220
                            replace p220 := eq_true p220
                            replace q220 := eq_true q220
                            have p221 : 0 ≤ (x9_1 : Int) := of_decide_eq_true (by first | (with_reducible assumption) | assumption)
                            have q221 : x9_1 < (l2_2.length : Int) := of_decide_eq_true (by first | (with_reducible assumption) | assumption)
                            obtain ⟨ad221, e221, hx221_0, hx221_1⟩ := at_T50 HR2_2.out x9_1 p221 q221
                            have hw221_1 := hx221_1
                            have hw221_0 := hx221_0
                            (try rw [← Nbq21.out] at hx221_1); (try rw [← Nbq21.out] at hw221_1)
                            cases e221
                            replace hx221_0 := (HB.out.cell (World.block_lt_of_cell? w _ hx221_0)).trans hx221_0
                            replace hx221_1 := (HB.out.cell (World.block_lt_of_cell? w _ hx221_1)).trans hx221_1
                            replace p221 := eq_true p221
                            replace q221 := eq_true q221
                            refine start_ (n := 15) (S := fun w' => w'.cell? ⟨gb211, 0, none⟩ = some (.bool a2_0) ∧ w'.cell? ⟨gb211, 1, none⟩ = some (.int .i64 a2_1) ∧ w'.cell? ⟨gb211, 2, none⟩ = some (.slice (some ad221) l2_2.length c2_2) ∧ w'.cell? (ad218.add (x9_1).toNat) = some (.slice (some ad220) (rd_L4 t215 x9_1).length c219_0) ∧ w'.cell? (ad220.add (x10_2).toNat) = some (.int .i64 (rd (rd_L4 t215 x9_1) x10_2)) ∧ w'.cell? (ad221.add ((x9_1).toNat * 2)) = some (.int .i64 ((rd_T50 l2_2 x9_1).f0)) ∧ w'.cell? ⟨(ad221.add ((x9_1).toNat * 2)).block, (ad221.add ((x9_1).toNat * 2)).off + 1, none⟩ = some (.bool false)) (ds := []) #[false, false, false, false, false, false, false, false, false, false, false, false, false, false, false] (by kernel_rfl) rfl rfl ⟨(zM BK211.out 0).trans rfl, (zM BK211.out 1).trans rfl, (zM BK211.out 2).trans rfl, hx219_0, hx220_0, ((HB.out.cell (World.block_lt_of_cell? w _ hw221_0)).trans hw221_0), ((HB.out.cell (World.block_lt_of_cell? w _ hw221_1)).trans hw221_1)⟩ (fun hHeld => ?_); refine with_tabW serinettelaw15_short.tab11 serinettelaw15_short.bits11 (fun HT_ HW_ => ?_)
                            generalize wr.drew = w34 at HO_8 HL218_0 BK211 HR218_0 HB HL219_0 HR219_0 hx219_0 hx220_0 hx221_0 hx221_1 hHeld ⊢
                            refine pure_ (i := 0) (N := some 42) (v := ?_) (a' := ?_) #[true, false, false, false, false, false, false, false, false, false, false, false, false, false, false] rfl rfl (any_of HT_.out (by kernel_rfl)) (fun _ _ _ h => h) (Or.inl ⟨by rfl, ?_⟩) ?_ ?_
                            rotate_left
                            · intro w'
                              go_simp
                              with_reducible rfl
                            rotate_left
                            · simp only [Act.put, List.setIfInBounds_toArray, List.set_cons_zero, List.set_cons_succ, i64_w, i32_w]
                              rfl
                            refine pure_ (i := 1) (N := some 43) (v := ?_) (a' := ?_) #[true, true, false, false, false, false, false, false, false, false, false, false, false, false, false] rfl rfl (any_of HT_.out (by kernel_rfl)) (fun _ _ _ h => h) (Or.inl ⟨by rfl, ?_⟩) ?_ ?_
                            rotate_left
                            · intro w'
                              go_simp
                              with_reducible rfl
                            rotate_left
                            · simp only [Act.put, List.setIfInBounds_toArray, List.set_cons_zero, List.set_cons_succ, i64_w, i32_w]
                              rfl
                            refine pure_ (i := 2) (N := some 44) (v := ?_) (a' := ?_) #[true, true, true, false, false, false, false, false, false, false, false, false, false, false, false] rfl rfl (any_of HT_.out (by kernel_rfl)) (fun _ _ _ h => h) (Or.inl ⟨by rfl, ?_⟩) ?_ ?_
                            rotate_left
                            · intro w'
                              go_simp
                              with_reducible rfl
                            rotate_left
                            · simp only [Act.put, List.setIfInBounds_toArray, List.set_cons_zero, List.set_cons_succ, i64_w, i32_w]
                              rfl
                            refine pure_ (i := 4) (N := some 46) (v := ?_) (a' := ?_) #[true, true, true, false, true, false, false, false, false, false, false, false, false, false, false] rfl rfl (any_of HT_.out (by kernel_rfl)) (fun _ _ _ h => h) (Or.inl ⟨by rfl, ?_⟩) ?_ ?_
                            rotate_left
                            · intro w'
                              go_simp
                              with_reducible rfl
                            rotate_left
                            · simp only [Act.put, List.setIfInBounds_toArray, List.set_cons_zero, List.set_cons_succ, i64_w, i32_w]
                              rfl
                            refine pure_ (i := 7) (N := some 49) (v := ?_) (a' := ?_) #[true, true, true, false, true, false, false, true, false, false, false, false, false, false, false] rfl rfl (any_of HT_.out (by kernel_rfl)) (fun _ _ _ h => h) (Or.inl ⟨by rfl, ?_⟩) ?_ ?_
                            rotate_left
                            · intro w'
                              go_simp
                              with_reducible rfl
                            rotate_left
                            · simp only [Act.put, List.setIfInBounds_toArray, List.set_cons_zero, List.set_cons_succ, i64_w, i32_w]
                              rfl
                            refine pure_ (i := 9) (N := some 51) (v := ?_) (a' := ?_) #[true, true, true, false, true, false, false, true, false, true, false, false, false, false, false] rfl rfl (any_of HT_.out (by kernel_rfl)) (fun _ _ _ h => h) (Or.inl ⟨by rfl, ?_⟩) ?_ ?_
                            rotate_left
                            · intro w'
                              go_simp
                              with_reducible rfl
                            rotate_left
                            · simp only [Act.put, List.setIfInBounds_toArray, List.set_cons_zero, List.set_cons_succ, i64_w, i32_w]
                              rfl
                            refine take_ (i := 3) (N := some 45) (v := ?_) (a' := ?_) #[true, true, true, true, true, false, false, true, false, true, false, false, false, false, false] rfl rfl (take_ofW HT_.out HW_.out (by kernel_rfl)) (fun _ _ _ h => h) (Or.inl ⟨by rfl, ?_⟩) hHeld ?_ ?_
                            rotate_left
                            · rintro w' ⟨s0, s1, s2, s3, s4, s5, s6⟩
                              go_simp
                              with_reducible rfl
                            rotate_left
                            · simp only [Act.put, List.setIfInBounds_toArray, List.set_cons_zero, List.set_cons_succ, i64_w, i32_w]
                              rfl
                            refine pure_ (i := 5) (N := some 47) (v := ?_) (a' := ?_) #[true, true, true, true, true, true, false, true, false, true, false, false, false, false, false] rfl rfl (any_of HT_.out (by kernel_rfl)) (fun _ _ _ h => h) (Or.inl ⟨by rfl, ?_⟩) ?_ ?_
                            rotate_left
                            · intro w'
                              go_simp
                              with_reducible rfl
                            rotate_left
                            · simp only [Act.put, List.setIfInBounds_toArray, List.set_cons_zero, List.set_cons_succ, i64_w, i32_w]
                              rfl
                            refine take_ (i := 6) (N := some 48) (v := ?_) (a' := ?_) #[true, true, true, true, true, true, true, true, false, true, false, false, false, false, false] rfl rfl (take_ofW HT_.out HW_.out (by kernel_rfl)) (fun _ _ _ h => h) (Or.inl ⟨by rfl, ?_⟩) hHeld ?_ ?_
                            rotate_left
                            · rintro w' ⟨s0, s1, s2, s3, s4, s5, s6⟩
                              go_simp
                              with_reducible rfl
                            rotate_left
                            · simp only [Act.put, List.setIfInBounds_toArray, List.set_cons_zero, List.set_cons_succ, i64_w, i32_w]
                              rfl
                            refine take_ (i := 8) (N := some 50) (v := ?_) (a' := ?_) #[true, true, true, true, true, true, true, true, true, true, false, false, false, false, false] rfl rfl (take_ofW HT_.out HW_.out (by kernel_rfl)) (fun _ _ _ h => h) (Or.inl ⟨by rfl, ?_⟩) hHeld ?_ ?_
                            rotate_left
                            · rintro w' ⟨s0, s1, s2, s3, s4, s5, s6⟩
                              go_simp
                              with_reducible rfl
                            rotate_left
                            · simp only [Act.put, List.setIfInBounds_toArray, List.set_cons_zero, List.set_cons_succ, i64_w, i32_w]
                              rfl
                            refine pure_ (i := 10) (N := some 52) (v := ?_) (a' := ?_) #[true, true, true, true, true, true, true, true, true, true, true, false, false, false, false] rfl rfl (any_of HT_.out (by kernel_rfl)) (fun _ _ _ h => h) (Or.inl ⟨by rfl, ?_⟩) ?_ ?_
                            rotate_left
                            · intro w'
                              go_simp
                              with_reducible rfl
                            rotate_left
                            · simp only [Act.put, List.setIfInBounds_toArray, List.set_cons_zero, List.set_cons_succ, i64_w, i32_w]
                              rfl
                            refine pure_ (i := 11) (N := some 53) (v := ?_) (a' := ?_) #[true, true, true, true, true, true, true, true, true, true, true, true, false, false, false] rfl rfl (any_of HT_.out (by kernel_rfl)) (fun _ _ _ h => h) (Or.inl ⟨by rfl, ?_⟩) ?_ ?_
                            rotate_left
                            · intro w'
                              go_simp
                              with_reducible rfl
                            rotate_left
                            · simp only [Act.put, List.setIfInBounds_toArray, List.set_cons_zero, List.set_cons_succ, i64_w, i32_w]
                              rfl
                            refine take_ (i := 12) (N := some 54) (v := ?_) (a' := ?_) #[true, true, true, true, true, true, true, true, true, true, true, true, true, false, false] rfl rfl (take_ofW HT_.out HW_.out (by kernel_rfl)) (fun _ _ _ h => h) (Or.inl ⟨by rfl, ?_⟩) hHeld ?_ ?_
                            rotate_left
                            · rintro w' ⟨s0, s1, s2, s3, s4, s5, s6⟩
                              go_simp
                              with_reducible rfl
                            rotate_left
                            · simp only [Act.put, List.setIfInBounds_toArray, List.set_cons_zero, List.set_cons_succ, i64_w, i32_w]
                              rfl
                            refine one_ (i := 13) (N := some 55) #[true, true, true, true, true, true, true, true, true, true, true, true, true, true, false] rfl rfl (one_of HT_.out (by kernel_rfl)) (by decide) (fun K hK => ?_)
                            refine goes_ Try.func22 (by kernel_rfl) rfl #[.int .i64 (rd (rd_L4 t215 x9_1) x10_2), .int .i64 ((rd_T50 l2_2 x9_1).f0)] (by rfl) rfl rfl (by (try simp only [List.map_toArray, List.map_cons, List.map_nil]); first | done | rfl | (simp only [List.length_drop, List.length_take]; rfl)) ?_
                            with_reducible refine (serinetteref02_High.calls k2 (rd (rd_L4 t215 x9_1) x10_2) ((rd_T50 l2_2 x9_1).f0) t222 _ A20.out).mono ?_
                            rintro e w35 ⟨rfl, hb⟩
                            have HS3_ := (hb.cell (World.block_lt_of_cell? _ _ (hHeld.2.2.2.1))).trans (hHeld.2.2.2.1)
                            have HS4_ := (hb.cell (World.block_lt_of_cell? _ _ (hHeld.2.2.2.2.1))).trans (hHeld.2.2.2.2.1)
                            refine ⟨_, rfl, ?_⟩
                            have n0_ := zF.mk (Kd.N_below (by (with_reducible repeat (first | apply Kd.N_alloc | apply Kd.N_drewN | apply Kd.N_drew)); exact HO_8.out) hb)
                            have n1_ := zF.mk (Kd.V_below (by (with_reducible repeat (first | apply Kd.V_alloc | apply Kd.V_drewN | apply Kd.V_drew)); exact HL218_0.out) hb)
                            have n2_ := zF.mk (Kd.V_below (by (with_reducible repeat (first | apply Kd.V_alloc | apply Kd.V_drewN | apply Kd.V_drew)); exact HL219_0.out) hb)
                            have n3_ := zF.mk (blk_below (g := gb211) (o := .cells #[.bool a2_0, .int .i64 a2_1, .slice (some ad221) l2_2.length c2_2] 25 (0, 0)) (by (with_reducible repeat (first | refine zK ?_ _ | refine zL ?_ | refine zJ ?_ _)); exact BK211.out) hb)
                            have n4_ := zF.mk (Kd.C_below (by repeat (first | (with_reducible exact HR218_0.out) | (with_reducible refine Kd.zU ?_ _) | (with_reducible refine Kd.zS ?_ _) | (with_reducible refine Kd.zT ?_) | exact HR218_0.out)) hb)
                            have n5_ := zF.mk (Kd.C_below (by repeat (first | (with_reducible exact HR219_0.out) | (with_reducible refine Kd.zU ?_ _) | (with_reducible refine Kd.zS ?_ _) | (with_reducible refine Kd.zT ?_) | exact HR219_0.out)) hb)
                            have n6_ := zF.mk (below_step (by repeat (first | (with_reducible first | exact HB.out | apply zE | apply zB | apply zC | refine zD ?_ GE211.out) | exact HB.out)) hb)
                            clear HO_8
                            clear HL218_0
                            clear HL219_0
                            clear BK211
                            clear HR218_0
                            clear HR219_0
                            clear HB
                            have HO_8 := n0_
                            have HL218_0 := n1_
                            have HL219_0 := n2_
                            have BK211 := n3_
                            have HR218_0 := n4_
                            have HR219_0 := n5_
                            have HB := n6_
                            clear n0_ n1_ n2_ n3_ n4_ n5_ n6_
                            (try clear hb)
                            (try clear hb2)
                            (try clear hk)
                            (try clear hi)
                            refine hK.out _ _ ⟨(zM BK211.out 0).trans rfl, (zM BK211.out 1).trans rfl, (zM BK211.out 2).trans rfl, HS3_, HS4_, ((HB.out.cell (World.block_lt_of_cell? w _ hw221_0)).trans hw221_0), ((HB.out.cell (World.block_lt_of_cell? w _ hw221_1)).trans hw221_1)⟩ (fun hHeld => ?_)
                            clear hK K
                            refine norm_ (a' := ?_) ?_ ?_
                            rotate_left
                            · show Act.put _ (some 55) _ = _
                              simp only [Act.put, List.setIfInBounds_toArray, List.set_cons_zero, List.set_cons_succ, i64_w, i32_w]
                              rfl
                            refine pure_ (i := 14) (N := some 11) (v := ?_) (a' := ?_) #[true, true, true, true, true, true, true, true, true, true, true, true, true, true, true] rfl rfl (any_of HT_.out (by kernel_rfl)) (fun _ _ _ h => h) (Or.inl ⟨by rfl, ?_⟩) ?_ ?_
                            rotate_left
                            · intro w'
                              go_simp
                              with_reducible rfl
                            rotate_left
                            · simp only [Act.put, List.setIfInBounds_toArray, List.set_cons_zero, List.set_cons_succ, i64_w, i32_w]
                              rfl
                            refine done_ (done_of HT_.out (by kernel_rfl)) ?_
                            have hcz36_0 : w35.cell? ⟨gb211, 0, none⟩ = some (.bool a2_0) := (zM BK211.out 0).trans rfl
                            have hcz36_1 : w35.cell? ⟨gb211, 1, none⟩ = some (.int .i64 a2_1) := (zM BK211.out 1).trans rfl
                            have hcz36_2 : w35.cell? ⟨gb211, 2, none⟩ = some (.slice (some ad221) l2_2.length c2_2) := (zM BK211.out 2).trans rfl
                            have hfz36_0 := zN BK211.out 0
                            have hfz36_1 := zN BK211.out 1
                            have hfz36_2 := zN BK211.out 2
                            have p223 : 0 ≤ (x9_1 : Int) := of_decide_eq_true (by first | (with_reducible assumption) | assumption)
                            have q223 : x9_1 < (l2_2.length : Int) := of_decide_eq_true (by first | (with_reducible assumption) | assumption)
                            obtain ⟨ad223, e223, hx223_0, hx223_1⟩ := at_T50 HR2_2.out x9_1 p223 q223
                            (try rw [← Nbq21.out] at hx223_1); (try rw [← Nbq21.out] at hw223_1)
                            obtain rfl : ad221 = ad223 := (by injection e223)
                            replace hx223_0 := (HB.out.cell (World.block_lt_of_cell? w _ hx223_0)).trans hx223_0
                            replace hx223_1 := (HB.out.cell (World.block_lt_of_cell? w _ hx223_1)).trans hx223_1
                            replace p223 := eq_true p223
                            replace q223 := eq_true q223
                            try go_wp2
                            go_roundg k2
                            case measure => have := HK1.out; have := HK2.out; omega
                            case rel => exact ⟨(wrap64 (x10_2 + 1)), (by first | rfl | (simp; done) | (simp only [i64_w, i32_w]; done) | (simp [*]; done) | (simp only [i64_w, i32_w]; first | rfl | (simp; done) | (simp [*]; done))), H', ⟨by have := HK1.out; have := HK2.out; omega⟩, ⟨by (with_reducible repeat (first | apply Kd.N_alloc | apply Kd.N_drewN | apply Kd.N_drew)); exact HO_8.out⟩, ⟨by (with_reducible repeat (first | refine zK ?_ _ | refine zL ?_ | refine zJ ?_ _)); exact BK211.out⟩, ⟨by repeat (first | (with_reducible first | exact HB.out | apply zE | apply zB | apply zC | refine zD ?_ GE211.out) | exact HB.out)⟩⟩
                      · rw [if_neg c19] at H
                        exact absurd H (by simp)
                    · rw [if_neg c18] at H
                      exact absurd H (by simp)
                  · rw [if_neg c17] at H
                    have c17b0 : decide (x10_2 < ((rd_L4 t215 x9_1).length : Int)) = false := decide_eq_false c17
                    clear c17
                    have H' := zF.mk H
                    clear H
                    have p218 : 0 ≤ (x9_1 : Int) := of_decide_eq_true (by first | (with_reducible assumption) | assumption)
                    have q218 : x9_1 < (t215.length : Int) := of_decide_eq_true (by first | (with_reducible assumption) | assumption)
                    obtain ⟨ad218, A218_0, c218_0, e218, hx218_0, hl218_0, hi218_0⟩ := at_L4 (Kd.N_reads' HO_8.out).2.2 x9_1 p218 q218
                    cases e218
                    obtain ⟨ce218, hce218, hMe218, hcc218⟩ := Kd.N_get HO_8.out [] x9_1 p218 (by first | exact q218 | exact of_decide_eq_true (by first | (with_reducible assumption) | assumption) | (have e_ := (Kd.N_reads' HO_8.out).1; omega))
                    obtain ⟨ua218_0, uc218_0, rfl, ul218_0, ge218_0⟩ := Kd.FK_slice_open hMe218
                    have hv218_0 := hcc218 0 _ rfl
                    rw [Nat.add_zero, show ((Kd.slice 3 (Kd.int .i64))).sz = 1 from rfl, Nat.mul_one] at hv218_0
                    replace hv218_0 := Option.some.inj (hv218_0.symm.trans hx218_0)
                    injection hv218_0 with hva_ hvn_ hvc_
                    rw [hva_] at ge218_0
                    rw [hvc_] at ul218_0
                    have HL218_0 := zF.mk (show Kd.V (Kd.int .i64) 3 _ w.heap.size _ _ (rd_L4 t215 x9_1) from Kd.V_mk ul218_0 ge218_0)
                    clear hva_ hvn_ hvc_ ge218_0 ul218_0
                    clear hcc218 hce218
                    have HR218_0 := zF.mk hi218_0
                    have HC218_0 := zF.mk hl218_0
                    clear hi218_0 hl218_0
                    replace p218 := eq_true p218
                    replace q218 := eq_true q218
                    go_wp2
                    go_roundg k2
                    case measure => have := HK1.out; have := HK2.out; omega
                    case rel => exact ⟨(wrap64 (x9_1 + 1)), (by first | rfl | (simp; done) | (simp only [i64_w, i32_w]; done) | (simp [*]; done) | (simp only [i64_w, i32_w]; first | rfl | (simp; done) | (simp [*]; done))), H', ⟨by have := HK1.out; have := HK2.out; omega⟩, ⟨by (with_reducible repeat (first | apply Kd.N_alloc | apply Kd.N_drewN | apply Kd.N_drew)); exact HO_8.out⟩, ⟨by (with_reducible repeat (first | refine zK ?_ _ | refine zL ?_ | refine zJ ?_ _)); exact BK211.out⟩, ⟨by repeat (first | (with_reducible first | exact HB.out | apply zE | apply zB | apply zC | refine zD ?_ GE211.out) | exact HB.out)⟩⟩
                · rw [if_neg c16] at H
                  exact absurd H (by simp)
              · rw [if_neg c15] at H
                exact absurd H (by simp)
        · rw [if_neg c13] at H
          have c13b0 : decide (x9_1 < (t215.length : Int)) = false := decide_eq_false c13
          clear c13
          obtain rfl := Option.some.inj H
          obtain ⟨Ao37, co37, eo37⟩ := Kd.N_slice HO_8.out
          subst eo37
          go_wp2
          go_ret
          exact ⟨by first | rfl | (simp [errW_none, errW_some] <;> rfl) | (simp [*, errW_none, errW_some] <;> rfl), by repeat (first | (with_reducible first | exact HB.out | apply zE | apply zB | apply zC | refine zD ?_ GE211.out) | exact HB.out)⟩
  · rw [if_neg c5] at H
    have c5b0 : ((t212.length : Int) == (l2_2.length : Int)) = false := beq_eq_false_iff_ne.mpr c5
    have c5b1 : ((t212.length : Int) != (l2_2.length : Int)) = true := bne_iff_ne.mpr c5
    have c5b2 : (t212.length == l2_2.length) = false := by first | simpa using c5 | (simp at c5 ⊢; omega)
    obtain rfl := Option.some.inj H
    go_enter Try.func7, Try.ntmps7
    go_wp2_with (first | ((with_reducible refine gate_dst (N := 5) rfl ?_); refine box_event ?hg (N := 5) ?hd (cs := #[.bool a2_0, .int .i64 a2_1, .slice A2_2 l2_2.length c2_2]) (t := 25) ?hr ?_; (case hd => rfl); (case hg => rfl); (case hr => first | (go_simp; done) | (go_simp; rfl)); intro gb211 hg w38 hbox hb; have n0_ := zF.mk (below_step (by repeat (first | (with_reducible first | exact HB.out | apply zE | apply zB | apply zC) | exact HB.out)) hb); have n1_ := zF.mk (hbox); have n2_ := zF.mk ((by rw [hg]; exact (below_size (by repeat (first | (with_reducible first | exact HB.out | apply zE | apply zB | apply zC) | exact HB.out))) : w.heap.size ≤ gb211)); have n3_ := zF.mk ((by rw [hg]; exact (below_size (by repeat (first | (with_reducible first | exact HB.out | apply zE | apply zB | apply zC) | exact HB.out))) : w.heap.size ≤ gb211)); clear HB; have HB := n0_; have BK211 := n1_; have GW211 := n2_; have GE211 := n3_; clear n0_ n1_ n2_ n3_; clear hb hbox hg; have hcz39_0 : w38.cell? ⟨gb211, 0, none⟩ = some (.bool a2_0) := (zM BK211.out 0).trans rfl; have hcz39_1 : w38.cell? ⟨gb211, 1, none⟩ = some (.int .i64 a2_1) := (zM BK211.out 1).trans rfl; have hcz39_2 : w38.cell? ⟨gb211, 2, none⟩ = some (.slice A2_2 l2_2.length c2_2) := (zM BK211.out 2).trans rfl; have hfz39_0 := zN BK211.out 0; have hfz39_1 := zN BK211.out 1; have hfz39_2 := zN BK211.out 2) | ((with_reducible refine gate_callee (f := 20) rfl ?_); refine goesL_ (some 17) rfl rfl Try.func20 (by kernel_rfl) rfl #[.int .i64 (l0.length : Int), .int .i64 a1, .int .i64 a2_1] rfl (by (try simp only [List.map_toArray, List.map_cons, List.map_nil]); first | done | rfl | (simp only [List.length_drop, List.length_take]; rfl)) ?_; (with_reducible refine (serinetteref14_Cuts.calls k (l0.length : Int) a1 a2_1 t212 _ A4.out).mono ?_); rintro e w40 ⟨v213, rfl, ho0, hb⟩; refine ⟨_, rfl, ?_⟩; have n0_ := zF.mk (Kd.R_lower ho0 (below_size (by repeat (first | (with_reducible first | exact HB.out | apply zE | apply zB | apply zC | refine zD ?_ GE211.out) | exact HB.out)))); have n1_ := zF.mk (blk_below (g := gb211) (o := .cells #[.bool a2_0, .int .i64 a2_1, .slice A2_2 l2_2.length c2_2] 25 (0, 0)) (by (with_reducible repeat (first | refine zK ?_ _ | refine zL ?_ | refine zJ ?_ _)); exact BK211.out) hb); have n2_ := zF.mk (below_step (by repeat (first | (with_reducible first | exact HB.out | apply zE | apply zB | apply zC | refine zD ?_ GE211.out) | exact HB.out)) hb); clear BK211; clear HB; have HO214 := n0_; have BK211 := n1_; have HB := n2_; clear n0_ n1_ n2_; (try clear hb); (try clear hb2); (try clear hk); (try clear hi); (try clear ho0); obtain ⟨Ao41, co41, eo41⟩ := Kd.R_slice HO214.out; subst eo41; have hcz42_0 : w40.cell? ⟨gb211, 0, none⟩ = some (.bool a2_0) := (zM BK211.out 0).trans rfl; have hcz42_1 : w40.cell? ⟨gb211, 1, none⟩ = some (.int .i64 a2_1) := (zM BK211.out 1).trans rfl; have hcz42_2 : w40.cell? ⟨gb211, 2, none⟩ = some (.slice A2_2 l2_2.length c2_2) := (zM BK211.out 2).trans rfl; have hfz42_0 := zN BK211.out 0; have hfz42_1 := zN BK211.out 1; have hfz42_2 := zN BK211.out 2))
    go_ret
    exact ⟨by first | rfl | (simp [errW_none, errW_some] <;> rfl) | (simp [*, errW_none, errW_some] <;> rfl), by repeat (first | (with_reducible first | exact HB.out | apply zE | apply zB | apply zC | refine zD ?_ GE211.out) | exact HB.out)⟩
end Go.Proofs.Ytokdjeoecnnckaa.PA
end
section
namespace Go.Proofs.Ytokdjeoecnnckaa.PA
open Go.RowKit Go.Proofs.YtokdjeoecnnckaaW.PrintWords Go.Proofs.YtokdjeoecnnckaaW.PrintLast Go.Proofs.YtokdjeoecnnckaaW.PrintMore
attribute [local go_sem] max2_int min2_int max_two min_two max_three min_three max_four min_four   -- for this text's walks alone
set_option linter.unusedVariables false
set_option linter.unusedSimpArgs false
def OffS71 (W : World) (g : Nat) (row : Option Nat) : Prop := some g ≠ row ∧ ∀ r cs, W.heap[r]? = some (.cells cs 5 (0, 0)) → some r ≠ row
def zG (w0 W : World) (g : Nat) (f0 : List Int) (f1 : Int) (f2 : Int) : Prop := ∃ A0 c0, W.heap[g]? = some (.cells #[.slice A0 f0.length c0, .int .i64 f1, .int .i64 f2] 71 (0, 0)) ∧ w0.heap.size ≤ g ∧ Kd.R (Kd.int .u8) 5 W w0.heap.size (fun _ => True) (.slice A0 f0.length c0) f0
theorem zG.grown {w0 W : World} {g : Nat} {f0 : List Int} {f1 : Int} {f2 : Int} {W1 : World} {row : Option Nat} (h : zG w0 W g f0 f1 f2) (hw : W.grownBy W1 row) (hne : OffS71 W g row) : zG w0 W1 g f0 f1 f2 := by
  obtain ⟨A0, c0, hb, hg, hr⟩ := h
  exact ⟨A0, c0, blk_grown hb hw hne.1, hg, Kd.R_mono (Kd.R_grown (Kd.R_bound hr) hw (fun k hk => by
    obtain ⟨_, _, _, q, hq, cs, hc⟩ := hk
    obtain rfl : q = 5 := by simpa [Kd.int, Kd.scalar] using hq
    exact hne.2 k cs hc)) (fun _ _ => trivial)⟩
theorem zG.own_ne {w0 W : World} {g : Nat} {f0 : List Int} {f1 : Int} {f2 : Int} {α : Type} {d : Kd α} {e : Nat} {base : Nat} {ok : Nat → Prop} {v : Value} {xs : List α} (h : zG w0 W g f0 f1 f2) (ho : d.R e W base ok v xs) (ht : e ≠ 71 ∧ e ≠ 5) : OffS71 W g v.ownBlock := by
  obtain ⟨A0, c0, hb, hg, hr⟩ := h
  exact ⟨Kd.R_ne ho hb ht.1, fun r cs hr => Kd.R_ne ho hr ht.2⟩
theorem zG.below {w0 W : World} {g : Nat} {f0 : List Int} {f1 : Int} {f2 : Int} {W1 : World} (h : zG w0 W g f0 f1 f2) (hw : Below W.heap.size W W1) : zG w0 W1 g f0 f1 f2 := h.grown (grown_of_below hw none) ⟨by simp, fun _ _ _ => by simp⟩
theorem zG.alloc {w0 W : World} {g : Nat} {f0 : List Int} {f1 : Int} {f2 : Int} (h : zG w0 W g f0 f1 f2) (o : Obj) : zG w0 (W.alloc o) g f0 f1 f2 := h.below (zE (Below.refl _ _) o)
theorem zG.drewN {w0 W : World} {g : Nat} {f0 : List Int} {f1 : Int} {f2 : Int} (h : zG w0 W g f0 f1 f2) (m : Nat) : zG w0 (W.drewN m) g f0 f1 f2 := h
theorem zG.drew {w0 W : World} {g : Nat} {f0 : List Int} {f1 : Int} {f2 : Int} (h : zG w0 W g f0 f1 f2) : zG w0 W.drew g f0 f1 f2 := h
theorem zG.at_ {w0 W : World} {g : Nat} {f0 : List Int} {f1 : Int} {f2 : Int} {w' : World} {m : Nat} (hq : W.drewN m = w') (h : zG w0 W g f0 f1 f2) : zG w0 w' g f0 f1 f2 := by subst hq; exact zG.drewN h m
theorem zG.apart {w0 W : World} {g : Nat} {f0 : List Int} {f1 : Int} {f2 : Int} {α : Type} {d : Kd α} {e : Nat} {base : Nat} {ok : Nat → Prop} {v : Value} {xs : List α} (h : zG w0 W g f0 f1 f2) (ho : d.R e W base ok v xs) (ht : ∀ q, q ∈ e :: d.E → q ≠ 71) : d.R e W base (fun k => ok k ∧ k ≠ g) v xs := by
  obtain ⟨A0, c0, hb, hg, hr⟩ := h
  exact Kd.R_types ho hb ht
theorem zG.lt {w0 W : World} {g : Nat} {f0 : List Int} {f1 : Int} {f2 : Int} (h : zG w0 W g f0 f1 f2) : g < W.heap.size := by
  obtain ⟨A0, c0, hb, hg, hr⟩ := h
  exact blk_lt hb
theorem zG.ge {w0 W : World} {g : Nat} {f0 : List Int} {f1 : Int} {f2 : Int} (h : zG w0 W g f0 f1 f2) : w0.heap.size ≤ g := by
  obtain ⟨A0, c0, hb, hg, hr⟩ := h
  exact hg
theorem zG.ne_blk {w0 W : World} {g : Nat} {f0 : List Int} {f1 : Int} {f2 : Int} {a : Nat} {cs : Array Value} {t : TypeId} {fr : Nat × Nat} (h : zG w0 W g f0 f1 f2) (hb2 : W.heap[a]? = some (.cells cs t fr)) (ht : t ≠ 71) : g ≠ a := by
  obtain ⟨A0, c0, hb, hg, hr⟩ := h
  rintro rfl
  rw [hb] at hb2
  injection hb2 with hb2
  injection hb2 with _ ht2
  exact ht ht2.symm
theorem zG.far {w0 W : World} {g : Nat} {f0 : List Int} {f1 : Int} {f2 : Int} {p : Addr} (h : zG w0 W g f0 f1 f2) (hne : OffS71 W g (some p.block)) (u : Value) : zG w0 (W.setCell p u) g f0 f1 f2 := by
  obtain ⟨A0, c0, hb, hg, hr⟩ := h
  exact ⟨A0, c0, zO hb (fun e => hne.1 (by rw [e])) u, hg, Kd.R_mono (Kd.R_far (Kd.R_bound hr) (fun k hk => by
    obtain ⟨_, _, _, q, hq, cs, hc⟩ := hk
    obtain rfl : q = 5 := by simpa [Kd.int, Kd.scalar] using hq
    exact fun e => hne.2 k cs hc (by rw [e])) u) (fun _ _ => trivial)⟩
theorem zG.set_1 {w0 W : World} {g : Nat} {f0 : List Int} {f1 : Int} {f2 : Int} (h : zG w0 W g f0 f1 f2) (x : Int) : zG w0 (W.setCell ⟨g, 1, none⟩ (.int .i64 x)) g f0 x f2 := by
  obtain ⟨A0, c0, hb, hg, hr⟩ := h
  exact ⟨A0, c0, by simpa using blk_set hb 1 (.int .i64 x), hg, Kd.R_mono (Kd.R_far (Kd.R_types hr hb (by simp [Kd.int, Kd.scalar])) (fun k hk => hk.2) _) (fun _ _ => trivial)⟩
theorem zG.set_2 {w0 W : World} {g : Nat} {f0 : List Int} {f1 : Int} {f2 : Int} (h : zG w0 W g f0 f1 f2) (x : Int) : zG w0 (W.setCell ⟨g, 2, none⟩ (.int .i64 x)) g f0 f1 x := by
  obtain ⟨A0, c0, hb, hg, hr⟩ := h
  exact ⟨A0, c0, by simpa using blk_set hb 2 (.int .i64 x), hg, Kd.R_mono (Kd.R_far (Kd.R_types hr hb (by simp [Kd.int, Kd.scalar])) (fun k hk => hk.2) _) (fun _ _ => trivial)⟩
theorem cellS71_0 {W : World} {g : Nat} {A0 : Option Addr} {c0 : Nat} {f0 : List Int} {f1 : Int} {f2 : Int} (h : W.heap[g]? = some (.cells #[.slice A0 f0.length c0, .int .i64 f1, .int .i64 f2] 71 (0, 0))) : W.cell? ⟨g, 0, none⟩ = some (.slice A0 f0.length c0) := (zM h 0).trans rfl
theorem cellS71_1 {W : World} {g : Nat} {A0 : Option Addr} {c0 : Nat} {f0 : List Int} {f1 : Int} {f2 : Int} (h : W.heap[g]? = some (.cells #[.slice A0 f0.length c0, .int .i64 f1, .int .i64 f2] 71 (0, 0))) : W.cell? ⟨g, 1, none⟩ = some (.int .i64 f1) := (zM h 1).trans rfl
theorem cellS71_2 {W : World} {g : Nat} {A0 : Option Addr} {c0 : Nat} {f0 : List Int} {f1 : Int} {f2 : Int} (h : W.heap[g]? = some (.cells #[.slice A0 f0.length c0, .int .i64 f1, .int .i64 f2] 71 (0, 0))) : W.cell? ⟨g, 2, none⟩ = some (.int .i64 f2) := (zM h 2).trans rfl
theorem zG.blk {w0 W : World} {g : Nat} {f0 : List Int} {f1 : Int} {f2 : Int} (h : zG w0 W g f0 f1 f2) : ∃ cs, W.heap[g]? = some (.cells cs 71 (0, 0)) := by
  obtain ⟨A0, c0, hb, _⟩ := h
  exact ⟨_, hb⟩
theorem zG.keepG {w0 W : World} {g : Nat} {f0 : List Int} {f1 : Int} {f2 : Int} {W1 : World} {g' : Nat} {cs : Array Value} {t : TypeId} (h : zG w0 W g f0 f1 f2) (hb' : W.heap[g']? = some (.cells cs t (0, 0))) (ht : t ≠ 71 ∧ t ≠ 5) (hk : zI W W1 g' none) : zG w0 W1 g f0 f1 f2 := by
  obtain ⟨A0, c0, hb, hg, hr⟩ := h
  exact ⟨A0, c0, hk.blk hb (blk_ne hb hb' (Ne.symm ht.1)) (by simp), hg, Kd.R_mono (Kd.R_keep (Kd.R_types hr hb' (by simp [Kd.int, Kd.scalar]; exact Ne.symm ht.2)) hk (fun _ hk => hk.2)) (fun _ _ => trivial)⟩
def zA (W : World) (b : Nat) (t : TypeId) : Prop := ∃ cs, W.heap[b]? = some (.cells cs t (0, 0))
theorem zA.of {W : World} {b : Nat} {t : TypeId} {cs : Array Value} (h : W.heap[b]? = some (.cells cs t (0, 0))) : zA W b t := ⟨cs, h⟩
theorem zA.set {W : World} {b p : Nat} {t : TypeId} (h : zA W b t) (j : Nat) (v : Value) : zA (W.setCell ⟨p, j, none⟩ v) b t := by
  obtain ⟨cs, hb⟩ := h
  by_cases e : b = p
  · subst e
    exact ⟨_, blk_set hb j v⟩
  · exact ⟨_, zO hb e v⟩
theorem zA.drewN {W : World} {b : Nat} {t : TypeId} (h : zA W b t) (m : Nat) : zA (W.drewN m) b t := h
theorem zA.drew {W : World} {b : Nat} {t : TypeId} (h : zA W b t) : zA W.drew b t := h
theorem zA.alloc {W : World} {b : Nat} {t : TypeId} (h : zA W b t) (o : Obj) : zA (W.alloc o) b t := by
  obtain ⟨cs, hb⟩ := h
  exact ⟨cs, zJ hb o⟩
theorem zG.farT {w0 W : World} {g b j : Nat} {f0 : List Int} {f1 : Int} {f2 : Int} {t : TypeId} (h : zG w0 W g f0 f1 f2) (ht : t ≠ 71 ∧ t ≠ 5) (hb : zA W b t) (u : Value) : zG w0 (W.setCell ⟨b, j, none⟩ u) g f0 f1 f2 := by
  obtain ⟨cs, hb⟩ := hb
  exact h.far ⟨fun e => h.ne_blk hb ht.1 (Option.some.inj e), fun r cs' hr e => by
    obtain rfl : r = b := Option.some.inj e
    rw [hb] at hr
    injection hr with hr
    injection hr with _ h2
    exact ht.2 h2⟩ u

def bits_Open.f (l0 : List Int) : Option (List Int × Int × Int) := (bytes_Clone.f l0).map fun r => (r, 0, 0)
set_option maxRecDepth 100000 in
theorem bits_Open.calls (A0 : Option Addr) (c0 : Nat) (l0 : List Int) (r1 : List Int) (r2 : Int) (r3 : Int) (w0 w : World) (hB : Below w0.heap.size w0 w) (hr0 : Kd.C (Kd.int .u8) w A0 l0.length l0) (hc0 : l0.length ≤ c0) (h : bits_Open.f l0 = some (r1, r2, r3)) :
    Calls Try.prog 12 #[.slice A0 l0.length c0] w fun e w' => ∃ g_ : Nat, e = .returned (.pointer (some ⟨g_, 0, none⟩)) ∧ zG w0 w' g_ r1 r2 r3 ∧ Below w0.heap.size w0 w' ∧ Below w.heap.size w w' := by
  have hu := Try.underlying71
  have HW0 := zF.mk hB.size
  have HB := zF.mk hB
  clear hB
  obtain ⟨r, hc, he⟩ := Option.map_eq_some_iff.1 h
  simp only [Prod.mk.injEq] at he
  obtain ⟨rfl, rfl, rfl⟩ := he
  clear h
  have HC := zF.mk (bytes_Clone.calls A0 c0 l0 r w hr0 hc0 hc)
  clear hr0 hc0 hc
  go_enter Try.func12, Try.ntmps12
  go_wp2_with (first | (go_at_call 31; (with_reducible refine HC.out.mono ?_); rintro e w1 ⟨v0, rfl, ho, hb⟩; obtain ⟨A, c, eA⟩ := Kd.R_slice ho; subst eA; have HO := zF.mk ho; have HBB := zF.mk hb; clear ho hb) | ((with_reducible refine gate_dst (N := 6) rfl ?_); refine box_event ?hg (N := 6) ?hd (cs := #[.slice A r.length c, .int .i64 0, .int .i64 0]) (t := 71) ?hr ?_; (case hd => rfl); (case hg => rfl); (case hr => first | (go_simp; done) | (go_simp; rfl)); intro gb101 hg w2 hbox hb; have HBX := zF.mk hbox; have HB2 := zF.mk hb; have HG := zF.mk (show w0.heap.size ≤ gb101 from Nat.le_trans HW0.out (Nat.le_trans HBB.out.size (by rw [hg]; exact Nat.le_refl _))); clear hbox hb hg))
  go_ret
  exact ⟨_, rfl, ⟨A, c, HBX.out, HG.out, Kd.R_lower (Kd.R_below HO.out HB2.out) HW0.out⟩, below_step (below_step HB.out HBB.out) HB2.out, below_step HBB.out HB2.out⟩

def bits_Reader_Left.f (s0_0 : List Int) (s0_1 : Int) (s0_2 : Int) : Option (Int × Int × Int) := some (wrap64 ((wrap64 (8 * (s0_0.length : Int))) - s0_1), s0_1, s0_2)
set_option maxHeartbeats 8000000 in
set_option maxRecDepth 100000 in
theorem bits_Reader_Left.calls (g : Nat) (s0_0 : List Int) (s0_1 : Int) (s0_2 : Int) (r1 : Int) (r2 : Int) (r3 : Int) (w0 w : World) (hI : zG w0 w g s0_0 s0_1 s0_2) (hB : Below w0.heap.size w0 w) (h : bits_Reader_Left.f s0_0 s0_1 s0_2 = some (r1, r2, r3)) :
    Calls Try.prog 50 #[.pointer (some ⟨g, 0, none⟩)] w fun e w' => e = .returned (.int .i64 r1) ∧ zG w0 w' g s0_0 r2 r3 ∧ Below w0.heap.size w0 w' ∧ zI w w' g none := by
  have HI0 := zF.mk hI
  have HK := zF.mk (zI.refl w g none)
  have HL := zF.mk hB.size
  clear hI
  have HW0 := zF.mk hB.size
  have HB := zF.mk hB
  clear hB
  have H : (some (wrap64 ((wrap64 (8 * (s0_0.length : Int))) - s0_1), s0_1, s0_2)) = some (r1, r2, r3) := h
  clear h
  simp only [Option.some.injEq, Prod.mk.injEq] at H
  obtain ⟨rfl, rfl, rfl⟩ := H
  obtain ⟨ASz2_0, cSz2_0, HGz2, hgz2, HSz2_0⟩ := HI0.out
  have hcz2_0 := cellS71_0 HGz2
  have hcz2_1 := cellS71_1 HGz2
  have hcz2_2 := cellS71_2 HGz2
  have hfz2_1 := zN HGz2 1
  have hfz2_2 := zN HGz2 2
  clear HGz2 hgz2
  go_enter Try.func50, Try.ntmps50
  go_wp2
  repeat (go_quiet (fail); try go_wp2)
  go_ret
  exact ⟨by first | rfl | (simp [errW_none, errW_some] <;> rfl) | (simp [*, errW_none, errW_some] <;> rfl), by repeat (first | (with_reducible first | exact HI0.out | apply zG.alloc | apply zG.drewN | apply zG.drew | apply zG.set_1 | apply zG.set_2) | exact HI0.out), by repeat (first | (with_reducible first | exact HB.out | apply zE | apply zB | apply zC | refine zD ?_ (zG.ge HI0.out)) | exact HB.out), by repeat (first | (with_reducible first | exact HK.out | apply zI.set_ | apply zV | apply zW | apply zX) | exact HK.out)⟩
end Go.Proofs.Ytokdjeoecnnckaa.PA
end
section
namespace Go.Proofs.Ytokdjeoecnnckaa.PA
open Go.RowKit Go.Proofs.YtokdjeoecnnckaaW.PrintWords Go.Proofs.YtokdjeoecnnckaaW.PrintLast Go.Proofs.YtokdjeoecnnckaaW.PrintMore
attribute [local go_sem] max2_int min2_int max_two min_two max_three min_three max_four min_four   -- for this text's walks alone
set_option linter.unusedVariables false
set_option linter.unusedSimpArgs false

mutual
def bits_Reader_Take.j0 : Nat → Int → Bool → List Int → Int → Int → Option (Int × Int × Int)
  | 0, _, _, _, _, _ => none
  | k + 1, x5, x22, x1000, x1001, x1002 => if x22 = true then (bits_Reader_Take.j1 k x5 x1000 x1001 2) else (bits_Reader_Take.j1 k x5 x1000 x1001 x1002)
def bits_Reader_Take.j1 : Nat → Int → List Int → Int → Int → Option (Int × Int × Int)
  | 0, _, _, _, _ => none
  | k + 1, x5, x1000, x1001, x1002 => if x1002 = 0 then (bits_Reader_Take.l0 k x5 0 x1000 x1001 x1002) else (some (0, x1001, x1002))
def bits_Reader_Take.l0 : Nat → Int → Int → List Int → Int → Int → Option (Int × Int × Int)
  | 0, _, _, _, _, _ => none
  | k + 1, x5, x6, x1000, x1001, x1002 => if x5 = 0 then (some (x6, x1001, x1002)) else (if 0 ≤ (wrap64 (Int.tdiv x1001 8)) then (if (wrap64 (Int.tdiv x1001 8)) < (x1000.length : Int) then (if 0 ≤ (wrap64 ((wrap64 (8 - (Int.tmod x1001 8))) - (mn (wrap64 (8 - (Int.tmod x1001 8))) x5))) then (if 0 ≤ (mn (wrap64 (8 - (Int.tmod x1001 8))) x5) then (bits_Reader_Take.l0 k (wrap64 (x5 - (mn (wrap64 (8 - (Int.tmod x1001 8))) x5))) (Go.bits .or .u64 (shl .u64 x6 (mn (wrap64 (8 - (Int.tmod x1001 8))) x5)) (IntKind.u64.wrap (Go.bits .and .u8 (shr .u8 (rd x1000 (wrap64 (Int.tdiv x1001 8))) (wrap64 ((wrap64 (8 - (Int.tmod x1001 8))) - (mn (wrap64 (8 - (Int.tmod x1001 8))) x5)))) (((shl .u8 1 (mn (wrap64 (8 - (Int.tmod x1001 8))) x5)) - 1) % 256)))) x1000 (wrap64 (x1001 + (mn (wrap64 (8 - (Int.tmod x1001 8))) x5))) x1002) else (none)) else (none)) else (none)) else (none))
end
def bits_Reader_Take.f (k : Nat) (s0_0 : List Int) (s0_1 : Int) (s0_2 : Int) (a1 : Int) : Option (Int × Int × Int) := (bits_held.f a1).bind fun t224 => (if s0_2 = 0 then ((bits_Reader_Left.f s0_0 s0_1 s0_2).bind fun bt225 => (bits_Reader_Take.j0 k t224 (decide (t224 > bt225.1)) s0_0 bt225.2.1 bt225.2.2)) else (bits_Reader_Take.j0 k t224 false s0_0 s0_1 s0_2))
set_option maxHeartbeats 8000000 in
set_option maxRecDepth 100000 in
theorem bits_Reader_Take.calls (k : Nat) (g : Nat) (s0_0 : List Int) (s0_1 : Int) (s0_2 : Int) (a1 : Int) (r1 : Int) (r2 : Int) (r3 : Int) (w0 w : World) (hI : zG w0 w g s0_0 s0_1 s0_2) (hB : Below w0.heap.size w0 w) (h : bits_Reader_Take.f k s0_0 s0_1 s0_2 a1 = some (r1, r2, r3)) :
    Calls Try.prog 32 #[.pointer (some ⟨g, 0, none⟩), .int .i64 a1] w fun e w' => e = .returned (.int .u64 r1) ∧ zG w0 w' g s0_0 r2 r3 ∧ Below w0.heap.size w0 w' ∧ zI w w' g none := by
  have HI0 := zF.mk hI
  have HK := zF.mk (zI.refl w g none)
  have HL := zF.mk hB.size
  clear hI
  have HW0 := zF.mk hB.size
  have HB := zF.mk hB
  clear hB
  have H : ((bits_held.f a1).bind fun t185 => (if s0_2 = 0 then ((bits_Reader_Left.f s0_0 s0_1 s0_2).bind fun bt186 => (bits_Reader_Take.j0 k t185 (decide (t185 > bt186.1)) s0_0 bt186.2.1 bt186.2.2)) else (bits_Reader_Take.j0 k t185 false s0_0 s0_1 s0_2))) = some (r1, r2, r3) := h
  clear h
  replace H := Option.bind_eq_some_iff.mp H
  obtain ⟨t185, A30, H⟩ := H
  replace H : (if s0_2 = 0 then ((bits_Reader_Left.f s0_0 s0_1 s0_2).bind fun bt186 => (bits_Reader_Take.j0 k t185 (decide (t185 > bt186.1)) s0_0 bt186.2.1 bt186.2.2)) else (bits_Reader_Take.j0 k t185 false s0_0 s0_1 s0_2)) = some (r1, r2, r3) := H
  have A3 := zF.mk A30
  clear A30
  have HC4 := zF.mk H
  clear H
  go_enter Try.func32, Try.ntmps32
  go_wp2
  refine wp_scope_ghost_k 0 rfl (fun kq a_ w' => ∃ v1_ v2_ v3_ v4_ v5 v6 v7_ v8_ v9_ v10_ v11_ v12_ v13_ v14_ v15_ v16_ v17_ v18_ v19_ v20_ v21_ v22_ v23_ v24_ v25_ v26_ v27_ v28_ v29_ v30_ v31_ v32_ v33_ v34_ v35_ v36_ v37_ v38_ v39_ v40_ v41_ v42_ v43_ v44_ v45_ v46_ v47_ v48_ v49_ v50_ v51_ v52_ v53_ v54_ v55_ v56_ v57_ v58_ v59_ v60_ v61_ v62_ v63_ v64_ v65_ v66_ v67_ v68_ v69_ v70_ v71_ v72_ v73_ v74_ v75_ v76_ v77_ v78_ : Value, (∃ (x5_3 : Int) (x6_3 : Int) (x1001_3 : Int) (x1002_10 : Int), v5 = .int .i64 x5_3 ∧ v6 = .int .u64 x6_3 ∧ zF (bits_Reader_Take.l0 kq x5_3 x6_3 s0_0 x1001_3 x1002_10 = some (r1, r2, r3)) ∧ zF (kq ≤ kq) ∧ zF (zG w0 w' g s0_0 x1001_3 x1002_10) ∧ zF (zI w w' g none) ∧ zF (Below w0.heap.size w0 w')) ∧ a_ = { tmps := #[.pointer (some ⟨g, 0, none⟩), v1_, v2_, v3_, v4_, v5, v6, v7_, v8_, v9_, v10_, v11_, v12_, v13_, v14_, v15_, v16_, v17_, v18_, v19_, v20_, v21_, v22_, v23_, v24_, v25_, v26_, v27_, v28_, v29_, v30_, v31_, v32_, v33_, v34_, v35_, v36_, v37_, v38_, v39_, v40_, v41_, v42_, v43_, v44_, v45_, v46_, v47_, v48_, v49_, v50_, v51_, v52_, v53_, v54_, v55_, v56_, v57_, v58_, v59_, v60_, v61_, v62_, v63_, v64_, v65_, v66_, v67_, v68_, v69_, v70_, v71_, v72_, v73_, v74_, v75_, v76_, v77_, v78_], defers := [] }) ?round ?first
  case round =>
    rintro gk a_ wr ⟨u1_, u2_, u3_, u4_, u5, u6, u7_, u8_, u9_, u10_, u11_, u12_, u13_, u14_, u15_, u16_, u17_, u18_, u19_, u20_, u21_, u22_, u23_, u24_, u25_, u26_, u27_, u28_, u29_, u30_, u31_, u32_, u33_, u34_, u35_, u36_, u37_, u38_, u39_, u40_, u41_, u42_, u43_, u44_, u45_, u46_, u47_, u48_, u49_, u50_, u51_, u52_, u53_, u54_, u55_, u56_, u57_, u58_, u59_, u60_, u61_, u62_, u63_, u64_, u65_, u66_, u67_, u68_, u69_, u70_, u71_, u72_, u73_, u74_, u75_, u76_, u77_, u78_, hrel, rfl⟩ J_ K_ hJ_ hK_
    try clear c1
    try clear p2
    try clear c6
    try clear c6b0
    try clear c6b1
    try clear c12
    try clear c14
    try clear c14b0
    try clear c14b1
    try clear hcz10_0
    try clear hcz10_1
    try clear hcz10_2
    try clear hcz13_0
    try clear hcz13_1
    try clear hcz13_2
    try clear hcz15_0
    try clear hcz15_1
    try clear hcz15_2
    try clear hcz8_0
    try clear hcz8_1
    try clear hcz8_2
    try clear hfz10_1
    try clear hfz10_2
    try clear hfz13_1
    try clear hfz13_2
    try clear hfz15_1
    try clear hfz15_2
    try clear hfz8_1
    try clear hfz8_2
    try clear p2
    obtain ⟨x5_3, x6_3, x1001_3, x1002_10, rfl, rfl, HA, HK3, HI0, HK, HB⟩ := hrel
    cases gk with
    | zero => exact absurd HA.out (by simp [bits_Reader_Take.l0])
    | succ k3 =>
      have H := HA.out
      clear HA
      simp only [bits_Reader_Take.l0] at H
      by_cases c16 : x5_3 = 0
      · rw [if_pos c16] at H
        have c16b0 : (x5_3 == 0) = true := beq_iff_eq.mpr c16
        have c16b1 : (x5_3 != 0) = false := bne_eq_false_iff_eq.mpr c16
        clear c16
        simp only [Option.some.injEq, Prod.mk.injEq] at H
        obtain ⟨rfl, rfl, rfl⟩ := H
        go_wp2
        repeat (go_quiet (fail); try go_wp2)
        (try simp only [Exit.jump])
        go_ret
        exact ⟨by first | rfl | (simp [errW_none, errW_some] <;> rfl) | (simp [*, errW_none, errW_some] <;> rfl), by repeat (first | (with_reducible first | exact HI0.out | apply zG.alloc | apply zG.drewN | apply zG.drew | apply zG.set_1 | apply zG.set_2) | exact HI0.out), by repeat (first | (with_reducible first | exact HB.out | apply zE | apply zB | apply zC | refine zD ?_ (zG.ge HI0.out)) | exact HB.out), by repeat (first | (with_reducible first | exact HK.out | apply zI.set_ | apply zV | apply zW | apply zX) | exact HK.out)⟩
      · rw [if_neg c16] at H
        have c16b0 : (x5_3 == 0) = false := beq_eq_false_iff_ne.mpr c16
        have c16b1 : (x5_3 != 0) = true := bne_iff_ne.mpr c16
        obtain ⟨ji17, hji17⟩ : ∃ j_ : Int, (mn (wrap64 (8 - (Int.tmod x1001_3 8))) x5_3) = j_ := ⟨_, rfl⟩
        replace H : (if 0 ≤ (wrap64 (Int.tdiv x1001_3 8)) then (if (wrap64 (Int.tdiv x1001_3 8)) < (s0_0.length : Int) then (if 0 ≤ (wrap64 ((wrap64 (8 - (Int.tmod x1001_3 8))) - (ji17))) then (if 0 ≤ (ji17) then (bits_Reader_Take.l0 k3 (wrap64 (x5_3 - (ji17))) (Go.bits .or .u64 (shl .u64 x6_3 (ji17)) (IntKind.u64.wrap (Go.bits .and .u8 (shr .u8 (rd s0_0 (wrap64 (Int.tdiv x1001_3 8))) (wrap64 ((wrap64 (8 - (Int.tmod x1001_3 8))) - (ji17)))) (((shl .u8 1 (ji17)) - 1) % 256)))) s0_0 (wrap64 (x1001_3 + (ji17))) x1002_10) else (none)) else (none)) else (none)) else (none)) = some (r1, r2, r3) := by first | (rw [hji17] at H; exact H) | (simp only [hji17] at H ⊢; exact H)
        have hji17_ : (if x5_3 < (wrap64 (8 - (Int.tmod x1001_3 8))) then x5_3 else (wrap64 (8 - (Int.tmod x1001_3 8)))) = ji17 := hji17
        obtain ⟨ji18, hji18⟩ : ∃ j_ : Int, (wrap64 (Int.tdiv x1001_3 8)) = j_ := ⟨_, rfl⟩
        replace H : (if 0 ≤ (ji18) then (if (ji18) < (s0_0.length : Int) then (if 0 ≤ (wrap64 ((wrap64 (8 - (Int.tmod x1001_3 8))) - (ji17))) then (if 0 ≤ (ji17) then (bits_Reader_Take.l0 k3 (wrap64 (x5_3 - (ji17))) (Go.bits .or .u64 (shl .u64 x6_3 (ji17)) (IntKind.u64.wrap (Go.bits .and .u8 (shr .u8 (rd s0_0 (ji18)) (wrap64 ((wrap64 (8 - (Int.tmod x1001_3 8))) - (ji17)))) (((shl .u8 1 (ji17)) - 1) % 256)))) s0_0 (wrap64 (x1001_3 + (ji17))) x1002_10) else (none)) else (none)) else (none)) else (none)) = some (r1, r2, r3) := by first | (rw [hji18] at H; exact H) | (simp only [hji18] at H ⊢; exact H)
        have hji18w : (IntKind.i64.wrap (Int.tdiv x1001_3 8)) = ji18 := (i64_w _).trans hji18
        by_cases c19 : 0 ≤ (ji18)
        · rw [if_pos c19] at H
          have c19b0 : decide (0 ≤ (ji18)) = true := decide_eq_true c19
          clear c19
          by_cases c20 : (ji18) < (s0_0.length : Int)
          · rw [if_pos c20] at H
            have c20b0 : decide ((ji18) < (s0_0.length : Int)) = true := decide_eq_true c20
            clear c20
            obtain ⟨ji21, hji21⟩ : ∃ j_ : Int, (wrap64 ((wrap64 (8 - (Int.tmod x1001_3 8))) - (ji17))) = j_ := ⟨_, rfl⟩
            replace H : (if 0 ≤ (ji21) then (if 0 ≤ (ji17) then (bits_Reader_Take.l0 k3 (wrap64 (x5_3 - (ji17))) (Go.bits .or .u64 (shl .u64 x6_3 (ji17)) (IntKind.u64.wrap (Go.bits .and .u8 (shr .u8 (rd s0_0 (ji18)) (ji21)) (((shl .u8 1 (ji17)) - 1) % 256)))) s0_0 (wrap64 (x1001_3 + (ji17))) x1002_10) else (none)) else (none)) = some (r1, r2, r3) := by first | (rw [hji21] at H; exact H) | (simp only [hji21] at H ⊢; exact H)
            have hji21w : (IntKind.i64.wrap ((wrap64 (8 - (Int.tmod x1001_3 8))) - (ji17))) = ji21 := (i64_w _).trans hji21
            by_cases c22 : 0 ≤ (ji21)
            · rw [if_pos c22] at H
              have c22b0 := eq_true c22
              have c22b1 : decide (0 ≤ (ji21)) = true := decide_eq_true c22
              clear c22
              obtain ⟨ji23, hji23⟩ : ∃ j_ : Int, (shr .u8 (rd s0_0 (ji18)) (ji21)) = j_ := ⟨_, rfl⟩
              replace H : (if 0 ≤ (ji17) then (bits_Reader_Take.l0 k3 (wrap64 (x5_3 - (ji17))) (Go.bits .or .u64 (shl .u64 x6_3 (ji17)) (IntKind.u64.wrap (Go.bits .and .u8 (ji23) (((shl .u8 1 (ji17)) - 1) % 256)))) s0_0 (wrap64 (x1001_3 + (ji17))) x1002_10) else (none)) = some (r1, r2, r3) := by first | (rw [hji23] at H; exact H) | (simp only [hji23] at H ⊢; exact H)
              have hji23_ : ((rd s0_0 (ji18)) / 2 ^ min (ji21).toNat 8) = ji23 := hji23
              have hji23z : (ji21) ≤ 8 → ((rd s0_0 (ji18)) / 2 ^ (ji21).toNat) = ji23 := shr_small hji23
              by_cases c24 : 0 ≤ (ji17)
              · rw [if_pos c24] at H
                have c24b0 := eq_true c24
                have c24b1 : decide (0 ≤ (ji17)) = true := decide_eq_true c24
                clear c24
                obtain ⟨ji25, hji25⟩ : ∃ j_ : Int, (shl .u8 1 (ji17)) = j_ := ⟨_, rfl⟩
                replace H : (bits_Reader_Take.l0 k3 (wrap64 (x5_3 - (ji17))) (Go.bits .or .u64 (shl .u64 x6_3 (ji17)) (IntKind.u64.wrap (Go.bits .and .u8 (ji23) (((ji25) - 1) % 256)))) s0_0 (wrap64 (x1001_3 + (ji17))) x1002_10) = some (r1, r2, r3) := by first | (rw [hji25] at H; exact H) | (simp only [hji25] at H ⊢; exact H)
                have hji25_ : (IntKind.u8.wrap (1 * 2 ^ min (ji17).toNat 8)) = ji25 := hji25
                have hji25z : (ji17) ≤ 8 → (IntKind.u8.wrap (1 * 2 ^ (ji17).toNat)) = ji25 := shl_small hji25
                have hji25u : (IntKind.u8.wrap (2 ^ min (ji17).toNat 8)) = ji25 := by have h_ := hji25_; rw [Int.one_mul] at h_; exact h_
                have hji25v : (ji17) ≤ 8 → (IntKind.u8.wrap (2 ^ (ji17).toNat)) = ji25 := fun hle_ => by have h_ := hji25z hle_; rw [Int.one_mul] at h_; exact h_
                have c26b0 := eq_true (of_decide_eq_true (by first | (with_reducible assumption) | assumption) : 0 ≤ (ji17))
                obtain ⟨ji27, hji27⟩ : ∃ j_ : Int, (shl .u64 x6_3 (ji17)) = j_ := ⟨_, rfl⟩
                replace H : (bits_Reader_Take.l0 k3 (wrap64 (x5_3 - (ji17))) (Go.bits .or .u64 (ji27) (IntKind.u64.wrap (Go.bits .and .u8 (ji23) (((ji25) - 1) % 256)))) s0_0 (wrap64 (x1001_3 + (ji17))) x1002_10) = some (r1, r2, r3) := by first | (rw [hji27] at H; exact H) | (simp only [hji27] at H ⊢; exact H)
                have hji27_ : (IntKind.u64.wrap (x6_3 * 2 ^ min (ji17).toNat 64)) = ji27 := hji27
                have hji27z : (ji17) ≤ 64 → (IntKind.u64.wrap (x6_3 * 2 ^ (ji17).toNat)) = ji27 := shl_small hji27
                have H' := zF.mk H
                clear H
                obtain ⟨ASz28_0, cSz28_0, HGz28, hgz28, HSz28_0⟩ := HI0.out
                have hcz28_0 := cellS71_0 HGz28
                have hcz28_1 := cellS71_1 HGz28
                have hcz28_2 := cellS71_2 HGz28
                have hfz28_1 := zN HGz28 1
                have hfz28_2 := zN HGz28 2
                clear HGz28 hgz28
                have p189 : 0 ≤ ((ji18) : Int) := of_decide_eq_true (by first | (with_reducible assumption) | assumption)
                have q189 : (ji18) < (s0_0.length : Int) := of_decide_eq_true (by first | (with_reducible assumption) | assumption)
                obtain ⟨ad189, e189, hx189_0⟩ := Kd.at_int (Kd.R_reads' HSz28_0).2.2 (ji18) p189 q189
                cases e189
                skip
                replace p189 := eq_true p189
                replace q189 := eq_true q189
                go_wp2
                repeat (go_quiet (fail); try go_wp2)
                go_step3
                refine ⟨rfl, hK_ _ _ ?_⟩
                go_roundg k3
                case measure => have := HK3.out; omega
                case rel => exact ⟨(wrap64 (x5_3 - (ji17))), (Go.bits .or .u64 (ji27) (IntKind.u64.wrap (Go.bits .and .u8 (ji23) (((ji25) - 1) % 256)))), (wrap64 (x1001_3 + (ji17))), (x1002_10), (by first | rfl | (simp; done) | (simp only [← hji17] <;> (first | rfl | simp)) | (simp [*]; done)), (by first | rfl | (simp; done) | (simp only [← hji23, ← hji25, ← hji27] <;> (first | rfl | simp)) | (simp [*]; done)), H', ⟨by have := HK3.out; omega⟩, ⟨by repeat (first | (with_reducible first | exact HI0.out | apply zG.alloc | apply zG.drewN | apply zG.drew | apply zG.set_1 | apply zG.set_2) | exact HI0.out)⟩, ⟨by repeat (first | (with_reducible first | exact HK.out | apply zI.set_ | apply zV | apply zW | apply zX) | exact HK.out)⟩, ⟨by repeat (first | (with_reducible first | exact HB.out | apply zE | apply zB | apply zC | refine zD ?_ (zG.ge HI0.out)) | exact HB.out)⟩⟩
              · rw [if_neg c24] at H
                exact absurd H (by simp)
            · rw [if_neg c22] at H
              exact absurd H (by simp)
          · rw [if_neg c20] at H
            exact absurd H (by simp)
        · rw [if_neg c19] at H
          exact absurd H (by simp)
  case first =>
    intro K_ hR_
    go_upto_region 2 with (first | (go_at_call 45; (with_reducible refine (bits_held.calls a1 t185 _ A3.out).mono ?_); rintro e w5 ⟨rfl, hb⟩; have n0_ := zF.mk (zG.below (by repeat (first | (with_reducible first | exact HI0.out | apply zG.alloc | apply zG.drewN | apply zG.drew | apply zG.set_1 | apply zG.set_2) | exact HI0.out)) hb); have n1_ := zF.mk (zI.trans (by repeat (first | (with_reducible first | exact HK.out | apply zI.set_ | apply zV | apply zW | apply zX) | exact HK.out)) (zI.of_below hb g none) (.inl rfl)); have n2_ := zF.mk (below_step (by repeat (first | (with_reducible first | exact HB.out | apply zE | apply zB | apply zC | refine zD ?_ (zG.ge HI0.out)) | exact HB.out)) hb); clear HI0; clear HK; clear HB; have HI0 := n0_; have HK := n1_; have HB := n2_; clear n0_ n1_ n2_; (try clear hb); (try clear hb2); (try clear hk); (try clear hi)))
    repeat (go_quiet (first | (go_at_call 45; (with_reducible refine (bits_held.calls a1 t185 _ A3.out).mono ?_); rintro e w5 ⟨rfl, hb⟩; have n0_ := zF.mk (zG.below (by repeat (first | (with_reducible first | exact HI0.out | apply zG.alloc | apply zG.drewN | apply zG.drew | apply zG.set_1 | apply zG.set_2) | exact HI0.out)) hb); have n1_ := zF.mk (zI.trans (by repeat (first | (with_reducible first | exact HK.out | apply zI.set_ | apply zV | apply zW | apply zX) | exact HK.out)) (zI.of_below hb g none) (.inl rfl)); have n2_ := zF.mk (below_step (by repeat (first | (with_reducible first | exact HB.out | apply zE | apply zB | apply zC | refine zD ?_ (zG.ge HI0.out)) | exact HB.out)) hb); clear HI0; clear HK; clear HB; have HI0 := n0_; have HK := n1_; have HB := n2_; clear n0_ n1_ n2_; (try clear hb); (try clear hb2); (try clear hk); (try clear hi))); go_upto_region 2 with (first | (go_at_call 45; (with_reducible refine (bits_held.calls a1 t185 _ A3.out).mono ?_); rintro e w5 ⟨rfl, hb⟩; have n0_ := zF.mk (zG.below (by repeat (first | (with_reducible first | exact HI0.out | apply zG.alloc | apply zG.drewN | apply zG.drew | apply zG.set_1 | apply zG.set_2) | exact HI0.out)) hb); have n1_ := zF.mk (zI.trans (by repeat (first | (with_reducible first | exact HK.out | apply zI.set_ | apply zV | apply zW | apply zX) | exact HK.out)) (zI.of_below hb g none) (.inl rfl)); have n2_ := zF.mk (below_step (by repeat (first | (with_reducible first | exact HB.out | apply zE | apply zB | apply zC | refine zD ?_ (zG.ge HI0.out)) | exact HB.out)) hb); clear HI0; clear HK; clear HB; have HI0 := n0_; have HK := n1_; have HB := n2_; clear n0_ n1_ n2_; (try clear hb); (try clear hb2); (try clear hk); (try clear hi))))
    (try simp only [Act.put, List.setIfInBounds_toArray, List.set_cons_zero, List.set_cons_succ])
    go_cut [22] (fun v22 wc => ∃ (kq : Nat) (x22_3 : Bool) (x1001_3 : Int) (x1002_3 : Int), v22 = .bool x22_3 ∧ zF (bits_Reader_Take.j0 kq t185 x22_3 s0_0 x1001_3 x1002_3 = some (r1, r2, r3)) ∧ zF (kq ≤ k) ∧ zF (zG w0 wc g s0_0 x1001_3 x1002_3) ∧ zF (zI w wc g none) ∧ zF (Below w0.heap.size w0 wc))
    case first =>
      have H := HC4.out
      clear HC4
      by_cases c6 : s0_2 = 0
      · rw [if_pos c6] at H
        have c6b0 : (s0_2 == 0) = true := beq_iff_eq.mpr c6
        have c6b1 : (s0_2 != 0) = false := bne_eq_false_iff_eq.mpr c6
        clear c6
        (first | rw [c6b0] | (simp only [i64_w, i32_w]; rw [c6b0]) | skip)
        replace H := Option.bind_eq_some_iff.mp H
        obtain ⟨⟨t186, t187, t188⟩, A70, H⟩ := H
        replace H : (bits_Reader_Take.j0 k t185 (decide (t185 > t186)) s0_0 t187 t188) = some (r1, r2, r3) := H
        have A7 := zF.mk A70
        clear A70
        have H' := zF.mk H
        clear H
        obtain ⟨ASz8_0, cSz8_0, HGz8, hgz8, HSz8_0⟩ := HI0.out
        have hcz8_0 := cellS71_0 HGz8
        have hcz8_1 := cellS71_1 HGz8
        have hcz8_2 := cellS71_2 HGz8
        have hfz8_1 := zN HGz8 1
        have hfz8_2 := zN HGz8 2
        clear HGz8 hgz8
        go_wp2_with (first | (go_at_call 50; (with_reducible refine (bits_Reader_Left.calls g s0_0 s0_1 s0_2 t186 t187 t188 w0 _ ?side1 ?side2 A7.out).mono ?_); (case side1 => repeat (first | (with_reducible first | exact HI0.out | apply zG.alloc | apply zG.drewN | apply zG.drew | apply zG.set_1 | apply zG.set_2) | exact HI0.out)); (case side2 => repeat (first | (with_reducible first | exact HB.out | apply zE | apply zB | apply zC | refine zD ?_ (zG.ge HI0.out)) | exact HB.out)); rintro e w9 ⟨rfl, hi, hb, hk⟩; have n0_ := zF.mk (zI.trans (by repeat (first | (with_reducible first | exact HK.out | apply zI.set_ | apply zV | apply zW | apply zX) | exact HK.out)) hk (.inl rfl)); have n1_ := zF.mk (hb); have n2_ := zF.mk (hi); clear HK; clear HB; clear HI0; have HK := n0_; have HB := n1_; have HI0 := n2_; clear n0_ n1_ n2_; (try clear hb); (try clear hb2); (try clear hk); (try clear hi)))
        repeat (go_quiet (first | (go_at_call 50; (with_reducible refine (bits_Reader_Left.calls g s0_0 s0_1 s0_2 t186 t187 t188 w0 _ ?side1 ?side2 A7.out).mono ?_); (case side1 => repeat (first | (with_reducible first | exact HI0.out | apply zG.alloc | apply zG.drewN | apply zG.drew | apply zG.set_1 | apply zG.set_2) | exact HI0.out)); (case side2 => repeat (first | (with_reducible first | exact HB.out | apply zE | apply zB | apply zC | refine zD ?_ (zG.ge HI0.out)) | exact HB.out)); rintro e w9 ⟨rfl, hi, hb, hk⟩; have n0_ := zF.mk (zI.trans (by repeat (first | (with_reducible first | exact HK.out | apply zI.set_ | apply zV | apply zW | apply zX) | exact HK.out)) hk (.inl rfl)); have n1_ := zF.mk (hb); have n2_ := zF.mk (hi); clear HK; clear HB; clear HI0; have HK := n0_; have HB := n1_; have HI0 := n2_; clear n0_ n1_ n2_; (try clear hb); (try clear hb2); (try clear hk); (try clear hi))); try go_wp2_with (first | (go_at_call 50; (with_reducible refine (bits_Reader_Left.calls g s0_0 s0_1 s0_2 t186 t187 t188 w0 _ ?side1 ?side2 A7.out).mono ?_); (case side1 => repeat (first | (with_reducible first | exact HI0.out | apply zG.alloc | apply zG.drewN | apply zG.drew | apply zG.set_1 | apply zG.set_2) | exact HI0.out)); (case side2 => repeat (first | (with_reducible first | exact HB.out | apply zE | apply zB | apply zC | refine zD ?_ (zG.ge HI0.out)) | exact HB.out)); rintro e w9 ⟨rfl, hi, hb, hk⟩; have n0_ := zF.mk (zI.trans (by repeat (first | (with_reducible first | exact HK.out | apply zI.set_ | apply zV | apply zW | apply zX) | exact HK.out)) hk (.inl rfl)); have n1_ := zF.mk (hb); have n2_ := zF.mk (hi); clear HK; clear HB; clear HI0; have HK := n0_; have HB := n1_; have HI0 := n2_; clear n0_ n1_ n2_; (try clear hb); (try clear hb2); (try clear hk); (try clear hi))))
        go_meet
        case rel => exact ⟨_, (decide (t185 > t186)), (t187), (t188), (by first | rfl | (simp; done) | (simp only [i64_w, i32_w]; done) | (simp [*]; done) | (simp only [i64_w, i32_w]; first | rfl | (simp; done) | (simp [*]; done))), H', ⟨by first | omega | exact Nat.le_refl _⟩, ⟨by repeat (first | (with_reducible first | exact HI0.out | apply zG.alloc | apply zG.drewN | apply zG.drew | apply zG.set_1 | apply zG.set_2) | exact HI0.out)⟩, ⟨by repeat (first | (with_reducible first | exact HK.out | apply zI.set_ | apply zV | apply zW | apply zX) | exact HK.out)⟩, ⟨by repeat (first | (with_reducible first | exact HB.out | apply zE | apply zB | apply zC | refine zD ?_ (zG.ge HI0.out)) | exact HB.out)⟩⟩
      · rw [if_neg c6] at H
        have c6b0 : (s0_2 == 0) = false := beq_eq_false_iff_ne.mpr c6
        have c6b1 : (s0_2 != 0) = true := bne_iff_ne.mpr c6
        (first | rw [c6b0] | (simp only [i64_w, i32_w]; rw [c6b0]) | skip)
        have H' := zF.mk H
        clear H
        obtain ⟨ASz10_0, cSz10_0, HGz10, hgz10, HSz10_0⟩ := HI0.out
        have hcz10_0 := cellS71_0 HGz10
        have hcz10_1 := cellS71_1 HGz10
        have hcz10_2 := cellS71_2 HGz10
        have hfz10_1 := zN HGz10 1
        have hfz10_2 := zN HGz10 2
        clear HGz10 hgz10
        go_wp2
        repeat (go_quiet (fail); try go_wp2)
        go_meet
        case rel => exact ⟨_, (false), (s0_1), (s0_2), (by first | rfl | (simp; done) | (simp only [i64_w, i32_w]; done) | (simp [*]; done) | (simp only [i64_w, i32_w]; first | rfl | (simp; done) | (simp [*]; done))), H', ⟨by first | omega | exact Nat.le_refl _⟩, ⟨by repeat (first | (with_reducible first | exact HI0.out | apply zG.alloc | apply zG.drewN | apply zG.drew | apply zG.set_1 | apply zG.set_2) | exact HI0.out)⟩, ⟨by repeat (first | (with_reducible first | exact HK.out | apply zI.set_ | apply zV | apply zW | apply zX) | exact HK.out)⟩, ⟨by repeat (first | (with_reducible first | exact HB.out | apply zE | apply zB | apply zC | refine zD ?_ (zG.ge HI0.out)) | exact HB.out)⟩⟩
    case rest =>
      clear HC4
      try clear c1
      try clear p2
      try clear c6
      try clear c6b0
      try clear c6b1
      try clear hcz10_0
      try clear hcz10_1
      try clear hcz10_2
      try clear hcz8_0
      try clear hcz8_1
      try clear hcz8_2
      try clear hfz10_1
      try clear hfz10_2
      try clear hfz8_1
      try clear hfz8_2
      obtain ⟨kq, x22_3, x1001_3, x1002_3, rfl, HA, HJ3, HI0, HK, HB⟩ := hcut
      cases kq with
      | zero => exact absurd HA.out (by simp [bits_Reader_Take.j0])
      | succ kj3 =>
        have H := HA.out
        clear HA
        simp only [bits_Reader_Take.j0] at H
        have HC11 := zF.mk H
        clear H
        go_upto_if 22 with (fail)
        repeat (go_quiet (fail); go_upto_if 22 with (fail))
        go_cut [] (fun wc => ∃ (kq : Nat) (x1002_10 : Int), zF (bits_Reader_Take.j1 kq t185 s0_0 x1001_3 x1002_10 = some (r1, r2, r3)) ∧ zF (kq ≤ kj3) ∧ zF (zG w0 wc g s0_0 x1001_3 x1002_10) ∧ zF (zI w wc g none) ∧ zF (Below w0.heap.size w0 wc))
        case first =>
          have H := HC11.out
          clear HC11
          by_cases c12 : x22_3 = true
          · subst c12
            have H1 : (bits_Reader_Take.j1 kj3 t185 s0_0 x1001_3 2) = some (r1, r2, r3) := by rw [if_pos rfl] at H; exact H
            clear H
            have H := H1
            clear H1
            have H' := zF.mk H
            clear H
            obtain ⟨ASz13_0, cSz13_0, HGz13, hgz13, HSz13_0⟩ := HI0.out
            have hcz13_0 := cellS71_0 HGz13
            have hcz13_1 := cellS71_1 HGz13
            have hcz13_2 := cellS71_2 HGz13
            have hfz13_1 := zN HGz13 1
            have hfz13_2 := zN HGz13 2
            clear HGz13 hgz13
            go_wp2
            repeat (go_quiet (fail); try go_wp2)
            go_meet
            case rel => exact ⟨_, (2), H', ⟨by have := HJ3.out; first | omega | exact Nat.le_refl _⟩, ⟨by repeat (first | (with_reducible first | exact HI0.out | apply zG.alloc | apply zG.drewN | apply zG.drew | apply zG.set_1 | apply zG.set_2) | exact HI0.out)⟩, ⟨by repeat (first | (with_reducible first | exact HK.out | apply zI.set_ | apply zV | apply zW | apply zX) | exact HK.out)⟩, ⟨by repeat (first | (with_reducible first | exact HB.out | apply zE | apply zB | apply zC | refine zD ?_ (zG.ge HI0.out)) | exact HB.out)⟩⟩
          · replace c12 := Bool.eq_false_iff.mpr c12
            subst c12
            have H1 : (bits_Reader_Take.j1 kj3 t185 s0_0 x1001_3 x1002_3) = some (r1, r2, r3) := by rw [if_neg (show ¬ (false = true) by decide)] at H; exact H
            clear H
            have H := H1
            clear H1
            have H' := zF.mk H
            clear H
            go_wp2
            repeat (go_quiet (fail); try go_wp2)
            go_meet
            case rel => exact ⟨_, (x1002_3), H', ⟨by have := HJ3.out; first | omega | exact Nat.le_refl _⟩, ⟨by repeat (first | (with_reducible first | exact HI0.out | apply zG.alloc | apply zG.drewN | apply zG.drew | apply zG.set_1 | apply zG.set_2) | exact HI0.out)⟩, ⟨by repeat (first | (with_reducible first | exact HK.out | apply zI.set_ | apply zV | apply zW | apply zX) | exact HK.out)⟩, ⟨by repeat (first | (with_reducible first | exact HB.out | apply zE | apply zB | apply zC | refine zD ?_ (zG.ge HI0.out)) | exact HB.out)⟩⟩
        case rest =>
          clear HC11
          try clear c1
          try clear p2
          try clear c6
          try clear c6b0
          try clear c6b1
          try clear c12
          try clear hcz10_0
          try clear hcz10_1
          try clear hcz10_2
          try clear hcz13_0
          try clear hcz13_1
          try clear hcz13_2
          try clear hcz8_0
          try clear hcz8_1
          try clear hcz8_2
          try clear hfz10_1
          try clear hfz10_2
          try clear hfz13_1
          try clear hfz13_2
          try clear hfz8_1
          try clear hfz8_2
          try clear p2
          obtain ⟨kq, x1002_10, HA, HJ10, HI0, HK, HB⟩ := hcut
          cases kq with
          | zero => exact absurd HA.out (by simp [bits_Reader_Take.j1])
          | succ kj10 =>
            have H := HA.out
            clear HA
            simp only [bits_Reader_Take.j1] at H
            by_cases c14 : x1002_10 = 0
            · rw [if_pos c14] at H
              have c14b0 : (x1002_10 == 0) = true := beq_iff_eq.mpr c14
              have c14b1 : (x1002_10 != 0) = false := bne_eq_false_iff_eq.mpr c14
              clear c14
              have H' := zF.mk H
              clear H
              obtain ⟨ASz15_0, cSz15_0, HGz15, hgz15, HSz15_0⟩ := HI0.out
              have hcz15_0 := cellS71_0 HGz15
              have hcz15_1 := cellS71_1 HGz15
              have hcz15_2 := cellS71_2 HGz15
              have hfz15_1 := zN HGz15 1
              have hfz15_2 := zN HGz15 2
              clear HGz15 hgz15
              go_wp2
              repeat (go_quiet (fail); try go_wp2)
              go_wp2
              go_step3
              go_step
              go_step
              refine hR_ kj10 _ _ ?_
              repeat apply Exists.intro
              refine ⟨?_, rfl⟩
              exact ⟨(t185), (0), (x1001_3), (x1002_10), (by first | rfl | (simp; done) | (simp only [i64_w, i32_w]; done) | (simp [*]; done) | (simp only [i64_w, i32_w]; first | rfl | (simp; done) | (simp [*]; done))), (by first | rfl | (simp; done) | (simp only [i64_w, i32_w]; done) | (simp [*]; done) | (simp only [i64_w, i32_w]; first | rfl | (simp; done) | (simp [*]; done))), H', ⟨Nat.le_refl _⟩, ⟨by repeat (first | (with_reducible first | exact HI0.out | apply zG.alloc | apply zG.drewN | apply zG.drew | apply zG.set_1 | apply zG.set_2) | exact HI0.out)⟩, ⟨by repeat (first | (with_reducible first | exact HK.out | apply zI.set_ | apply zV | apply zW | apply zX) | exact HK.out)⟩, ⟨by repeat (first | (with_reducible first | exact HB.out | apply zE | apply zB | apply zC | refine zD ?_ (zG.ge HI0.out)) | exact HB.out)⟩⟩
            · rw [if_neg c14] at H
              have c14b0 : (x1002_10 == 0) = false := beq_eq_false_iff_ne.mpr c14
              have c14b1 : (x1002_10 != 0) = true := bne_iff_ne.mpr c14
              simp only [Option.some.injEq, Prod.mk.injEq] at H
              obtain ⟨rfl, rfl, rfl⟩ := H
              obtain ⟨ASz29_0, cSz29_0, HGz29, hgz29, HSz29_0⟩ := HI0.out
              have hcz29_0 := cellS71_0 HGz29
              have hcz29_1 := cellS71_1 HGz29
              have hcz29_2 := cellS71_2 HGz29
              have hfz29_1 := zN HGz29 1
              have hfz29_2 := zN HGz29 2
              clear HGz29 hgz29
              go_wp2
              repeat (go_quiet (fail); try go_wp2)
              (try simp only [Exit.jump])
              go_ret
              exact ⟨by first | rfl | (simp [errW_none, errW_some] <;> rfl) | (simp [*, errW_none, errW_some] <;> rfl), by repeat (first | (with_reducible first | exact HI0.out | apply zG.alloc | apply zG.drewN | apply zG.drew | apply zG.set_1 | apply zG.set_2) | exact HI0.out), by repeat (first | (with_reducible first | exact HB.out | apply zE | apply zB | apply zC | refine zD ?_ (zG.ge HI0.out)) | exact HB.out), by repeat (first | (with_reducible first | exact HK.out | apply zI.set_ | apply zV | apply zW | apply zX) | exact HK.out)⟩
end Go.Proofs.Ytokdjeoecnnckaa.PA
end
section
namespace Go.Proofs.Ytokdjeoecnnckaa.PA
open Go.RowKit Go.Proofs.YtokdjeoecnnckaaW.PrintWords Go.Proofs.YtokdjeoecnnckaaW.PrintLast Go.Proofs.YtokdjeoecnnckaaW.PrintMore
attribute [local go_sem] max2_int min2_int max_two min_two max_three min_three max_four min_four   -- for this text's walks alone
set_option linter.unusedVariables false
set_option linter.unusedSimpArgs false

def bits_Reader_Fail.f (s0_0 : List Int) (s0_1 : Int) (s0_2 : Int) : Option (Int × Int × Int) := some (s0_2, s0_1, s0_2)
set_option maxHeartbeats 8000000 in
set_option maxRecDepth 100000 in
theorem bits_Reader_Fail.calls (g : Nat) (s0_0 : List Int) (s0_1 : Int) (s0_2 : Int) (r1 : Int) (r2 : Int) (r3 : Int) (w0 w : World) (hI : zG w0 w g s0_0 s0_1 s0_2) (hB : Below w0.heap.size w0 w) (h : bits_Reader_Fail.f s0_0 s0_1 s0_2 = some (r1, r2, r3)) :
    Calls Try.prog 33 #[.pointer (some ⟨g, 0, none⟩)] w fun e w' => e = .returned (.int .i64 r1) ∧ zG w0 w' g s0_0 r2 r3 ∧ Below w0.heap.size w0 w' ∧ zI w w' g none := by
  have HI0 := zF.mk hI
  have HK := zF.mk (zI.refl w g none)
  have HL := zF.mk hB.size
  clear hI
  have HW0 := zF.mk hB.size
  have HB := zF.mk hB
  clear hB
  have H : (some (s0_2, s0_1, s0_2)) = some (r1, r2, r3) := h
  clear h
  simp only [Option.some.injEq, Prod.mk.injEq] at H
  obtain ⟨rfl, rfl, rfl⟩ := H
  obtain ⟨ASz2_0, cSz2_0, HGz2, hgz2, HSz2_0⟩ := HI0.out
  have hcz2_0 := cellS71_0 HGz2
  have hcz2_1 := cellS71_1 HGz2
  have hcz2_2 := cellS71_2 HGz2
  have hfz2_1 := zN HGz2 1
  have hfz2_2 := zN HGz2 2
  clear HGz2 hgz2
  go_enter Try.func33, Try.ntmps33
  go_wp2
  go_ret
  exact ⟨by first | rfl | (simp [errW_none, errW_some] <;> rfl) | (simp [*, errW_none, errW_some] <;> rfl), by repeat (first | (with_reducible first | exact HI0.out | apply zG.alloc | apply zG.drewN | apply zG.drew | apply zG.set_1 | apply zG.set_2) | exact HI0.out), by repeat (first | (with_reducible first | exact HB.out | apply zE | apply zB | apply zC | refine zD ?_ (zG.ge HI0.out)) | exact HB.out), by repeat (first | (with_reducible first | exact HK.out | apply zI.set_ | apply zV | apply zW | apply zX) | exact HK.out)⟩

def section_part.f (k : Nat) (s0_0 : List Int) (s0_1 : Int) (s0_2 : Int) (a1 : Bool) : Option (Int × Bool × Int × Int) := (section_size.f a1).bind fun t230 => ((bits_Reader_Take.f k s0_0 s0_1 s0_2 t230).bind fun bt231 => ((section_size.f a1).bind fun t234 => (if 0 ≤ t234 then (if (wrap64 (bt231.1)) = (wrap64 ((shl .i64 1 t234) - 1)) then ((bits_Reader_Take.f k s0_0 bt231.2.1 bt231.2.2 5).bind fun bt235 => (some (wrap64 (bt235.1), true, bt235.2.1, bt235.2.2))) else (some (wrap64 (bt231.1), false, bt231.2.1, bt231.2.2))) else (none))))
set_option maxHeartbeats 8000000 in
set_option maxRecDepth 100000 in
theorem section_part.calls (k : Nat) (g : Nat) (s0_0 : List Int) (s0_1 : Int) (s0_2 : Int) (a1 : Bool) (r1 : Int) (r2 : Bool) (r3 : Int) (r4 : Int) (w0 w : World) (hI : zG w0 w g s0_0 s0_1 s0_2) (hB : Below w0.heap.size w0 w) (h : section_part.f k s0_0 s0_1 s0_2 a1 = some (r1, r2, r3, r4)) :
    Calls Try.prog 34 #[.pointer (some ⟨g, 0, none⟩), .bool a1] w fun e w' => e = .returned (.agg #[.int .i64 r1, .bool r2]) ∧ zG w0 w' g s0_0 r3 r4 ∧ Below w0.heap.size w0 w' ∧ zI w w' g none := by
  have hu50 := Try.underlying50
  have HI0 := zF.mk hI
  have HK := zF.mk (zI.refl w g none)
  have HL := zF.mk hB.size
  clear hI
  have HW0 := zF.mk hB.size
  have HB := zF.mk hB
  clear hB
  have H : ((section_size.f a1).bind fun t230 => ((bits_Reader_Take.f k s0_0 s0_1 s0_2 t230).bind fun bt231 => ((section_size.f a1).bind fun t234 => (if 0 ≤ t234 then (if (wrap64 (bt231.1)) = (wrap64 ((shl .i64 1 t234) - 1)) then ((bits_Reader_Take.f k s0_0 bt231.2.1 bt231.2.2 5).bind fun bt235 => (some (wrap64 (bt235.1), true, bt235.2.1, bt235.2.2))) else (some (wrap64 (bt231.1), false, bt231.2.1, bt231.2.2))) else (none))))) = some (r1, r2, r3, r4) := h
  clear h
  replace H := Option.bind_eq_some_iff.mp H
  obtain ⟨t230, A30, H⟩ := H
  replace H : ((bits_Reader_Take.f k s0_0 s0_1 s0_2 t230).bind fun bt231 => ((section_size.f a1).bind fun t234 => (if 0 ≤ t234 then (if (wrap64 (bt231.1)) = (wrap64 ((shl .i64 1 t234) - 1)) then ((bits_Reader_Take.f k s0_0 bt231.2.1 bt231.2.2 5).bind fun bt235 => (some (wrap64 (bt235.1), true, bt235.2.1, bt235.2.2))) else (some (wrap64 (bt231.1), false, bt231.2.1, bt231.2.2))) else (none)))) = some (r1, r2, r3, r4) := H
  have A3 := zF.mk A30
  clear A30
  replace H := Option.bind_eq_some_iff.mp H
  obtain ⟨⟨t231, t232, t233⟩, A40, H⟩ := H
  replace H : ((section_size.f a1).bind fun t234 => (if 0 ≤ t234 then (if (wrap64 (t231)) = (wrap64 ((shl .i64 1 t234) - 1)) then ((bits_Reader_Take.f k s0_0 t232 t233 5).bind fun bt235 => (some (wrap64 (bt235.1), true, bt235.2.1, bt235.2.2))) else (some (wrap64 (t231), false, t232, t233))) else (none))) = some (r1, r2, r3, r4) := H
  have A4 := zF.mk A40
  clear A40
  replace H := Option.bind_eq_some_iff.mp H
  obtain ⟨t234, A50, H⟩ := H
  replace H : (if 0 ≤ t234 then (if (wrap64 (t231)) = (wrap64 ((shl .i64 1 t234) - 1)) then ((bits_Reader_Take.f k s0_0 t232 t233 5).bind fun bt235 => (some (wrap64 (bt235.1), true, bt235.2.1, bt235.2.2))) else (some (wrap64 (t231), false, t232, t233))) else (none)) = some (r1, r2, r3, r4) := H
  have A5 := zF.mk A50
  clear A50
  by_cases c6 : 0 ≤ t234
  · rw [if_pos c6] at H
    have c6b0 := eq_true c6
    have c6b1 : decide (0 ≤ t234) = true := decide_eq_true c6
    clear c6
    obtain ⟨ji7, hji7⟩ : ∃ j_ : Int, (shl .i64 1 t234) = j_ := ⟨_, rfl⟩
    replace H : (if (wrap64 (t231)) = (wrap64 ((ji7) - 1)) then ((bits_Reader_Take.f k s0_0 t232 t233 5).bind fun bt235 => (some (wrap64 (bt235.1), true, bt235.2.1, bt235.2.2))) else (some (wrap64 (t231), false, t232, t233))) = some (r1, r2, r3, r4) := by first | (rw [hji7] at H; exact H) | (simp only [hji7] at H ⊢; exact H)
    (try rw [hji7] at A3)
    (try rw [hji7] at A4)
    (try rw [hji7] at A5)
    have hji7_ : (IntKind.i64.wrap (1 * 2 ^ min t234.toNat 64)) = ji7 := hji7
    have hji7z : t234 ≤ 64 → (IntKind.i64.wrap (1 * 2 ^ t234.toNat)) = ji7 := shl_small hji7
    have hji7u : (IntKind.i64.wrap (2 ^ min t234.toNat 64)) = ji7 := by have h_ := hji7_; rw [Int.one_mul] at h_; exact h_
    have hji7v : t234 ≤ 64 → (IntKind.i64.wrap (2 ^ t234.toNat)) = ji7 := fun hle_ => by have h_ := hji7z hle_; rw [Int.one_mul] at h_; exact h_
    have hji7y : (wrap64 (1 * 2 ^ min t234.toNat 64)) = ji7 := (i64_w _).symm.trans hji7_
    have hji7x : t234 ≤ 64 → (wrap64 (1 * 2 ^ t234.toNat)) = ji7 := fun h_ => (i64_w _).symm.trans (hji7z h_)
    by_cases c8 : (wrap64 (t231)) = (wrap64 ((ji7) - 1))
    · rw [if_pos c8] at H
      have c8b0 : ((wrap64 (t231)) == (wrap64 ((ji7) - 1))) = true := beq_iff_eq.mpr c8
      have c8b1 : ((wrap64 (t231)) != (wrap64 ((ji7) - 1))) = false := bne_eq_false_iff_eq.mpr c8
      clear c8
      replace H := Option.bind_eq_some_iff.mp H
      obtain ⟨⟨t235, t236, t237⟩, A90, H⟩ := H
      replace H : (some (wrap64 (t235), true, t236, t237)) = some (r1, r2, r3, r4) := H
      have A9 := zF.mk A90
      clear A90
      simp only [Option.some.injEq, Prod.mk.injEq] at H
      obtain ⟨rfl, rfl, rfl, rfl⟩ := H
      go_enter Try.func34, Try.ntmps34
      go_wp2_with (first | ((with_reducible refine gate_dst (N := 4) rfl ?_); refine box_event ?hg (N := 4) ?hd (cs := #[.int .i64 0, .bool false]) (t := 50) ?hr ?_; (case hd => rfl); (case hg => rfl); (case hr => first | (go_simp; done) | (go_simp; rfl)); intro gb229 hg w10 hbox hb; have n0_ := zF.mk (zG.below (by repeat (first | (with_reducible first | exact HI0.out | apply zG.alloc | apply zG.drewN | apply zG.drew | apply zG.set_1 | apply zG.set_2) | exact HI0.out)) hb); have n1_ := zF.mk (zI.trans (by repeat (first | (with_reducible first | exact HK.out | apply zI.set_ | apply zV | apply zW | apply zX) | exact HK.out)) (zI.of_below hb g none) (.inl rfl)); have n2_ := zF.mk (below_step (by repeat (first | (with_reducible first | exact HB.out | apply zE | apply zB | apply zC | refine zD ?_ (zG.ge HI0.out)) | exact HB.out)) hb); have n3_ := zF.mk (hbox); have n4_ := zF.mk ((by rw [hg]; exact (keep_size (w := w) (g := g) (row := none) (by repeat (first | (with_reducible first | exact HK.out | apply zI.set_ | apply zV | apply zW | apply zX) | exact HK.out))) : w.heap.size ≤ gb229)); have n5_ := zF.mk ((Nat.le_trans HW0.out (by rw [hg]; exact (keep_size (w := w) (g := g) (row := none) (by repeat (first | (with_reducible first | exact HK.out | apply zI.set_ | apply zV | apply zW | apply zX) | exact HK.out))) : w.heap.size ≤ gb229) : w0.heap.size ≤ gb229)); have n6_ := zF.mk ((by rw [hg]; exact Nat.ne_of_lt (zG.lt (show zG w0 _ g s0_0 s0_1 s0_2 from by repeat (first | (with_reducible first | exact HI0.out | apply zG.alloc | apply zG.drewN | apply zG.drew | apply zG.set_1 | apply zG.set_2) | exact HI0.out))) : g ≠ gb229)); have n7_ := zF.mk ((by rw [hg]; exact Nat.ne_of_gt (zG.lt (show zG w0 _ g s0_0 s0_1 s0_2 from by repeat (first | (with_reducible first | exact HI0.out | apply zG.alloc | apply zG.drewN | apply zG.drew | apply zG.set_1 | apply zG.set_2) | exact HI0.out))) : gb229 ≠ g)); clear HI0; clear HK; clear HB; have HI0 := n0_; have HK := n1_; have HB := n2_; have BK229 := n3_; have GW229 := n4_; have GE229 := n5_; have NB0_229 := n6_; have NB229_0 := n7_; clear n0_ n1_ n2_ n3_ n4_ n5_ n6_ n7_; clear hb hbox hg) | ((with_reducible refine gate_callee (f := 26) rfl ?_); refine goesL_ (some 8) rfl rfl Try.func26 (by kernel_rfl) rfl #[.bool a1] rfl (by (try simp only [List.map_toArray, List.map_cons, List.map_nil]); first | done | rfl | (simp only [List.length_drop, List.length_take]; rfl)) ?_; (with_reducible refine (section_size.calls a1 t230 _ A3.out).mono ?_); rintro e w' ⟨rfl, ⟨nd, rfl⟩⟩; refine ⟨_, rfl, ?_⟩; (try (rw [drewN_self w10]; generalize hq_ : World.drewN w10 _ = w10; have n0_ : zF (w10.heap[gb229]? = some (.cells #[.int .i64 0, .bool false] 50 (0, 0))) := ⟨by rw [← hq_]; exact (by (with_reducible repeat (first | refine zK ?_ _ | refine zL ?_ | refine zJ ?_ _)); exact BK229.out)⟩; have n1_ : zF (zG w0 w10 g s0_0 s0_1 s0_2) := ⟨by rw [← hq_]; exact (by repeat (first | (with_reducible first | exact HI0.out | apply zG.alloc | apply zG.drewN | apply zG.drew | apply zG.set_1 | apply zG.set_2 | refine zG.farT (t := 50) (b := gb229) ?_ (by decide) (by repeat (first | exact zA.of BK229.out | apply zA.set | apply zA.drewN | apply zA.drew | apply zA.alloc)) _) | exact HI0.out))⟩; have n2_ : zF (zI w w10 g none) := ⟨by rw [← hq_]; exact (by repeat (first | (with_reducible first | exact HK.out | apply zI.set_ | apply zV | apply zW | apply zX | refine zY ?_ GW229.out _) | exact HK.out))⟩; have n3_ : zF (Below w0.heap.size w0 w10) := ⟨by rw [← hq_]; exact (by repeat (first | (with_reducible first | exact HB.out | apply zE | apply zB | apply zC | refine zD ?_ (zG.ge HI0.out) | refine zD ?_ GE229.out) | exact HB.out))⟩; clear BK229 HI0 HK HB hq_; have BK229 := n0_; have HI0 := n1_; have HK := n2_; have HB := n3_; clear n0_ n1_ n2_ n3_))) | ((with_reducible refine gate_callee (f := 32) rfl ?_); refine goesL_ (some 9) rfl rfl Try.func32 (by kernel_rfl) rfl #[.pointer (some ⟨g, 0, none⟩), .int .i64 t230] rfl (by (try simp only [List.map_toArray, List.map_cons, List.map_nil]); first | done | rfl | (simp only [List.length_drop, List.length_take]; rfl)) ?_; (with_reducible refine (bits_Reader_Take.calls k g s0_0 s0_1 s0_2 t230 t231 t232 t233 w0 _ ?side1 ?side2 A4.out).mono ?_); (case side1 => repeat (first | (with_reducible first | exact HI0.out | apply zG.alloc | apply zG.drewN | apply zG.drew | apply zG.set_1 | apply zG.set_2 | refine zG.farT (t := 50) (b := gb229) ?_ (by decide) (by repeat (first | exact zA.of BK229.out | apply zA.set | apply zA.drewN | apply zA.drew | apply zA.alloc)) _) | exact HI0.out)); (case side2 => repeat (first | (with_reducible first | exact HB.out | apply zE | apply zB | apply zC | refine zD ?_ (zG.ge HI0.out) | refine zD ?_ GE229.out) | exact HB.out)); rintro e w11 ⟨rfl, hi, hb, hk⟩; refine ⟨_, rfl, ?_⟩; have n0_ := zF.mk (zI.blk hk (g' := gb229) (o := .cells #[.int .i64 0, .bool false] 50 (0, 0)) (by (with_reducible repeat (first | refine zK ?_ _ | refine zL ?_ | refine zJ ?_ _)); exact BK229.out) NB229_0.out (by simp)); have n1_ := zF.mk (zI.trans (by repeat (first | (with_reducible first | exact HK.out | apply zI.set_ | apply zV | apply zW | apply zX | refine zY ?_ GW229.out _) | exact HK.out)) hk (.inl rfl)); have n2_ := zF.mk (hb); have n3_ := zF.mk (hi); clear BK229; clear HK; clear HB; clear HI0; have BK229 := n0_; have HK := n1_; have HB := n2_; have HI0 := n3_; clear n0_ n1_ n2_ n3_; (try clear hb); (try clear hb2); (try clear hk); (try clear hi)) | ((with_reducible refine gate_callee (f := 26) rfl ?_); refine goesL_ (some 13) rfl rfl Try.func26 (by kernel_rfl) rfl #[.bool a1] rfl (by (try simp only [List.map_toArray, List.map_cons, List.map_nil]); first | done | rfl | (simp only [List.length_drop, List.length_take]; rfl)) ?_; (with_reducible refine (section_size.calls a1 t234 _ A5.out).mono ?_); rintro e w' ⟨rfl, ⟨nd, rfl⟩⟩; refine ⟨_, rfl, ?_⟩; (try (rw [drewN_self w11]; generalize hq_ : World.drewN w11 _ = w11; have n0_ : zF (w11.heap[gb229]? = some (.cells #[.int .i64 0, .bool false] 50 (0, 0))) := ⟨by rw [← hq_]; exact (by (with_reducible repeat (first | refine zK ?_ _ | refine zL ?_ | refine zJ ?_ _)); exact BK229.out)⟩; have n1_ : zF (zG w0 w11 g s0_0 t232 t233) := ⟨by rw [← hq_]; exact (by repeat (first | (with_reducible first | exact HI0.out | apply zG.alloc | apply zG.drewN | apply zG.drew | apply zG.set_1 | apply zG.set_2 | refine zG.farT (t := 50) (b := gb229) ?_ (by decide) (by repeat (first | exact zA.of BK229.out | apply zA.set | apply zA.drewN | apply zA.drew | apply zA.alloc)) _) | exact HI0.out))⟩; have n2_ : zF (zI w w11 g none) := ⟨by rw [← hq_]; exact (by repeat (first | (with_reducible first | exact HK.out | apply zI.set_ | apply zV | apply zW | apply zX | refine zY ?_ GW229.out _) | exact HK.out))⟩; have n3_ : zF (Below w0.heap.size w0 w11) := ⟨by rw [← hq_]; exact (by repeat (first | (with_reducible first | exact HB.out | apply zE | apply zB | apply zC | refine zD ?_ (zG.ge HI0.out) | refine zD ?_ GE229.out) | exact HB.out))⟩; clear BK229 HI0 HK HB hq_; have BK229 := n0_; have HI0 := n1_; have HK := n2_; have HB := n3_; clear n0_ n1_ n2_ n3_))) | ((with_reducible refine gate_callee (f := 32) rfl ?_); refine goesL_ (some 18) rfl rfl Try.func32 (by kernel_rfl) rfl #[.pointer (some ⟨g, 0, none⟩), .int .i64 5] rfl (by (try simp only [List.map_toArray, List.map_cons, List.map_nil]); first | done | rfl | (simp only [List.length_drop, List.length_take]; rfl)) ?_; (with_reducible refine (bits_Reader_Take.calls k g s0_0 t232 t233 5 t235 t236 t237 w0 _ ?side1 ?side2 A9.out).mono ?_); (case side1 => repeat (first | (with_reducible first | exact HI0.out | apply zG.alloc | apply zG.drewN | apply zG.drew | apply zG.set_1 | apply zG.set_2 | refine zG.farT (t := 50) (b := gb229) ?_ (by decide) (by repeat (first | exact zA.of BK229.out | apply zA.set | apply zA.drewN | apply zA.drew | apply zA.alloc)) _) | exact HI0.out)); (case side2 => repeat (first | (with_reducible first | exact HB.out | apply zE | apply zB | apply zC | refine zD ?_ (zG.ge HI0.out) | refine zD ?_ GE229.out) | exact HB.out)); rintro e w12 ⟨rfl, hi, hb, hk⟩; refine ⟨_, rfl, ?_⟩; have n0_ := zF.mk (zI.blk hk (g' := gb229) (o := .cells #[.int .i64 0, .bool false] 50 (0, 0)) (by (with_reducible repeat (first | refine zK ?_ _ | refine zL ?_ | refine zJ ?_ _)); exact BK229.out) NB229_0.out (by simp)); have n1_ := zF.mk (zI.trans (by repeat (first | (with_reducible first | exact HK.out | apply zI.set_ | apply zV | apply zW | apply zX | refine zY ?_ GW229.out _) | exact HK.out)) hk (.inl rfl)); have n2_ := zF.mk (hb); have n3_ := zF.mk (hi); clear BK229; clear HK; clear HB; clear HI0; have BK229 := n0_; have HK := n1_; have HB := n2_; have HI0 := n3_; clear n0_ n1_ n2_ n3_; (try clear hb); (try clear hb2); (try clear hk); (try clear hi); have hnb13 := NB229_0.out; have hnc13 := NB0_229.out; have hcz14_0 : w12.cell? ⟨gb229, 0, none⟩ = some (.int .i64 0) := (zM BK229.out 0).trans rfl; have hcz14_1 : w12.cell? ⟨gb229, 1, none⟩ = some (.bool false) := (zM BK229.out 1).trans rfl; have hfz14_0 := zN BK229.out 0; have hfz14_1 := zN BK229.out 1))
      refine bodyPost_ret (results_cell_row rfl _ _ gb229 50 #[.int .i64 (wrap64 (t235)), .bool true] (0, 0) _ rfl (by (with_reducible repeat (first | refine zK ?_ _ | refine zL ?_ | refine zJ ?_ _)); refine blk_put (cs := #[.int .i64 (wrap64 (t235)), .bool false]) ?_ 1 _ rfl; (with_reducible repeat (first | refine zK ?_ _ | refine zL ?_ | refine zJ ?_ _)); refine blk_put (cs := #[.int .i64 0, .bool false]) ?_ 0 _ rfl; (with_reducible repeat (first | refine zK ?_ _ | refine zL ?_ | refine zJ ?_ _)); exact BK229.out) Try.underlying50 rfl (by kernel_rfl)) rfl ?_
      exact ⟨by first | rfl | (simp [errW_none, errW_some] <;> rfl) | (simp only [← hji7]; first | rfl | (simp [errW_none, errW_some] <;> rfl)) | (simp [*, errW_none, errW_some] <;> rfl), by repeat (first | (with_reducible first | exact HI0.out | apply zG.alloc | apply zG.drewN | apply zG.drew | apply zG.set_1 | apply zG.set_2 | refine zG.farT (t := 50) (b := gb229) ?_ (by decide) (by repeat (first | exact zA.of BK229.out | apply zA.set | apply zA.drewN | apply zA.drew | apply zA.alloc)) _) | exact HI0.out), by repeat (first | (with_reducible first | exact HB.out | apply zE | apply zB | apply zC | refine zD ?_ (zG.ge HI0.out) | refine zD ?_ GE229.out) | exact HB.out), by repeat (first | (with_reducible first | exact HK.out | apply zI.set_ | apply zV | apply zW | apply zX | refine zY ?_ GW229.out _) | exact HK.out)⟩
    · rw [if_neg c8] at H
      have c8b0 : ((wrap64 (t231)) == (wrap64 ((ji7) - 1))) = false := beq_eq_false_iff_ne.mpr c8
      have c8b1 : ((wrap64 (t231)) != (wrap64 ((ji7) - 1))) = true := bne_iff_ne.mpr c8
      simp only [Option.some.injEq, Prod.mk.injEq] at H
      obtain ⟨rfl, rfl, rfl, rfl⟩ := H
      go_enter Try.func34, Try.ntmps34
      go_wp2_with (first | ((with_reducible refine gate_dst (N := 4) rfl ?_); refine box_event ?hg (N := 4) ?hd (cs := #[.int .i64 0, .bool false]) (t := 50) ?hr ?_; (case hd => rfl); (case hg => rfl); (case hr => first | (go_simp; done) | (go_simp; rfl)); intro gb229 hg w15 hbox hb; have n0_ := zF.mk (zG.below (by repeat (first | (with_reducible first | exact HI0.out | apply zG.alloc | apply zG.drewN | apply zG.drew | apply zG.set_1 | apply zG.set_2) | exact HI0.out)) hb); have n1_ := zF.mk (zI.trans (by repeat (first | (with_reducible first | exact HK.out | apply zI.set_ | apply zV | apply zW | apply zX) | exact HK.out)) (zI.of_below hb g none) (.inl rfl)); have n2_ := zF.mk (below_step (by repeat (first | (with_reducible first | exact HB.out | apply zE | apply zB | apply zC | refine zD ?_ (zG.ge HI0.out)) | exact HB.out)) hb); have n3_ := zF.mk (hbox); have n4_ := zF.mk ((by rw [hg]; exact (keep_size (w := w) (g := g) (row := none) (by repeat (first | (with_reducible first | exact HK.out | apply zI.set_ | apply zV | apply zW | apply zX) | exact HK.out))) : w.heap.size ≤ gb229)); have n5_ := zF.mk ((Nat.le_trans HW0.out (by rw [hg]; exact (keep_size (w := w) (g := g) (row := none) (by repeat (first | (with_reducible first | exact HK.out | apply zI.set_ | apply zV | apply zW | apply zX) | exact HK.out))) : w.heap.size ≤ gb229) : w0.heap.size ≤ gb229)); have n6_ := zF.mk ((by rw [hg]; exact Nat.ne_of_lt (zG.lt (show zG w0 _ g s0_0 s0_1 s0_2 from by repeat (first | (with_reducible first | exact HI0.out | apply zG.alloc | apply zG.drewN | apply zG.drew | apply zG.set_1 | apply zG.set_2) | exact HI0.out))) : g ≠ gb229)); have n7_ := zF.mk ((by rw [hg]; exact Nat.ne_of_gt (zG.lt (show zG w0 _ g s0_0 s0_1 s0_2 from by repeat (first | (with_reducible first | exact HI0.out | apply zG.alloc | apply zG.drewN | apply zG.drew | apply zG.set_1 | apply zG.set_2) | exact HI0.out))) : gb229 ≠ g)); clear HI0; clear HK; clear HB; have HI0 := n0_; have HK := n1_; have HB := n2_; have BK229 := n3_; have GW229 := n4_; have GE229 := n5_; have NB0_229 := n6_; have NB229_0 := n7_; clear n0_ n1_ n2_ n3_ n4_ n5_ n6_ n7_; clear hb hbox hg) | ((with_reducible refine gate_callee (f := 26) rfl ?_); refine goesL_ (some 8) rfl rfl Try.func26 (by kernel_rfl) rfl #[.bool a1] rfl (by (try simp only [List.map_toArray, List.map_cons, List.map_nil]); first | done | rfl | (simp only [List.length_drop, List.length_take]; rfl)) ?_; (with_reducible refine (section_size.calls a1 t230 _ A3.out).mono ?_); rintro e w' ⟨rfl, ⟨nd, rfl⟩⟩; refine ⟨_, rfl, ?_⟩; (try (rw [drewN_self w15]; generalize hq_ : World.drewN w15 _ = w15; have n0_ : zF (w15.heap[gb229]? = some (.cells #[.int .i64 0, .bool false] 50 (0, 0))) := ⟨by rw [← hq_]; exact (by (with_reducible repeat (first | refine zK ?_ _ | refine zL ?_ | refine zJ ?_ _)); exact BK229.out)⟩; have n1_ : zF (zG w0 w15 g s0_0 s0_1 s0_2) := ⟨by rw [← hq_]; exact (by repeat (first | (with_reducible first | exact HI0.out | apply zG.alloc | apply zG.drewN | apply zG.drew | apply zG.set_1 | apply zG.set_2 | refine zG.farT (t := 50) (b := gb229) ?_ (by decide) (by repeat (first | exact zA.of BK229.out | apply zA.set | apply zA.drewN | apply zA.drew | apply zA.alloc)) _) | exact HI0.out))⟩; have n2_ : zF (zI w w15 g none) := ⟨by rw [← hq_]; exact (by repeat (first | (with_reducible first | exact HK.out | apply zI.set_ | apply zV | apply zW | apply zX | refine zY ?_ GW229.out _) | exact HK.out))⟩; have n3_ : zF (Below w0.heap.size w0 w15) := ⟨by rw [← hq_]; exact (by repeat (first | (with_reducible first | exact HB.out | apply zE | apply zB | apply zC | refine zD ?_ (zG.ge HI0.out) | refine zD ?_ GE229.out) | exact HB.out))⟩; clear BK229 HI0 HK HB hq_; have BK229 := n0_; have HI0 := n1_; have HK := n2_; have HB := n3_; clear n0_ n1_ n2_ n3_))) | ((with_reducible refine gate_callee (f := 32) rfl ?_); refine goesL_ (some 9) rfl rfl Try.func32 (by kernel_rfl) rfl #[.pointer (some ⟨g, 0, none⟩), .int .i64 t230] rfl (by (try simp only [List.map_toArray, List.map_cons, List.map_nil]); first | done | rfl | (simp only [List.length_drop, List.length_take]; rfl)) ?_; (with_reducible refine (bits_Reader_Take.calls k g s0_0 s0_1 s0_2 t230 t231 t232 t233 w0 _ ?side1 ?side2 A4.out).mono ?_); (case side1 => repeat (first | (with_reducible first | exact HI0.out | apply zG.alloc | apply zG.drewN | apply zG.drew | apply zG.set_1 | apply zG.set_2 | refine zG.farT (t := 50) (b := gb229) ?_ (by decide) (by repeat (first | exact zA.of BK229.out | apply zA.set | apply zA.drewN | apply zA.drew | apply zA.alloc)) _) | exact HI0.out)); (case side2 => repeat (first | (with_reducible first | exact HB.out | apply zE | apply zB | apply zC | refine zD ?_ (zG.ge HI0.out) | refine zD ?_ GE229.out) | exact HB.out)); rintro e w16 ⟨rfl, hi, hb, hk⟩; refine ⟨_, rfl, ?_⟩; have n0_ := zF.mk (zI.blk hk (g' := gb229) (o := .cells #[.int .i64 0, .bool false] 50 (0, 0)) (by (with_reducible repeat (first | refine zK ?_ _ | refine zL ?_ | refine zJ ?_ _)); exact BK229.out) NB229_0.out (by simp)); have n1_ := zF.mk (zI.trans (by repeat (first | (with_reducible first | exact HK.out | apply zI.set_ | apply zV | apply zW | apply zX | refine zY ?_ GW229.out _) | exact HK.out)) hk (.inl rfl)); have n2_ := zF.mk (hb); have n3_ := zF.mk (hi); clear BK229; clear HK; clear HB; clear HI0; have BK229 := n0_; have HK := n1_; have HB := n2_; have HI0 := n3_; clear n0_ n1_ n2_ n3_; (try clear hb); (try clear hb2); (try clear hk); (try clear hi)) | ((with_reducible refine gate_callee (f := 26) rfl ?_); refine goesL_ (some 13) rfl rfl Try.func26 (by kernel_rfl) rfl #[.bool a1] rfl (by (try simp only [List.map_toArray, List.map_cons, List.map_nil]); first | done | rfl | (simp only [List.length_drop, List.length_take]; rfl)) ?_; (with_reducible refine (section_size.calls a1 t234 _ A5.out).mono ?_); rintro e w' ⟨rfl, ⟨nd, rfl⟩⟩; refine ⟨_, rfl, ?_⟩; (try (rw [drewN_self w16]; generalize hq_ : World.drewN w16 _ = w16; have n0_ : zF (w16.heap[gb229]? = some (.cells #[.int .i64 0, .bool false] 50 (0, 0))) := ⟨by rw [← hq_]; exact (by (with_reducible repeat (first | refine zK ?_ _ | refine zL ?_ | refine zJ ?_ _)); exact BK229.out)⟩; have n1_ : zF (zG w0 w16 g s0_0 t232 t233) := ⟨by rw [← hq_]; exact (by repeat (first | (with_reducible first | exact HI0.out | apply zG.alloc | apply zG.drewN | apply zG.drew | apply zG.set_1 | apply zG.set_2 | refine zG.farT (t := 50) (b := gb229) ?_ (by decide) (by repeat (first | exact zA.of BK229.out | apply zA.set | apply zA.drewN | apply zA.drew | apply zA.alloc)) _) | exact HI0.out))⟩; have n2_ : zF (zI w w16 g none) := ⟨by rw [← hq_]; exact (by repeat (first | (with_reducible first | exact HK.out | apply zI.set_ | apply zV | apply zW | apply zX | refine zY ?_ GW229.out _) | exact HK.out))⟩; have n3_ : zF (Below w0.heap.size w0 w16) := ⟨by rw [← hq_]; exact (by repeat (first | (with_reducible first | exact HB.out | apply zE | apply zB | apply zC | refine zD ?_ (zG.ge HI0.out) | refine zD ?_ GE229.out) | exact HB.out))⟩; clear BK229 HI0 HK HB hq_; have BK229 := n0_; have HI0 := n1_; have HK := n2_; have HB := n3_; clear n0_ n1_ n2_ n3_)); have hnb17 := NB229_0.out; have hnc17 := NB0_229.out; have hcz18_0 : w16.cell? ⟨gb229, 0, none⟩ = some (.int .i64 0) := (zM BK229.out 0).trans rfl; have hcz18_1 : w16.cell? ⟨gb229, 1, none⟩ = some (.bool false) := (zM BK229.out 1).trans rfl; have hfz18_0 := zN BK229.out 0; have hfz18_1 := zN BK229.out 1))
      refine bodyPost_ret (results_cell_row rfl _ _ gb229 50 #[.int .i64 (wrap64 (t231)), .bool false] (0, 0) _ rfl (by (with_reducible repeat (first | refine zK ?_ _ | refine zL ?_ | refine zJ ?_ _)); refine blk_put (cs := #[.int .i64 (wrap64 (t231)), .bool false]) ?_ 1 _ rfl; (with_reducible repeat (first | refine zK ?_ _ | refine zL ?_ | refine zJ ?_ _)); refine blk_put (cs := #[.int .i64 0, .bool false]) ?_ 0 _ rfl; (with_reducible repeat (first | refine zK ?_ _ | refine zL ?_ | refine zJ ?_ _)); exact BK229.out) Try.underlying50 rfl (by kernel_rfl)) rfl ?_
      exact ⟨by first | rfl | (simp [errW_none, errW_some] <;> rfl) | (simp only [← hji7]; first | rfl | (simp [errW_none, errW_some] <;> rfl)) | (simp [*, errW_none, errW_some] <;> rfl), by repeat (first | (with_reducible first | exact HI0.out | apply zG.alloc | apply zG.drewN | apply zG.drew | apply zG.set_1 | apply zG.set_2 | refine zG.farT (t := 50) (b := gb229) ?_ (by decide) (by repeat (first | exact zA.of BK229.out | apply zA.set | apply zA.drewN | apply zA.drew | apply zA.alloc)) _) | exact HI0.out), by repeat (first | (with_reducible first | exact HB.out | apply zE | apply zB | apply zC | refine zD ?_ (zG.ge HI0.out) | refine zD ?_ GE229.out) | exact HB.out), by repeat (first | (with_reducible first | exact HK.out | apply zI.set_ | apply zV | apply zW | apply zX | refine zY ?_ GW229.out _) | exact HK.out)⟩
  · rw [if_neg c6] at H
    exact absurd H (by simp)

def section_raw.f (k : Nat) (s0_0 : List Int) (s0_1 : Int) (s0_2 : Int) (a1 : Int) : Option (Int × Int × Int) := if a1 = 0 then (some (0, s0_1, s0_2)) else ((bits_Reader_Take.f k s0_0 s0_1 s0_2 a1).bind fun bt238 => (if 0 ≤ (wrap64 (64 - a1)) then (some (shr .i64 (shl .i64 (wrap64 (bt238.1)) (wrap64 (64 - a1))) (wrap64 (64 - a1)), bt238.2.1, bt238.2.2)) else (none)))
set_option maxHeartbeats 8000000 in
set_option maxRecDepth 100000 in
theorem section_raw.calls (k : Nat) (g : Nat) (s0_0 : List Int) (s0_1 : Int) (s0_2 : Int) (a1 : Int) (r1 : Int) (r2 : Int) (r3 : Int) (w0 w : World) (hI : zG w0 w g s0_0 s0_1 s0_2) (hB : Below w0.heap.size w0 w) (h : section_raw.f k s0_0 s0_1 s0_2 a1 = some (r1, r2, r3)) :
    Calls Try.prog 51 #[.pointer (some ⟨g, 0, none⟩), .int .i64 a1] w fun e w' => e = .returned (.int .i64 r1) ∧ zG w0 w' g s0_0 r2 r3 ∧ Below w0.heap.size w0 w' ∧ zI w w' g none := by
  have HI0 := zF.mk hI
  have HK := zF.mk (zI.refl w g none)
  have HL := zF.mk hB.size
  clear hI
  have HW0 := zF.mk hB.size
  have HB := zF.mk hB
  clear hB
  have H : (if a1 = 0 then (some (0, s0_1, s0_2)) else ((bits_Reader_Take.f k s0_0 s0_1 s0_2 a1).bind fun bt238 => (if 0 ≤ (wrap64 (64 - a1)) then (some (shr .i64 (shl .i64 (wrap64 (bt238.1)) (wrap64 (64 - a1))) (wrap64 (64 - a1)), bt238.2.1, bt238.2.2)) else (none)))) = some (r1, r2, r3) := h
  clear h
  by_cases c3 : a1 = 0
  · rw [if_pos c3] at H
    have c3b0 : (a1 == 0) = true := beq_iff_eq.mpr c3
    have c3b1 : (a1 != 0) = false := bne_eq_false_iff_eq.mpr c3
    clear c3
    simp only [Option.some.injEq, Prod.mk.injEq] at H
    obtain ⟨rfl, rfl, rfl⟩ := H
    go_enter Try.func51, Try.ntmps51
    go_wp2
    go_ret
    exact ⟨by first | rfl | (simp [errW_none, errW_some] <;> rfl) | (simp [*, errW_none, errW_some] <;> rfl), by repeat (first | (with_reducible first | exact HI0.out | apply zG.alloc | apply zG.drewN | apply zG.drew | apply zG.set_1 | apply zG.set_2) | exact HI0.out), by repeat (first | (with_reducible first | exact HB.out | apply zE | apply zB | apply zC | refine zD ?_ (zG.ge HI0.out)) | exact HB.out), by repeat (first | (with_reducible first | exact HK.out | apply zI.set_ | apply zV | apply zW | apply zX) | exact HK.out)⟩
  · rw [if_neg c3] at H
    have c3b0 : (a1 == 0) = false := beq_eq_false_iff_ne.mpr c3
    have c3b1 : (a1 != 0) = true := bne_iff_ne.mpr c3
    replace H := Option.bind_eq_some_iff.mp H
    obtain ⟨⟨t238, t239, t240⟩, A40, H⟩ := H
    replace H : (if 0 ≤ (wrap64 (64 - a1)) then (some (shr .i64 (shl .i64 (wrap64 (t238)) (wrap64 (64 - a1))) (wrap64 (64 - a1)), t239, t240)) else (none)) = some (r1, r2, r3) := H
    have A4 := zF.mk A40
    clear A40
    obtain ⟨ji5, hji5⟩ : ∃ j_ : Int, (wrap64 (64 - a1)) = j_ := ⟨_, rfl⟩
    replace H : (if 0 ≤ (ji5) then (some (shr .i64 (shl .i64 (wrap64 (t238)) (ji5)) (ji5), t239, t240)) else (none)) = some (r1, r2, r3) := by first | (rw [hji5] at H; exact H) | (simp only [hji5] at H ⊢; exact H)
    (try rw [hji5] at A4)
    have hji5w : (IntKind.i64.wrap (64 - a1)) = ji5 := (i64_w _).trans hji5
    by_cases c6 : 0 ≤ (ji5)
    · rw [if_pos c6] at H
      have c6b0 := eq_true c6
      have c6b1 : decide (0 ≤ (ji5)) = true := decide_eq_true c6
      clear c6
      obtain ⟨ji7, hji7⟩ : ∃ j_ : Int, (shl .i64 (wrap64 (t238)) (ji5)) = j_ := ⟨_, rfl⟩
      replace H : (some (shr .i64 (ji7) (ji5), t239, t240)) = some (r1, r2, r3) := by first | (rw [hji7] at H; exact H) | (simp only [hji7] at H ⊢; exact H)
      (try rw [hji7] at A4)
      have hji7_ : (IntKind.i64.wrap ((wrap64 (t238)) * 2 ^ min (ji5).toNat 64)) = ji7 := hji7
      have hji7z : (ji5) ≤ 64 → (IntKind.i64.wrap ((wrap64 (t238)) * 2 ^ (ji5).toNat)) = ji7 := shl_small hji7
      have hji7y : (wrap64 ((wrap64 (t238)) * 2 ^ min (ji5).toNat 64)) = ji7 := (i64_w _).symm.trans hji7_
      have hji7x : (ji5) ≤ 64 → (wrap64 ((wrap64 (t238)) * 2 ^ (ji5).toNat)) = ji7 := fun h_ => (i64_w _).symm.trans (hji7z h_)
      have c8b0 := eq_true (of_decide_eq_true (by first | (with_reducible assumption) | assumption) : 0 ≤ (ji5))
      obtain ⟨ji9, hji9⟩ : ∃ j_ : Int, (shr .i64 (ji7) (ji5)) = j_ := ⟨_, rfl⟩
      replace H : (some (ji9, t239, t240)) = some (r1, r2, r3) := by first | (rw [hji9] at H; exact H) | (simp only [hji9] at H ⊢; exact H)
      (try rw [hji9] at A4)
      have hji9_ : ((ji7) / 2 ^ min (ji5).toNat 64) = ji9 := hji9
      have hji9z : (ji5) ≤ 64 → ((ji7) / 2 ^ (ji5).toNat) = ji9 := shr_small hji9
      simp only [Option.some.injEq, Prod.mk.injEq] at H
      obtain ⟨rfl, rfl, rfl⟩ := H
      go_enter Try.func51, Try.ntmps51
      go_wp2_with (first | ((with_reducible refine gate_callee (f := 32) rfl ?_); refine goesL_ (some 9) rfl rfl Try.func32 (by kernel_rfl) rfl #[.pointer (some ⟨g, 0, none⟩), .int .i64 a1] rfl (by (try simp only [List.map_toArray, List.map_cons, List.map_nil]); first | done | rfl | (simp only [List.length_drop, List.length_take]; rfl)) ?_; (with_reducible refine (bits_Reader_Take.calls k g s0_0 s0_1 s0_2 a1 t238 t239 t240 w0 _ ?side1 ?side2 A4.out).mono ?_); (case side1 => repeat (first | (with_reducible first | exact HI0.out | apply zG.alloc | apply zG.drewN | apply zG.drew | apply zG.set_1 | apply zG.set_2) | exact HI0.out)); (case side2 => repeat (first | (with_reducible first | exact HB.out | apply zE | apply zB | apply zC | refine zD ?_ (zG.ge HI0.out)) | exact HB.out)); rintro e w10 ⟨rfl, hi, hb, hk⟩; refine ⟨_, rfl, ?_⟩; have n0_ := zF.mk (zI.trans (by repeat (first | (with_reducible first | exact HK.out | apply zI.set_ | apply zV | apply zW | apply zX) | exact HK.out)) hk (.inl rfl)); have n1_ := zF.mk (hb); have n2_ := zF.mk (hi); clear HK; clear HB; clear HI0; have HK := n0_; have HB := n1_; have HI0 := n2_; clear n0_ n1_ n2_; (try clear hb); (try clear hb2); (try clear hk); (try clear hi)))
      go_ret
      exact ⟨by first | rfl | (simp [errW_none, errW_some] <;> rfl) | (simp only [← hji5, ← hji7, ← hji9]; first | rfl | (simp [errW_none, errW_some] <;> rfl)) | (simp [*, errW_none, errW_some] <;> rfl), by repeat (first | (with_reducible first | exact HI0.out | apply zG.alloc | apply zG.drewN | apply zG.drew | apply zG.set_1 | apply zG.set_2) | exact HI0.out), by repeat (first | (with_reducible first | exact HB.out | apply zE | apply zB | apply zC | refine zD ?_ (zG.ge HI0.out)) | exact HB.out), by repeat (first | (with_reducible first | exact HK.out | apply zI.set_ | apply zV | apply zW | apply zX) | exact HK.out)⟩
    · rw [if_neg c6] at H
      exact absurd H (by simp)

def rice_Unfold.f (a0 : Int) : Option (Int) := some (Go.bits .xor .i64 (wrap64 (a0 / 2)) (wrap64 (-(wrap64 (Go.bits .and .u64 a0 1)))))
set_option maxHeartbeats 8000000 in
set_option maxRecDepth 100000 in
theorem rice_Unfold.calls (a0 : Int) (r : Int) (w : World) (h : rice_Unfold.f a0 = some r) :
    Calls Try.prog 59 #[.int .u64 a0] w fun e w' => e = .returned (.int .i64 r) ∧ Drawn0 w w' := by
  have H : (some (Go.bits .xor .i64 (wrap64 (a0 / 2)) (wrap64 (-(wrap64 (Go.bits .and .u64 a0 1)))))) = some r := h
  clear h
  obtain rfl := Option.some.inj H
  go_enter Try.func59, Try.ntmps59
  go_wp2
  go_ret
  exact ⟨by first | rfl | (simp; done) | (simp [*]; done), by repeat (first | exact Drawn0.refl _ | apply Drawn0.step)⟩
end Go.Proofs.Ytokdjeoecnnckaa.PA
end
section
namespace Go.Proofs.Ytokdjeoecnnckaa.PA
open Go.RowKit Go.Proofs.YtokdjeoecnnckaaW.PrintWords Go.Proofs.YtokdjeoecnnckaaW.PrintLast Go.Proofs.YtokdjeoecnnckaaW.PrintMore
attribute [local go_sem] max2_int min2_int max_two min_two max_three min_three max_four min_four   -- for this text's walks alone
set_option linter.unusedVariables false
set_option linter.unusedSimpArgs false

def rice_Take.l0 : Nat → Int → Int → List Int → Int → Int → Option (Int × Int × Int)
  | 0, _, _, _, _, _ => none
  | k + 1, x1, x5, x1000, x1001, x1002 => (bits_Reader_Take.f k x1000 x1001 x1002 1).bind fun bt242 => ((bits_Reader_Fail.f x1000 bt242.2.1 bt242.2.2).bind fun bt245 => (if bt245.1 = 0 then (if bt242.1 = 0 then (rice_Take.l0 k x1 (IntKind.u64.wrap (x5 + 1)) x1000 bt245.2.1 bt245.2.2) else ((bits_Reader_Take.f k x1000 bt245.2.1 bt245.2.2 x1).bind fun bt248 => ((bits_Reader_Fail.f x1000 bt248.2.1 bt248.2.2).bind fun bt251 => (if bt251.1 = 0 then (if 0 ≤ x1 then ((rice_Unfold.f (Go.bits .or .u64 (shl .u64 x5 x1) bt248.1)).bind fun t254 => (some (t254, bt251.2.1, bt251.2.2))) else (none)) else (some (0, bt251.2.1, bt251.2.2)))))) else (some (0, bt245.2.1, bt245.2.2))))
def rice_Take.f (k : Nat) (s0_0 : List Int) (s0_1 : Int) (s0_2 : Int) (a1 : Int) : Option (Int × Int × Int) := (rice_held.f a1).bind fun t241 => (rice_Take.l0 k t241 0 s0_0 s0_1 s0_2)
set_option maxHeartbeats 8000000 in
set_option maxRecDepth 100000 in
theorem rice_Take.calls (k : Nat) (g : Nat) (s0_0 : List Int) (s0_1 : Int) (s0_2 : Int) (a1 : Int) (r1 : Int) (r2 : Int) (r3 : Int) (w0 w : World) (hI : zG w0 w g s0_0 s0_1 s0_2) (hB : Below w0.heap.size w0 w) (h : rice_Take.f k s0_0 s0_1 s0_2 a1 = some (r1, r2, r3)) :
    Calls Try.prog 52 #[.pointer (some ⟨g, 0, none⟩), .int .i64 a1] w fun e w' => e = .returned (.int .i64 r1) ∧ zG w0 w' g s0_0 r2 r3 ∧ Below w0.heap.size w0 w' ∧ zI w w' g none := by
  have HI0 := zF.mk hI
  have HK := zF.mk (zI.refl w g none)
  have HL := zF.mk hB.size
  clear hI
  have HW0 := zF.mk hB.size
  have HB := zF.mk hB
  clear hB
  have H : ((rice_held.f a1).bind fun t249 => (rice_Take.l0 k t249 0 s0_0 s0_1 s0_2)) = some (r1, r2, r3) := h
  clear h
  replace H := Option.bind_eq_some_iff.mp H
  obtain ⟨t249, A30, H⟩ := H
  replace H : (rice_Take.l0 k t249 0 s0_0 s0_1 s0_2) = some (r1, r2, r3) := H
  have A3 := zF.mk A30
  clear A30
  have H' := zF.mk H
  clear H
  go_enter Try.func52, Try.ntmps52
  go_wp2
  refine wp_scope_ghost_k 0 rfl (fun kq a_ w' => ∃ v2_ v3_ v4_ v5 v6_ v7_ v8_ v9_ v10_ v11_ v12_ v13_ v14_ v15_ v16_ v17_ v18_ v19_ v20_ v21_ v22_ v23_ v24_ v25_ v26_ v27_ v28_ v29_ v30_ : Value, (∃ (x5_1 : Int) (x1001_1 : Int) (x1002_1 : Int), v5 = .int .u64 x5_1 ∧ zF (rice_Take.l0 kq t249 x5_1 s0_0 x1001_1 x1002_1 = some (r1, r2, r3)) ∧ zF (kq ≤ kq) ∧ zF (zG w0 w' g s0_0 x1001_1 x1002_1) ∧ zF (zI w w' g none) ∧ zF (Below w0.heap.size w0 w')) ∧ a_ = { tmps := #[.pointer (some ⟨g, 0, none⟩), .int .i64 t249, v2_, v3_, v4_, v5, v6_, v7_, v8_, v9_, v10_, v11_, v12_, v13_, v14_, v15_, v16_, v17_, v18_, v19_, v20_, v21_, v22_, v23_, v24_, v25_, v26_, v27_, v28_, v29_, v30_], defers := [] }) ?round ?first
  case round =>
    rintro gk a_ wr ⟨u2_, u3_, u4_, u5, u6_, u7_, u8_, u9_, u10_, u11_, u12_, u13_, u14_, u15_, u16_, u17_, u18_, u19_, u20_, u21_, u22_, u23_, u24_, u25_, u26_, u27_, u28_, u29_, u30_, hrel, rfl⟩ J_ K_ hJ_ hK_
    try clear c2
    try clear p2
    try clear c3
    obtain ⟨x5_1, x1001_1, x1002_1, rfl, HA, HK1, HI0, HK, HB⟩ := hrel
    cases gk with
    | zero => exact absurd HA.out (by simp [rice_Take.l0])
    | succ k1 =>
      have H := HA.out
      clear HA
      simp only [rice_Take.l0] at H
      replace H := Option.bind_eq_some_iff.mp H
      obtain ⟨⟨t250, t251, t252⟩, A50, H⟩ := H
      replace H : ((bits_Reader_Fail.f s0_0 t251 t252).bind fun bt253 => (if bt253.1 = 0 then (if t250 = 0 then (rice_Take.l0 k1 t249 (IntKind.u64.wrap (x5_1 + 1)) s0_0 bt253.2.1 bt253.2.2) else ((bits_Reader_Take.f k1 s0_0 bt253.2.1 bt253.2.2 t249).bind fun bt256 => ((bits_Reader_Fail.f s0_0 bt256.2.1 bt256.2.2).bind fun bt259 => (if bt259.1 = 0 then (if 0 ≤ t249 then ((rice_Unfold.f (Go.bits .or .u64 (shl .u64 x5_1 t249) bt256.1)).bind fun t262 => (some (t262, bt259.2.1, bt259.2.2))) else (none)) else (some (0, bt259.2.1, bt259.2.2)))))) else (some (0, bt253.2.1, bt253.2.2)))) = some (r1, r2, r3) := H
      have A5 := zF.mk A50
      clear A50
      replace H := Option.bind_eq_some_iff.mp H
      obtain ⟨⟨t253, t254, t255⟩, A60, H⟩ := H
      replace H : (if t253 = 0 then (if t250 = 0 then (rice_Take.l0 k1 t249 (IntKind.u64.wrap (x5_1 + 1)) s0_0 t254 t255) else ((bits_Reader_Take.f k1 s0_0 t254 t255 t249).bind fun bt256 => ((bits_Reader_Fail.f s0_0 bt256.2.1 bt256.2.2).bind fun bt259 => (if bt259.1 = 0 then (if 0 ≤ t249 then ((rice_Unfold.f (Go.bits .or .u64 (shl .u64 x5_1 t249) bt256.1)).bind fun t262 => (some (t262, bt259.2.1, bt259.2.2))) else (none)) else (some (0, bt259.2.1, bt259.2.2)))))) else (some (0, t254, t255))) = some (r1, r2, r3) := H
      have A6 := zF.mk A60
      clear A60
      by_cases c7 : t253 = 0
      · rw [if_pos c7] at H
        have c7b0 : (t253 == 0) = true := beq_iff_eq.mpr c7
        have c7b1 : (t253 != 0) = false := bne_eq_false_iff_eq.mpr c7
        clear c7
        by_cases c8 : t250 = 0
        · rw [if_pos c8] at H
          have c8b0 : (t250 == 0) = true := beq_iff_eq.mpr c8
          have c8b1 : (t250 != 0) = false := bne_eq_false_iff_eq.mpr c8
          clear c8
          have H' := zF.mk H
          clear H
          go_wp2_with (first | ((with_reducible refine gate_callee (f := 32) rfl ?_); refine goesL_ (some 11) rfl rfl Try.func32 (by kernel_rfl) rfl #[.pointer (some ⟨g, 0, none⟩), .int .i64 1] rfl (by (try simp only [List.map_toArray, List.map_cons, List.map_nil]); first | done | rfl | (simp only [List.length_drop, List.length_take]; rfl)) ?_; (with_reducible refine (bits_Reader_Take.calls k1 g s0_0 x1001_1 x1002_1 1 t250 t251 t252 w0 _ ?side1 ?side2 A5.out).mono ?_); (case side1 => repeat (first | (with_reducible first | exact HI0.out | apply zG.alloc | apply zG.drewN | apply zG.drew | apply zG.set_1 | apply zG.set_2) | exact HI0.out)); (case side2 => repeat (first | (with_reducible first | exact HB.out | apply zE | apply zB | apply zC | refine zD ?_ (zG.ge HI0.out)) | exact HB.out)); rintro e w9 ⟨rfl, hi, hb, hk⟩; refine ⟨_, rfl, ?_⟩; have n0_ := zF.mk (zI.trans (by repeat (first | (with_reducible first | exact HK.out | apply zI.set_ | apply zV | apply zW | apply zX) | exact HK.out)) hk (.inl rfl)); have n1_ := zF.mk (hb); have n2_ := zF.mk (hi); clear HK; clear HB; clear HI0; have HK := n0_; have HB := n1_; have HI0 := n2_; clear n0_ n1_ n2_; (try clear hb); (try clear hb2); (try clear hk); (try clear hi)) | ((with_reducible refine gate_callee (f := 33) rfl ?_); refine goesL_ (some 13) rfl rfl Try.func33 (by kernel_rfl) rfl #[.pointer (some ⟨g, 0, none⟩)] rfl (by (try simp only [List.map_toArray, List.map_cons, List.map_nil]); first | done | rfl | (simp only [List.length_drop, List.length_take]; rfl)) ?_; (with_reducible refine (bits_Reader_Fail.calls g s0_0 t251 t252 t253 t254 t255 w0 _ ?side1 ?side2 A6.out).mono ?_); (case side1 => repeat (first | (with_reducible first | exact HI0.out | apply zG.alloc | apply zG.drewN | apply zG.drew | apply zG.set_1 | apply zG.set_2) | exact HI0.out)); (case side2 => repeat (first | (with_reducible first | exact HB.out | apply zE | apply zB | apply zC | refine zD ?_ (zG.ge HI0.out)) | exact HB.out)); rintro e w10 ⟨rfl, hi, hb, hk⟩; refine ⟨_, rfl, ?_⟩; have n0_ := zF.mk (zI.trans (by repeat (first | (with_reducible first | exact HK.out | apply zI.set_ | apply zV | apply zW | apply zX) | exact HK.out)) hk (.inl rfl)); have n1_ := zF.mk (hb); have n2_ := zF.mk (hi); clear HK; clear HB; clear HI0; have HK := n0_; have HB := n1_; have HI0 := n2_; clear n0_ n1_ n2_; (try clear hb); (try clear hb2); (try clear hk); (try clear hi)))
          go_step3
          refine ⟨rfl, hK_ _ _ ?_⟩
          go_roundg k1
          case measure => have := HK1.out; omega
          case rel => exact ⟨(IntKind.u64.wrap (x5_1 + 1)), (t254), (t255), (by first | rfl | (simp; done) | (simp only [i64_w, i32_w]; done) | (simp [*]; done) | (simp only [i64_w, i32_w]; first | rfl | (simp; done) | (simp [*]; done))), H', ⟨by have := HK1.out; omega⟩, ⟨by repeat (first | (with_reducible first | exact HI0.out | apply zG.alloc | apply zG.drewN | apply zG.drew | apply zG.set_1 | apply zG.set_2) | exact HI0.out)⟩, ⟨by repeat (first | (with_reducible first | exact HK.out | apply zI.set_ | apply zV | apply zW | apply zX) | exact HK.out)⟩, ⟨by repeat (first | (with_reducible first | exact HB.out | apply zE | apply zB | apply zC | refine zD ?_ (zG.ge HI0.out)) | exact HB.out)⟩⟩
        · rw [if_neg c8] at H
          have c8b0 : (t250 == 0) = false := beq_eq_false_iff_ne.mpr c8
          have c8b1 : (t250 != 0) = true := bne_iff_ne.mpr c8
          replace H := Option.bind_eq_some_iff.mp H
          obtain ⟨⟨t256, t257, t258⟩, A110, H⟩ := H
          replace H : ((bits_Reader_Fail.f s0_0 t257 t258).bind fun bt259 => (if bt259.1 = 0 then (if 0 ≤ t249 then ((rice_Unfold.f (Go.bits .or .u64 (shl .u64 x5_1 t249) t256)).bind fun t262 => (some (t262, bt259.2.1, bt259.2.2))) else (none)) else (some (0, bt259.2.1, bt259.2.2)))) = some (r1, r2, r3) := H
          have A11 := zF.mk A110
          clear A110
          replace H := Option.bind_eq_some_iff.mp H
          obtain ⟨⟨t259, t260, t261⟩, A120, H⟩ := H
          replace H : (if t259 = 0 then (if 0 ≤ t249 then ((rice_Unfold.f (Go.bits .or .u64 (shl .u64 x5_1 t249) t256)).bind fun t262 => (some (t262, t260, t261))) else (none)) else (some (0, t260, t261))) = some (r1, r2, r3) := H
          have A12 := zF.mk A120
          clear A120
          by_cases c13 : t259 = 0
          · rw [if_pos c13] at H
            have c13b0 : (t259 == 0) = true := beq_iff_eq.mpr c13
            have c13b1 : (t259 != 0) = false := bne_eq_false_iff_eq.mpr c13
            clear c13
            by_cases c14 : 0 ≤ t249
            · rw [if_pos c14] at H
              have c14b0 := eq_true c14
              have c14b1 : decide (0 ≤ t249) = true := decide_eq_true c14
              clear c14
              obtain ⟨ji15, hji15⟩ : ∃ j_ : Int, (shl .u64 x5_1 t249) = j_ := ⟨_, rfl⟩
              replace H : ((rice_Unfold.f (Go.bits .or .u64 (ji15) t256)).bind fun t262 => (some (t262, t260, t261))) = some (r1, r2, r3) := by first | (rw [hji15] at H; exact H) | (simp only [hji15] at H ⊢; exact H)
              (try rw [hji15] at A5)
              (try rw [hji15] at A6)
              (try rw [hji15] at A11)
              (try rw [hji15] at A12)
              have hji15_ : (IntKind.u64.wrap (x5_1 * 2 ^ min t249.toNat 64)) = ji15 := hji15
              have hji15z : t249 ≤ 64 → (IntKind.u64.wrap (x5_1 * 2 ^ t249.toNat)) = ji15 := shl_small hji15
              replace H := Option.bind_eq_some_iff.mp H
              obtain ⟨t262, A160, H⟩ := H
              replace H : (some (t262, t260, t261)) = some (r1, r2, r3) := H
              have A16 := zF.mk A160
              clear A160
              simp only [Option.some.injEq, Prod.mk.injEq] at H
              obtain ⟨rfl, rfl, rfl⟩ := H
              go_wp2_with (first | ((with_reducible refine gate_callee (f := 32) rfl ?_); refine goesL_ (some 11) rfl rfl Try.func32 (by kernel_rfl) rfl #[.pointer (some ⟨g, 0, none⟩), .int .i64 1] rfl (by (try simp only [List.map_toArray, List.map_cons, List.map_nil]); first | done | rfl | (simp only [List.length_drop, List.length_take]; rfl)) ?_; (with_reducible refine (bits_Reader_Take.calls k1 g s0_0 x1001_1 x1002_1 1 t250 t251 t252 w0 _ ?side1 ?side2 A5.out).mono ?_); (case side1 => repeat (first | (with_reducible first | exact HI0.out | apply zG.alloc | apply zG.drewN | apply zG.drew | apply zG.set_1 | apply zG.set_2) | exact HI0.out)); (case side2 => repeat (first | (with_reducible first | exact HB.out | apply zE | apply zB | apply zC | refine zD ?_ (zG.ge HI0.out)) | exact HB.out)); rintro e w17 ⟨rfl, hi, hb, hk⟩; refine ⟨_, rfl, ?_⟩; have n0_ := zF.mk (zI.trans (by repeat (first | (with_reducible first | exact HK.out | apply zI.set_ | apply zV | apply zW | apply zX) | exact HK.out)) hk (.inl rfl)); have n1_ := zF.mk (hb); have n2_ := zF.mk (hi); clear HK; clear HB; clear HI0; have HK := n0_; have HB := n1_; have HI0 := n2_; clear n0_ n1_ n2_; (try clear hb); (try clear hb2); (try clear hk); (try clear hi)) | ((with_reducible refine gate_callee (f := 33) rfl ?_); refine goesL_ (some 13) rfl rfl Try.func33 (by kernel_rfl) rfl #[.pointer (some ⟨g, 0, none⟩)] rfl (by (try simp only [List.map_toArray, List.map_cons, List.map_nil]); first | done | rfl | (simp only [List.length_drop, List.length_take]; rfl)) ?_; (with_reducible refine (bits_Reader_Fail.calls g s0_0 t251 t252 t253 t254 t255 w0 _ ?side1 ?side2 A6.out).mono ?_); (case side1 => repeat (first | (with_reducible first | exact HI0.out | apply zG.alloc | apply zG.drewN | apply zG.drew | apply zG.set_1 | apply zG.set_2) | exact HI0.out)); (case side2 => repeat (first | (with_reducible first | exact HB.out | apply zE | apply zB | apply zC | refine zD ?_ (zG.ge HI0.out)) | exact HB.out)); rintro e w18 ⟨rfl, hi, hb, hk⟩; refine ⟨_, rfl, ?_⟩; have n0_ := zF.mk (zI.trans (by repeat (first | (with_reducible first | exact HK.out | apply zI.set_ | apply zV | apply zW | apply zX) | exact HK.out)) hk (.inl rfl)); have n1_ := zF.mk (hb); have n2_ := zF.mk (hi); clear HK; clear HB; clear HI0; have HK := n0_; have HB := n1_; have HI0 := n2_; clear n0_ n1_ n2_; (try clear hb); (try clear hb2); (try clear hk); (try clear hi)) | ((with_reducible refine gate_callee (f := 32) rfl ?_); refine goesL_ (some 21) rfl rfl Try.func32 (by kernel_rfl) rfl #[.pointer (some ⟨g, 0, none⟩), .int .i64 t249] rfl (by (try simp only [List.map_toArray, List.map_cons, List.map_nil]); first | done | rfl | (simp only [List.length_drop, List.length_take]; rfl)) ?_; (with_reducible refine (bits_Reader_Take.calls k1 g s0_0 t254 t255 t249 t256 t257 t258 w0 _ ?side1 ?side2 A11.out).mono ?_); (case side1 => repeat (first | (with_reducible first | exact HI0.out | apply zG.alloc | apply zG.drewN | apply zG.drew | apply zG.set_1 | apply zG.set_2) | exact HI0.out)); (case side2 => repeat (first | (with_reducible first | exact HB.out | apply zE | apply zB | apply zC | refine zD ?_ (zG.ge HI0.out)) | exact HB.out)); rintro e w19 ⟨rfl, hi, hb, hk⟩; refine ⟨_, rfl, ?_⟩; have n0_ := zF.mk (zI.trans (by repeat (first | (with_reducible first | exact HK.out | apply zI.set_ | apply zV | apply zW | apply zX) | exact HK.out)) hk (.inl rfl)); have n1_ := zF.mk (hb); have n2_ := zF.mk (hi); clear HK; clear HB; clear HI0; have HK := n0_; have HB := n1_; have HI0 := n2_; clear n0_ n1_ n2_; (try clear hb); (try clear hb2); (try clear hk); (try clear hi)) | ((with_reducible refine gate_callee (f := 33) rfl ?_); refine goesL_ (some 23) rfl rfl Try.func33 (by kernel_rfl) rfl #[.pointer (some ⟨g, 0, none⟩)] rfl (by (try simp only [List.map_toArray, List.map_cons, List.map_nil]); first | done | rfl | (simp only [List.length_drop, List.length_take]; rfl)) ?_; (with_reducible refine (bits_Reader_Fail.calls g s0_0 t257 t258 t259 t260 t261 w0 _ ?side1 ?side2 A12.out).mono ?_); (case side1 => repeat (first | (with_reducible first | exact HI0.out | apply zG.alloc | apply zG.drewN | apply zG.drew | apply zG.set_1 | apply zG.set_2) | exact HI0.out)); (case side2 => repeat (first | (with_reducible first | exact HB.out | apply zE | apply zB | apply zC | refine zD ?_ (zG.ge HI0.out)) | exact HB.out)); rintro e w20 ⟨rfl, hi, hb, hk⟩; refine ⟨_, rfl, ?_⟩; have n0_ := zF.mk (zI.trans (by repeat (first | (with_reducible first | exact HK.out | apply zI.set_ | apply zV | apply zW | apply zX) | exact HK.out)) hk (.inl rfl)); have n1_ := zF.mk (hb); have n2_ := zF.mk (hi); clear HK; clear HB; clear HI0; have HK := n0_; have HB := n1_; have HI0 := n2_; clear n0_ n1_ n2_; (try clear hb); (try clear hb2); (try clear hk); (try clear hi)) | ((with_reducible refine gate_callee (f := 59) rfl ?_); refine goesL_ (some 30) rfl rfl Try.func59 (by kernel_rfl) rfl #[.int .u64 (Go.bits .or .u64 (ji15) t256)] rfl (by (try simp only [List.map_toArray, List.map_cons, List.map_nil]); first | done | (simp only [hji15]; rfl) | rfl | (simp only [List.length_drop, List.length_take]; rfl)) ?_; (with_reducible refine (rice_Unfold.calls (Go.bits .or .u64 (ji15) t256) t262 _ A16.out).mono ?_); rintro e w' ⟨rfl, ⟨nd, rfl⟩⟩; refine ⟨_, rfl, ?_⟩))
              (try simp only [Exit.jump])
              go_ret
              exact ⟨by first | rfl | (simp [errW_none, errW_some] <;> rfl) | (simp only [← hji15]; first | rfl | (simp [errW_none, errW_some] <;> rfl)) | (simp [*, errW_none, errW_some] <;> rfl), by repeat (first | (with_reducible first | exact HI0.out | apply zG.alloc | apply zG.drewN | apply zG.drew | apply zG.set_1 | apply zG.set_2) | exact HI0.out), by repeat (first | (with_reducible first | exact HB.out | apply zE | apply zB | apply zC | refine zD ?_ (zG.ge HI0.out)) | exact HB.out), by repeat (first | (with_reducible first | exact HK.out | apply zI.set_ | apply zV | apply zW | apply zX) | exact HK.out)⟩
            · rw [if_neg c14] at H
              exact absurd H (by simp)
          · rw [if_neg c13] at H
            have c13b0 : (t259 == 0) = false := beq_eq_false_iff_ne.mpr c13
            have c13b1 : (t259 != 0) = true := bne_iff_ne.mpr c13
            simp only [Option.some.injEq, Prod.mk.injEq] at H
            obtain ⟨rfl, rfl, rfl⟩ := H
            go_wp2_with (first | ((with_reducible refine gate_callee (f := 32) rfl ?_); refine goesL_ (some 11) rfl rfl Try.func32 (by kernel_rfl) rfl #[.pointer (some ⟨g, 0, none⟩), .int .i64 1] rfl (by (try simp only [List.map_toArray, List.map_cons, List.map_nil]); first | done | rfl | (simp only [List.length_drop, List.length_take]; rfl)) ?_; (with_reducible refine (bits_Reader_Take.calls k1 g s0_0 x1001_1 x1002_1 1 t250 t251 t252 w0 _ ?side1 ?side2 A5.out).mono ?_); (case side1 => repeat (first | (with_reducible first | exact HI0.out | apply zG.alloc | apply zG.drewN | apply zG.drew | apply zG.set_1 | apply zG.set_2) | exact HI0.out)); (case side2 => repeat (first | (with_reducible first | exact HB.out | apply zE | apply zB | apply zC | refine zD ?_ (zG.ge HI0.out)) | exact HB.out)); rintro e w21 ⟨rfl, hi, hb, hk⟩; refine ⟨_, rfl, ?_⟩; have n0_ := zF.mk (zI.trans (by repeat (first | (with_reducible first | exact HK.out | apply zI.set_ | apply zV | apply zW | apply zX) | exact HK.out)) hk (.inl rfl)); have n1_ := zF.mk (hb); have n2_ := zF.mk (hi); clear HK; clear HB; clear HI0; have HK := n0_; have HB := n1_; have HI0 := n2_; clear n0_ n1_ n2_; (try clear hb); (try clear hb2); (try clear hk); (try clear hi)) | ((with_reducible refine gate_callee (f := 33) rfl ?_); refine goesL_ (some 13) rfl rfl Try.func33 (by kernel_rfl) rfl #[.pointer (some ⟨g, 0, none⟩)] rfl (by (try simp only [List.map_toArray, List.map_cons, List.map_nil]); first | done | rfl | (simp only [List.length_drop, List.length_take]; rfl)) ?_; (with_reducible refine (bits_Reader_Fail.calls g s0_0 t251 t252 t253 t254 t255 w0 _ ?side1 ?side2 A6.out).mono ?_); (case side1 => repeat (first | (with_reducible first | exact HI0.out | apply zG.alloc | apply zG.drewN | apply zG.drew | apply zG.set_1 | apply zG.set_2) | exact HI0.out)); (case side2 => repeat (first | (with_reducible first | exact HB.out | apply zE | apply zB | apply zC | refine zD ?_ (zG.ge HI0.out)) | exact HB.out)); rintro e w22 ⟨rfl, hi, hb, hk⟩; refine ⟨_, rfl, ?_⟩; have n0_ := zF.mk (zI.trans (by repeat (first | (with_reducible first | exact HK.out | apply zI.set_ | apply zV | apply zW | apply zX) | exact HK.out)) hk (.inl rfl)); have n1_ := zF.mk (hb); have n2_ := zF.mk (hi); clear HK; clear HB; clear HI0; have HK := n0_; have HB := n1_; have HI0 := n2_; clear n0_ n1_ n2_; (try clear hb); (try clear hb2); (try clear hk); (try clear hi)) | ((with_reducible refine gate_callee (f := 32) rfl ?_); refine goesL_ (some 21) rfl rfl Try.func32 (by kernel_rfl) rfl #[.pointer (some ⟨g, 0, none⟩), .int .i64 t249] rfl (by (try simp only [List.map_toArray, List.map_cons, List.map_nil]); first | done | rfl | (simp only [List.length_drop, List.length_take]; rfl)) ?_; (with_reducible refine (bits_Reader_Take.calls k1 g s0_0 t254 t255 t249 t256 t257 t258 w0 _ ?side1 ?side2 A11.out).mono ?_); (case side1 => repeat (first | (with_reducible first | exact HI0.out | apply zG.alloc | apply zG.drewN | apply zG.drew | apply zG.set_1 | apply zG.set_2) | exact HI0.out)); (case side2 => repeat (first | (with_reducible first | exact HB.out | apply zE | apply zB | apply zC | refine zD ?_ (zG.ge HI0.out)) | exact HB.out)); rintro e w23 ⟨rfl, hi, hb, hk⟩; refine ⟨_, rfl, ?_⟩; have n0_ := zF.mk (zI.trans (by repeat (first | (with_reducible first | exact HK.out | apply zI.set_ | apply zV | apply zW | apply zX) | exact HK.out)) hk (.inl rfl)); have n1_ := zF.mk (hb); have n2_ := zF.mk (hi); clear HK; clear HB; clear HI0; have HK := n0_; have HB := n1_; have HI0 := n2_; clear n0_ n1_ n2_; (try clear hb); (try clear hb2); (try clear hk); (try clear hi)) | ((with_reducible refine gate_callee (f := 33) rfl ?_); refine goesL_ (some 23) rfl rfl Try.func33 (by kernel_rfl) rfl #[.pointer (some ⟨g, 0, none⟩)] rfl (by (try simp only [List.map_toArray, List.map_cons, List.map_nil]); first | done | rfl | (simp only [List.length_drop, List.length_take]; rfl)) ?_; (with_reducible refine (bits_Reader_Fail.calls g s0_0 t257 t258 t259 t260 t261 w0 _ ?side1 ?side2 A12.out).mono ?_); (case side1 => repeat (first | (with_reducible first | exact HI0.out | apply zG.alloc | apply zG.drewN | apply zG.drew | apply zG.set_1 | apply zG.set_2) | exact HI0.out)); (case side2 => repeat (first | (with_reducible first | exact HB.out | apply zE | apply zB | apply zC | refine zD ?_ (zG.ge HI0.out)) | exact HB.out)); rintro e w24 ⟨rfl, hi, hb, hk⟩; refine ⟨_, rfl, ?_⟩; have n0_ := zF.mk (zI.trans (by repeat (first | (with_reducible first | exact HK.out | apply zI.set_ | apply zV | apply zW | apply zX) | exact HK.out)) hk (.inl rfl)); have n1_ := zF.mk (hb); have n2_ := zF.mk (hi); clear HK; clear HB; clear HI0; have HK := n0_; have HB := n1_; have HI0 := n2_; clear n0_ n1_ n2_; (try clear hb); (try clear hb2); (try clear hk); (try clear hi)))
            (try simp only [Exit.jump])
            go_ret
            exact ⟨by first | rfl | (simp [errW_none, errW_some] <;> rfl) | (simp [*, errW_none, errW_some] <;> rfl), by repeat (first | (with_reducible first | exact HI0.out | apply zG.alloc | apply zG.drewN | apply zG.drew | apply zG.set_1 | apply zG.set_2) | exact HI0.out), by repeat (first | (with_reducible first | exact HB.out | apply zE | apply zB | apply zC | refine zD ?_ (zG.ge HI0.out)) | exact HB.out), by repeat (first | (with_reducible first | exact HK.out | apply zI.set_ | apply zV | apply zW | apply zX) | exact HK.out)⟩
      · rw [if_neg c7] at H
        have c7b0 : (t253 == 0) = false := beq_eq_false_iff_ne.mpr c7
        have c7b1 : (t253 != 0) = true := bne_iff_ne.mpr c7
        simp only [Option.some.injEq, Prod.mk.injEq] at H
        obtain ⟨rfl, rfl, rfl⟩ := H
        go_wp2_with (first | ((with_reducible refine gate_callee (f := 32) rfl ?_); refine goesL_ (some 11) rfl rfl Try.func32 (by kernel_rfl) rfl #[.pointer (some ⟨g, 0, none⟩), .int .i64 1] rfl (by (try simp only [List.map_toArray, List.map_cons, List.map_nil]); first | done | rfl | (simp only [List.length_drop, List.length_take]; rfl)) ?_; (with_reducible refine (bits_Reader_Take.calls k1 g s0_0 x1001_1 x1002_1 1 t250 t251 t252 w0 _ ?side1 ?side2 A5.out).mono ?_); (case side1 => repeat (first | (with_reducible first | exact HI0.out | apply zG.alloc | apply zG.drewN | apply zG.drew | apply zG.set_1 | apply zG.set_2) | exact HI0.out)); (case side2 => repeat (first | (with_reducible first | exact HB.out | apply zE | apply zB | apply zC | refine zD ?_ (zG.ge HI0.out)) | exact HB.out)); rintro e w25 ⟨rfl, hi, hb, hk⟩; refine ⟨_, rfl, ?_⟩; have n0_ := zF.mk (zI.trans (by repeat (first | (with_reducible first | exact HK.out | apply zI.set_ | apply zV | apply zW | apply zX) | exact HK.out)) hk (.inl rfl)); have n1_ := zF.mk (hb); have n2_ := zF.mk (hi); clear HK; clear HB; clear HI0; have HK := n0_; have HB := n1_; have HI0 := n2_; clear n0_ n1_ n2_; (try clear hb); (try clear hb2); (try clear hk); (try clear hi)) | ((with_reducible refine gate_callee (f := 33) rfl ?_); refine goesL_ (some 13) rfl rfl Try.func33 (by kernel_rfl) rfl #[.pointer (some ⟨g, 0, none⟩)] rfl (by (try simp only [List.map_toArray, List.map_cons, List.map_nil]); first | done | rfl | (simp only [List.length_drop, List.length_take]; rfl)) ?_; (with_reducible refine (bits_Reader_Fail.calls g s0_0 t251 t252 t253 t254 t255 w0 _ ?side1 ?side2 A6.out).mono ?_); (case side1 => repeat (first | (with_reducible first | exact HI0.out | apply zG.alloc | apply zG.drewN | apply zG.drew | apply zG.set_1 | apply zG.set_2) | exact HI0.out)); (case side2 => repeat (first | (with_reducible first | exact HB.out | apply zE | apply zB | apply zC | refine zD ?_ (zG.ge HI0.out)) | exact HB.out)); rintro e w26 ⟨rfl, hi, hb, hk⟩; refine ⟨_, rfl, ?_⟩; have n0_ := zF.mk (zI.trans (by repeat (first | (with_reducible first | exact HK.out | apply zI.set_ | apply zV | apply zW | apply zX) | exact HK.out)) hk (.inl rfl)); have n1_ := zF.mk (hb); have n2_ := zF.mk (hi); clear HK; clear HB; clear HI0; have HK := n0_; have HB := n1_; have HI0 := n2_; clear n0_ n1_ n2_; (try clear hb); (try clear hb2); (try clear hk); (try clear hi)))
        (try simp only [Exit.jump])
        go_ret
        exact ⟨by first | rfl | (simp [errW_none, errW_some] <;> rfl) | (simp [*, errW_none, errW_some] <;> rfl), by repeat (first | (with_reducible first | exact HI0.out | apply zG.alloc | apply zG.drewN | apply zG.drew | apply zG.set_1 | apply zG.set_2) | exact HI0.out), by repeat (first | (with_reducible first | exact HB.out | apply zE | apply zB | apply zC | refine zD ?_ (zG.ge HI0.out)) | exact HB.out), by repeat (first | (with_reducible first | exact HK.out | apply zI.set_ | apply zV | apply zW | apply zX) | exact HK.out)⟩
  case first =>
    intro K_ hR_
    go_wp2_with (first | ((with_reducible refine gate_callee (f := 46) rfl ?_); refine goesL_ (some 9) rfl rfl Try.func46 (by kernel_rfl) rfl #[.int .i64 a1] rfl (by (try simp only [List.map_toArray, List.map_cons, List.map_nil]); first | done | rfl | (simp only [List.length_drop, List.length_take]; rfl)) ?_; (with_reducible refine (rice_held.calls a1 t249 _ A3.out).mono ?_); rintro e w4 ⟨rfl, hb⟩; refine ⟨_, rfl, ?_⟩; have n0_ := zF.mk (zG.below (by repeat (first | (with_reducible first | exact HI0.out | apply zG.alloc | apply zG.drewN | apply zG.drew | apply zG.set_1 | apply zG.set_2) | exact HI0.out)) hb); have n1_ := zF.mk (zI.trans (by repeat (first | (with_reducible first | exact HK.out | apply zI.set_ | apply zV | apply zW | apply zX) | exact HK.out)) (zI.of_below hb g none) (.inl rfl)); have n2_ := zF.mk (below_step (by repeat (first | (with_reducible first | exact HB.out | apply zE | apply zB | apply zC | refine zD ?_ (zG.ge HI0.out)) | exact HB.out)) hb); clear HI0; clear HK; clear HB; have HI0 := n0_; have HK := n1_; have HB := n2_; clear n0_ n1_ n2_; (try clear hb); (try clear hb2); (try clear hk); (try clear hi)))
    go_wp2
    go_step3
    go_step
    go_step
    refine hR_ k _ _ ?_
    repeat apply Exists.intro
    refine ⟨?_, rfl⟩
    exact ⟨(0), (s0_1), (s0_2), (by first | rfl | (simp; done) | (simp only [i64_w, i32_w]; done) | (simp [*]; done) | (simp only [i64_w, i32_w]; first | rfl | (simp; done) | (simp [*]; done))), H', ⟨Nat.le_refl _⟩, ⟨by repeat (first | (with_reducible first | exact HI0.out | apply zG.alloc | apply zG.drewN | apply zG.drew | apply zG.set_1 | apply zG.set_2) | exact HI0.out)⟩, ⟨by repeat (first | (with_reducible first | exact HK.out | apply zI.set_ | apply zV | apply zW | apply zX) | exact HK.out)⟩, ⟨by repeat (first | (with_reducible first | exact HB.out | apply zE | apply zB | apply zC | refine zD ?_ (zG.ge HI0.out)) | exact HB.out)⟩⟩

def section_number.f (k : Nat) (s0_0 : List Int) (s0_1 : Int) (s0_2 : Int) (a1_0 : Int) (a1_1 : Bool) : Option (Int × Int × Int) := if a1_1 = true then ((section_raw.f k s0_0 s0_1 s0_2 a1_0).bind fun bt256 => (some (bt256.1, bt256.2.1, bt256.2.2))) else ((rice_Take.f k s0_0 s0_1 s0_2 a1_0).bind fun bt259 => (some (bt259.1, bt259.2.1, bt259.2.2)))
set_option maxHeartbeats 8000000 in
set_option maxRecDepth 100000 in
theorem section_number.calls (k : Nat) (g : Nat) (s0_0 : List Int) (s0_1 : Int) (s0_2 : Int) (a1_0 : Int) (a1_1 : Bool) (r1 : Int) (r2 : Int) (r3 : Int) (w0 w : World) (hI : zG w0 w g s0_0 s0_1 s0_2) (hB : Below w0.heap.size w0 w) (h : section_number.f k s0_0 s0_1 s0_2 a1_0 a1_1 = some (r1, r2, r3)) :
    Calls Try.prog 35 #[.pointer (some ⟨g, 0, none⟩), .agg #[.int .i64 a1_0, .bool a1_1]] w fun e w' => e = .returned (.int .i64 r1) ∧ zG w0 w' g s0_0 r2 r3 ∧ Below w0.heap.size w0 w' ∧ zI w w' g none := by
  have hu50 := Try.underlying50
  have HI0 := zF.mk hI
  have HK := zF.mk (zI.refl w g none)
  have HL := zF.mk hB.size
  clear hI
  have HW0 := zF.mk hB.size
  have HB := zF.mk hB
  clear hB
  have H : (if a1_1 = true then ((section_raw.f k s0_0 s0_1 s0_2 a1_0).bind fun bt256 => (some (bt256.1, bt256.2.1, bt256.2.2))) else ((rice_Take.f k s0_0 s0_1 s0_2 a1_0).bind fun bt259 => (some (bt259.1, bt259.2.1, bt259.2.2)))) = some (r1, r2, r3) := h
  clear h
  by_cases c3 : a1_1 = true
  focus
    subst c3
    have H1 : ((section_raw.f k s0_0 s0_1 s0_2 a1_0).bind fun bt256 => (some (bt256.1, bt256.2.1, bt256.2.2))) = some (r1, r2, r3) := by rw [if_pos rfl] at H; exact H
    clear H
    have H := H1
    clear H1
    replace H := Option.bind_eq_some_iff.mp H
    obtain ⟨⟨t256, t257, t258⟩, A40, H⟩ := H
    replace H : (some (t256, t257, t258)) = some (r1, r2, r3) := H
    have A4 := zF.mk A40
    clear A40
    simp only [Option.some.injEq, Prod.mk.injEq] at H
    obtain ⟨rfl, rfl, rfl⟩ := H
    go_enter Try.func35, Try.ntmps35
  rotate_left 1
  focus
    replace c3 := Bool.eq_false_iff.mpr c3
    subst c3
    have H1 : ((rice_Take.f k s0_0 s0_1 s0_2 a1_0).bind fun bt259 => (some (bt259.1, bt259.2.1, bt259.2.2))) = some (r1, r2, r3) := by rw [if_neg (show ¬ (false = true) by decide)] at H; exact H
    clear H
    have H := H1
    clear H1
    replace H := Option.bind_eq_some_iff.mp H
    obtain ⟨⟨t259, t260, t261⟩, A90, H⟩ := H
    replace H : (some (t259, t260, t261)) = some (r1, r2, r3) := H
    have A9 := zF.mk A90
    clear A90
    simp only [Option.some.injEq, Prod.mk.injEq] at H
    obtain ⟨rfl, rfl, rfl⟩ := H
    go_enter Try.func35, Try.ntmps35
  all_goals
    go_wp2_with (first | ((with_reducible refine gate_dst (N := 3) rfl ?_); refine box_event ?hg (N := 3) ?hd (cs := #[.int .i64 a1_0, .bool true]) (t := 50) ?hr ?_; (case hd => rfl); (case hg => rfl); (case hr => first | (go_simp; done) | (go_simp; rfl)); intro gb255 hg w5 hbox hb; have n0_ := zF.mk (zG.below (by repeat (first | (with_reducible first | exact HI0.out | apply zG.alloc | apply zG.drewN | apply zG.drew | apply zG.set_1 | apply zG.set_2) | exact HI0.out)) hb); have n1_ := zF.mk (zI.trans (by repeat (first | (with_reducible first | exact HK.out | apply zI.set_ | apply zV | apply zW | apply zX) | exact HK.out)) (zI.of_below hb g none) (.inl rfl)); have n2_ := zF.mk (below_step (by repeat (first | (with_reducible first | exact HB.out | apply zE | apply zB | apply zC | refine zD ?_ (zG.ge HI0.out)) | exact HB.out)) hb); have n3_ := zF.mk (hbox); have n4_ := zF.mk ((by rw [hg]; exact (keep_size (w := w) (g := g) (row := none) (by repeat (first | (with_reducible first | exact HK.out | apply zI.set_ | apply zV | apply zW | apply zX) | exact HK.out))) : w.heap.size ≤ gb255)); have n5_ := zF.mk ((Nat.le_trans HW0.out (by rw [hg]; exact (keep_size (w := w) (g := g) (row := none) (by repeat (first | (with_reducible first | exact HK.out | apply zI.set_ | apply zV | apply zW | apply zX) | exact HK.out))) : w.heap.size ≤ gb255) : w0.heap.size ≤ gb255)); have n6_ := zF.mk ((by rw [hg]; exact Nat.ne_of_lt (zG.lt (show zG w0 _ g s0_0 s0_1 s0_2 from by repeat (first | (with_reducible first | exact HI0.out | apply zG.alloc | apply zG.drewN | apply zG.drew | apply zG.set_1 | apply zG.set_2) | exact HI0.out))) : g ≠ gb255)); have n7_ := zF.mk ((by rw [hg]; exact Nat.ne_of_gt (zG.lt (show zG w0 _ g s0_0 s0_1 s0_2 from by repeat (first | (with_reducible first | exact HI0.out | apply zG.alloc | apply zG.drewN | apply zG.drew | apply zG.set_1 | apply zG.set_2) | exact HI0.out))) : gb255 ≠ g)); clear HI0; clear HK; clear HB; have HI0 := n0_; have HK := n1_; have HB := n2_; have BK255 := n3_; have GW255 := n4_; have GE255 := n5_; have NB0_255 := n6_; have NB255_0 := n7_; clear n0_ n1_ n2_ n3_ n4_ n5_ n6_ n7_; clear hb hbox hg; have hnb6 := NB255_0.out; have hnc6 := NB0_255.out; have hcz7_0 : w5.cell? ⟨gb255, 0, none⟩ = some (.int .i64 a1_0) := (zM BK255.out 0).trans rfl; have hcz7_1 : w5.cell? ⟨gb255, 1, none⟩ = some (.bool true) := (zM BK255.out 1).trans rfl; have hfz7_0 := zN BK255.out 0; have hfz7_1 := zN BK255.out 1) | ((with_reducible refine gate_callee (f := 51) rfl ?_); refine goesL_ (some 10) rfl rfl Try.func51 (by kernel_rfl) rfl #[.pointer (some ⟨g, 0, none⟩), .int .i64 a1_0] rfl (by (try simp only [List.map_toArray, List.map_cons, List.map_nil]); first | done | rfl | (simp only [List.length_drop, List.length_take]; rfl)) ?_; (with_reducible refine (section_raw.calls k g s0_0 s0_1 s0_2 a1_0 t256 t257 t258 w0 _ ?side1 ?side2 A4.out).mono ?_); (case side1 => repeat (first | (with_reducible first | exact HI0.out | apply zG.alloc | apply zG.drewN | apply zG.drew | apply zG.set_1 | apply zG.set_2 | refine zG.far ?_ NB0_255.out _) | exact HI0.out)); (case side2 => repeat (first | (with_reducible first | exact HB.out | apply zE | apply zB | apply zC | refine zD ?_ (zG.ge HI0.out) | refine zD ?_ GE255.out) | exact HB.out)); rintro e w8 ⟨rfl, hi, hb, hk⟩; refine ⟨_, rfl, ?_⟩; have n0_ := zF.mk (zI.blk hk (g' := gb255) (o := .cells #[.int .i64 a1_0, .bool true] 50 (0, 0)) (by (with_reducible repeat (first | refine zK ?_ _ | refine zL ?_ | refine zJ ?_ _)); exact BK255.out) NB255_0.out (by simp)); have n1_ := zF.mk (zI.trans (by repeat (first | (with_reducible first | exact HK.out | apply zI.set_ | apply zV | apply zW | apply zX | refine zY ?_ GW255.out _) | exact HK.out)) hk (.inl rfl)); have n2_ := zF.mk (hb); have n3_ := zF.mk (hi); clear BK255; clear HK; clear HB; clear HI0; have BK255 := n0_; have HK := n1_; have HB := n2_; have HI0 := n3_; clear n0_ n1_ n2_ n3_; (try clear hb); (try clear hb2); (try clear hk); (try clear hi)) | ((with_reducible refine gate_dst (N := 3) rfl ?_); refine box_event ?hg (N := 3) ?hd (cs := #[.int .i64 a1_0, .bool false]) (t := 50) ?hr ?_; (case hd => rfl); (case hg => rfl); (case hr => first | (go_simp; done) | (go_simp; rfl)); intro gb255 hg w10 hbox hb; have n0_ := zF.mk (zG.below (by repeat (first | (with_reducible first | exact HI0.out | apply zG.alloc | apply zG.drewN | apply zG.drew | apply zG.set_1 | apply zG.set_2) | exact HI0.out)) hb); have n1_ := zF.mk (zI.trans (by repeat (first | (with_reducible first | exact HK.out | apply zI.set_ | apply zV | apply zW | apply zX) | exact HK.out)) (zI.of_below hb g none) (.inl rfl)); have n2_ := zF.mk (below_step (by repeat (first | (with_reducible first | exact HB.out | apply zE | apply zB | apply zC | refine zD ?_ (zG.ge HI0.out)) | exact HB.out)) hb); have n3_ := zF.mk (hbox); have n4_ := zF.mk ((by rw [hg]; exact (keep_size (w := w) (g := g) (row := none) (by repeat (first | (with_reducible first | exact HK.out | apply zI.set_ | apply zV | apply zW | apply zX) | exact HK.out))) : w.heap.size ≤ gb255)); have n5_ := zF.mk ((Nat.le_trans HW0.out (by rw [hg]; exact (keep_size (w := w) (g := g) (row := none) (by repeat (first | (with_reducible first | exact HK.out | apply zI.set_ | apply zV | apply zW | apply zX) | exact HK.out))) : w.heap.size ≤ gb255) : w0.heap.size ≤ gb255)); have n6_ := zF.mk ((by rw [hg]; exact Nat.ne_of_lt (zG.lt (show zG w0 _ g s0_0 s0_1 s0_2 from by repeat (first | (with_reducible first | exact HI0.out | apply zG.alloc | apply zG.drewN | apply zG.drew | apply zG.set_1 | apply zG.set_2) | exact HI0.out))) : g ≠ gb255)); have n7_ := zF.mk ((by rw [hg]; exact Nat.ne_of_gt (zG.lt (show zG w0 _ g s0_0 s0_1 s0_2 from by repeat (first | (with_reducible first | exact HI0.out | apply zG.alloc | apply zG.drewN | apply zG.drew | apply zG.set_1 | apply zG.set_2) | exact HI0.out))) : gb255 ≠ g)); clear HI0; clear HK; clear HB; have HI0 := n0_; have HK := n1_; have HB := n2_; have BK255 := n3_; have GW255 := n4_; have GE255 := n5_; have NB0_255 := n6_; have NB255_0 := n7_; clear n0_ n1_ n2_ n3_ n4_ n5_ n6_ n7_; clear hb hbox hg; have hnb11 := NB255_0.out; have hnc11 := NB0_255.out; have hcz12_0 : w10.cell? ⟨gb255, 0, none⟩ = some (.int .i64 a1_0) := (zM BK255.out 0).trans rfl; have hcz12_1 : w10.cell? ⟨gb255, 1, none⟩ = some (.bool false) := (zM BK255.out 1).trans rfl; have hfz12_0 := zN BK255.out 0; have hfz12_1 := zN BK255.out 1) | ((with_reducible refine gate_callee (f := 52) rfl ?_); refine goesL_ (some 14) rfl rfl Try.func52 (by kernel_rfl) rfl #[.pointer (some ⟨g, 0, none⟩), .int .i64 a1_0] rfl (by (try simp only [List.map_toArray, List.map_cons, List.map_nil]); first | done | rfl | (simp only [List.length_drop, List.length_take]; rfl)) ?_; (with_reducible refine (rice_Take.calls k g s0_0 s0_1 s0_2 a1_0 t259 t260 t261 w0 _ ?side1 ?side2 A9.out).mono ?_); (case side1 => repeat (first | (with_reducible first | exact HI0.out | apply zG.alloc | apply zG.drewN | apply zG.drew | apply zG.set_1 | apply zG.set_2 | refine zG.far ?_ NB0_255.out _) | exact HI0.out)); (case side2 => repeat (first | (with_reducible first | exact HB.out | apply zE | apply zB | apply zC | refine zD ?_ (zG.ge HI0.out) | refine zD ?_ GE255.out) | exact HB.out)); rintro e w13 ⟨rfl, hi, hb, hk⟩; refine ⟨_, rfl, ?_⟩; have n0_ := zF.mk (zI.blk hk (g' := gb255) (o := .cells #[.int .i64 a1_0, .bool false] 50 (0, 0)) (by (with_reducible repeat (first | refine zK ?_ _ | refine zL ?_ | refine zJ ?_ _)); exact BK255.out) NB255_0.out (by simp)); have n1_ := zF.mk (zI.trans (by repeat (first | (with_reducible first | exact HK.out | apply zI.set_ | apply zV | apply zW | apply zX | refine zY ?_ GW255.out _) | exact HK.out)) hk (.inl rfl)); have n2_ := zF.mk (hb); have n3_ := zF.mk (hi); clear BK255; clear HK; clear HB; clear HI0; have BK255 := n0_; have HK := n1_; have HB := n2_; have HI0 := n3_; clear n0_ n1_ n2_ n3_; (try clear hb); (try clear hb2); (try clear hk); (try clear hi)))
    go_ret
    exact ⟨by first | rfl | (simp [errW_none, errW_some] <;> rfl) | (simp [*, errW_none, errW_some] <;> rfl), by repeat (first | (with_reducible first | exact HI0.out | apply zG.alloc | apply zG.drewN | apply zG.drew | apply zG.set_1 | apply zG.set_2 | refine zG.far ?_ NB0_255.out _) | exact HI0.out), by repeat (first | (with_reducible first | exact HB.out | apply zE | apply zB | apply zC | refine zD ?_ (zG.ge HI0.out) | refine zD ?_ GE255.out) | exact HB.out), by repeat (first | (with_reducible first | exact HK.out | apply zI.set_ | apply zV | apply zW | apply zX | refine zY ?_ GW255.out _) | exact HK.out)⟩
end Go.Proofs.Ytokdjeoecnnckaa.PA
end
