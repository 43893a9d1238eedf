/- Each Go function named below comes to what the plain Lean function of its name answers, wherever that answers (rounds enough, no panic, no row too long); texts by a program of this session by way of the kit's print.py, what that does not take by hand. Condition: what is read lies in memory as each theorem says. -/
import Derived.Test.YtdologjfcmidlaaPAx0
import Derived.Test.YtdologjfcmidlaaPAx4
import Derived.Test.YtdologjfcmidlaaPAx9
import Derived.Test.YtdologjfcmidlaaPAx25
import Derived.Test.YtdologjfcmidlaaPAx28
import Derived.Test.YtdologjfcmidlaaPAx29
namespace Go.Proofs.Ytdologjfcmidlaa.PA
open Go.RowKit Go.Proofs.YtdologjfcmidlaaW.PrintWords Go.Proofs.YtdologjfcmidlaaW.PrintLast Go.Proofs.YtdologjfcmidlaaW.PrintMore
attribute [local go_sem] max2_int min2_int max_two min_two max_three min_three max_four min_four   -- for this text's walks alone
set_option linter.unusedVariables false
set_option linter.unusedSimpArgs false

/-! ### serinettelaw13_CostWritten: function 8 -/
def serinettelaw13_CostWritten.l0 : Nat → List Int → Int → Bool → List Int → Int → ByteArray → Int → Option (Bool)
  | 0, _, _, _, _, _, _, _ => none
  | k + 1, x0, x1, x5, x7, x8, x285000, x285001 => if x8 < (x0.length : Int) then (if 0 ≤ x8 then (if x7.length < 17592186044416 then ((rice_Put.f k x285000 x285001 (Int.tmod (wrap64 (rd x0 x8)) 151) (wrap64 (Int.tmod x1 31))).bind fun bt289 => (if bt289.1 = 0 then (serinettelaw13_CostWritten.l0 k x0 x1 x5 (x7 ++ [Int.tmod (wrap64 (rd x0 x8)) 151]) (wrap64 (x8 + 1)) bt289.2.1 bt289.2.2) else (some false))) else (none)) else (none)) else (if x5 = true then ((cost_Bits.f k x7 (wrap64 (Int.tmod x1 31))).bind fun t292 => ((bits_Writer_Len.f x285000 x285001).bind fun bt293 => (some (t292 == bt293.1)))) else (some false))
def serinettelaw13_CostWritten.f (k : Nat) (l0 : List Int) (a1 : Int) : Option (Bool) := (serinettelaw13_awake.f k).bind fun t281 => (if (l0.length : Int) > 50 then (some t281) else ((bits_New.f).bind fun bt282 => (serinettelaw13_CostWritten.l0 k l0 a1 t281 ([] : List Int) 0 bt282.1 bt282.2)))
theorem serinettelaw13_CostWritten.mono_l : ∀ k, (∀ y0 y1 y2 y3 y4 y5 y6, LeO (serinettelaw13_CostWritten.l0 k y0 y1 y2 y3 y4 y5 y6) (serinettelaw13_CostWritten.l0 (k + 1) y0 y1 y2 y3 y4 y5 y6))
  | 0 => fun _ _ _ _ _ _ _ r h => by simp [serinettelaw13_CostWritten.l0] at h
  | k + 1 => by
    have ih0 := serinettelaw13_CostWritten.mono_l k
    · intro y0 y1 y2 y3 y4 y5 y6
      unfold serinettelaw13_CostWritten.l0
      repeat' first
      | (with_reducible exact ih0 _ _ _ _ _ _ _)
      | (with_reducible exact cost_Bits.mono _ _ _)
      | (with_reducible exact rice_Put.mono _ _ _ _ _)
      | (with_reducible exact serinettelaw13_awake.mono _)
      | (with_reducible exact LeO.refl _)
      | (with_reducible exact LeO.none _)
      | (with_reducible refine LeO.ite ?_ ?_)
      | (with_reducible refine LeO.bind ?_ (fun _ => ?_))
      | exact ih0 _ _ _ _ _ _ _
      | exact cost_Bits.mono _ _ _
      | exact rice_Put.mono _ _ _ _ _
      | exact serinettelaw13_awake.mono _
      | exact LeO.none _
      | refine LeO.ite ?_ ?_
      | refine LeO.bind ?_ (fun _ => ?_)
theorem serinettelaw13_CostWritten.mono : ∀ a0 a1 k, LeO (serinettelaw13_CostWritten.f k a0 a1) (serinettelaw13_CostWritten.f (k + 1) a0 a1) := by
  intro a0 a1 k
  have ih0 := serinettelaw13_CostWritten.mono_l k
  unfold serinettelaw13_CostWritten.f
  repeat' first
      | (with_reducible exact ih0 _ _ _ _ _ _ _)
      | (with_reducible exact cost_Bits.mono _ _ _)
      | (with_reducible exact rice_Put.mono _ _ _ _ _)
      | (with_reducible exact serinettelaw13_awake.mono _)
      | (with_reducible exact LeO.refl _)
      | (with_reducible exact LeO.none _)
      | (with_reducible refine LeO.ite ?_ ?_)
      | (with_reducible refine LeO.bind ?_ (fun _ => ?_))
      | exact ih0 _ _ _ _ _ _ _
      | exact cost_Bits.mono _ _ _
      | exact rice_Put.mono _ _ _ _ _
      | exact serinettelaw13_awake.mono _
      | exact LeO.none _
      | refine LeO.ite ?_ ?_
      | refine LeO.bind ?_ (fun _ => ?_)
set_option maxHeartbeats 8000000 in
set_option maxRecDepth 100000 in
theorem serinettelaw13_CostWritten.calls (k : Nat) (A0 : Option Addr) (c0 : Nat) (l0 : List Int) (a1 : Int) (r : Bool) (w : World) (hr0 : Kd.C (Kd.int .i16) w A0 l0.length l0) (hc0 : l0.length ≤ c0) (h : serinettelaw13_CostWritten.f k l0 a1 = some r) :
    Calls Try.prog 8 #[.slice A0 l0.length c0, .int .u8 a1] w fun e w' => e = .returned (.bool r) ∧ Below w.heap.size w w' := by
  have HR0 := Aside0.mk hr0
  have HC0 := Aside0.mk hc0
  clear hr0 hc0
  have HB := Aside0.mk (Below.refl w.heap.size w)
  have H : ((serinettelaw13_awake.f k).bind fun t281 => (if (l0.length : Int) > 50 then (some t281) else ((bits_New.f).bind fun bt282 => (serinettelaw13_CostWritten.l0 k l0 a1 t281 ([] : List Int) 0 bt282.1 bt282.2)))) = some r := h
  clear h
  replace H := Option.bind_eq_some_iff.mp H
  obtain ⟨t281, A30, H⟩ := H
  replace H : (if (l0.length : Int) > 50 then (some t281) else ((bits_New.f).bind fun bt282 => (serinettelaw13_CostWritten.l0 k l0 a1 t281 ([] : List Int) 0 bt282.1 bt282.2))) = some r := H
  have A3 := Aside0.mk A30
  clear A30
  by_cases c4 : (l0.length : Int) > 50
  · rw [if_pos c4] at H
    have c4b0 : decide (50 < (l0.length : Int)) = true := decide_eq_true c4
    have c4b1 : decide (50 < l0.length) = true := decide_eq_true (by omega)
    clear c4
    obtain rfl := Option.some.inj H
    go_enter Try.func8, Try.ntmps8
    go_wp2_with (first | ((with_reducible refine gate_callee (f := 9) rfl ?_); refine goesL_ (some 10) rfl rfl Try.func9 (by kernel_rfl) rfl #[] rfl (by (try simp only [List.map_toArray, List.map_cons, List.map_nil]); first | done | rfl | (simp only [List.length_drop, List.length_take]; rfl)) ?_; (with_reducible refine (serinettelaw13_awake.calls k  t281 _ A3.out).mono ?_); rintro e w5 ⟨rfl, hb⟩; refine ⟨_, rfl, ?_⟩; have n0_ := Aside0.mk (below_step (by repeat (first | (with_reducible first | exact HB.out | apply below_alloc | apply pw_below_drewN | apply below_drew1) | exact HB.out)) hb); clear HB; have HB := n0_; clear n0_; (try clear hb); (try clear hb2); (try clear hk); (try clear hi)))
    go_ret
    exact ⟨by first | rfl | (simp [errW_none, errW_some] <;> rfl) | (simp [*, errW_none, errW_some] <;> rfl), by repeat (first | (with_reducible first | exact HB.out | apply below_alloc | apply pw_below_drewN | apply below_drew1) | exact HB.out)⟩
  · rw [if_neg c4] at H
    have c4b0 : decide (50 < (l0.length : Int)) = false := decide_eq_false c4
    have c4b1 : decide (50 < l0.length) = false := decide_eq_false (by omega)
    clear c4
    replace H := Option.bind_eq_some_iff.mp H
    obtain ⟨⟨t282, t283⟩, A60, H⟩ := H
    replace H : (serinettelaw13_CostWritten.l0 k l0 a1 t281 ([] : List Int) 0 t282 t283) = some r := H
    have A6 := Aside0.mk A60
    clear A60
    have H' := Aside0.mk H
    clear H
    go_enter Try.func8, Try.ntmps8
    go_wp2_with (first | ((with_reducible refine gate_callee (f := 9) rfl ?_); refine goesL_ (some 10) rfl rfl Try.func9 (by kernel_rfl) rfl #[] rfl (by (try simp only [List.map_toArray, List.map_cons, List.map_nil]); first | done | rfl | (simp only [List.length_drop, List.length_take]; rfl)) ?_; (with_reducible refine (serinettelaw13_awake.calls k  t281 _ A3.out).mono ?_); rintro e w7 ⟨rfl, hb⟩; refine ⟨_, rfl, ?_⟩; have n0_ := Aside0.mk (below_step (by repeat (first | (with_reducible first | exact HB.out | apply below_alloc | apply pw_below_drewN | apply below_drew1) | exact HB.out)) hb); clear HB; have HB := n0_; clear n0_; (try clear hb); (try clear hb2); (try clear hk); (try clear hi)) | ((with_reducible refine gate_callee (f := 19) rfl ?_); refine goesL_ (some 15) rfl rfl Try.func19 (by kernel_rfl) rfl #[] rfl (by (try simp only [List.map_toArray, List.map_cons, List.map_nil]); first | done | rfl | (simp only [List.length_drop, List.length_take]; rfl)) ?_; (with_reducible refine (bits_New.calls  t282 t283 w _ ?side1 A6.out).mono ?_); (case side1 => repeat (first | (with_reducible first | exact HB.out | apply below_alloc | apply pw_below_drewN | apply below_drew1) | exact HB.out)); rintro e w8 ⟨g284, rfl, hi, hb, hb2⟩; refine ⟨_, rfl, ?_⟩; have n0_ := Aside0.mk (hb); have n1_ := Aside0.mk (hi); clear HB; have HB := n0_; have HI284 := n1_; clear n0_ n1_; (try clear hb); (try clear hb2); (try clear hk); (try clear hi)))
    go_loopg [7, 8] k (fun kq v7 v8 w' => ∃ (x7_1 : List Int) (x8_1 : Int) (x285000_1 : ByteArray) (x285001_1 : Int), v8 = .int .i64 x8_1 ∧ Aside0 (serinettelaw13_CostWritten.l0 kq l0 a1 t281 x7_1 x8_1 x285000_1 x285001_1 = some r) ∧ Aside0 (kq ≤ k) ∧ Aside0 (Kd.R (Kd.int .i64) 3 w' w.heap.size (fun _ => True) v7 x7_1) ∧ Aside0 (IsS53 w w' g284 x285000_1 x285001_1) ∧ Aside0 (Below w.heap.size w w'))
    case atStart => exact ⟨(([] : List Int)), (0), (t282), (t283), (by first | rfl | (simp; done) | (simp only [i64_w, i32_w]; done) | (simp [*]; done) | (simp only [i64_w, i32_w]; first | rfl | (simp; done) | (simp [*]; done))), H', ⟨Nat.le_refl _⟩, ⟨by first | exact Kd.R_nil _ _ _ _ _ | exact Kd.N_nil _ _ _ _ _ | exact Kd.V_nil _ _ _ _ _ | exact Kd.Q_nil _ _ _ _ _ | exact Kd.S_nil _ _ _ _ _⟩, ⟨by repeat (first | (with_reducible first | exact HI284.out | apply IsS53.alloc | apply IsS53.drewN | apply IsS53.drew | apply IsS53.set_0 | apply IsS53.set_1) | exact HI284.out)⟩, ⟨by repeat (first | (with_reducible first | exact HB.out | apply below_alloc | apply pw_below_drewN | apply below_drew1 | refine below_set ?_ (IsS53.ge HI284.out)) | exact HB.out)⟩⟩
    case round =>
      clear H'
      try clear c1
      try clear p2
      try clear c4
      try clear c4b0
      try clear c4b1
      try clear c8
      obtain ⟨x7_1, x8_1, x285000_1, x285001_1, rfl, HA, HK1, HO_7, HI284, HB⟩ := hrel
      cases gk with
      | zero => exact absurd HA.out (by simp [serinettelaw13_CostWritten.l0])
      | succ k1 =>
        have H := HA.out
        clear HA
        simp only [serinettelaw13_CostWritten.l0] at H
        by_cases c9 : x8_1 < (l0.length : Int)
        · rw [if_pos c9] at H
          have c9b0 : decide (x8_1 < (l0.length : Int)) = true := decide_eq_true c9
          clear c9
          by_cases c10 : 0 ≤ x8_1
          · rw [if_pos c10] at H
            have c10b0 : decide (0 ≤ x8_1) = true := decide_eq_true c10
            clear c10
            by_cases c11 : x7_1.length < 17592186044416
            · rw [if_pos c11] at H
              have LMc11 := Aside0.mk c11
              clear c11
              obtain ⟨y286, hy286⟩ : ∃ y_ : List Int, y_ = (x7_1 ++ [Int.tmod (wrap64 (rd l0 x8_1)) 151]) := ⟨_, rfl⟩
              replace H : ((rice_Put.f k1 x285000_1 x285001_1 (Int.tmod (wrap64 (rd l0 x8_1)) 151) (wrap64 (Int.tmod a1 31))).bind fun bt289 => (if bt289.1 = 0 then (serinettelaw13_CostWritten.l0 k1 l0 a1 t281 y286 (wrap64 (x8_1 + 1)) bt289.2.1 bt289.2.2) else (some false))) = some r := by first | (rw [hy286]; with_reducible exact H) | (have H2_ := (Option.bind_some _ _).symm.trans H; rw [hy286]; with_reducible exact H2_) | (have H2_ := (Option.bind_some _ _).symm.trans H; with_reducible exact H2_) | with_reducible exact H | (rw [hy286]; exact H) | exact H
              have Ny286 := Aside0.mk hy286
              clear hy286
              replace H := Option.bind_eq_some_iff.mp H
              obtain ⟨⟨t289, t290, t291⟩, A120, H⟩ := H
              replace H : (if t289 = 0 then (serinettelaw13_CostWritten.l0 k1 l0 a1 t281 y286 (wrap64 (x8_1 + 1)) t290 t291) else (some false)) = some r := H
              have A12 := Aside0.mk A120
              clear A120
              by_cases c13 : t289 = 0
              · rw [if_pos c13] at H
                have c13b0 : (t289 == 0) = true := beq_iff_eq.mpr c13
                have c13b1 : (t289 != 0) = false := bne_eq_false_iff_eq.mpr c13
                clear c13
                have H' := Aside0.mk H
                clear H
                have p285 : 0 ≤ (x8_1 : Int) := of_decide_eq_true (by first | (with_reducible assumption) | assumption)
                have q285 : x8_1 < (l0.length : Int) := of_decide_eq_true (by first | (with_reducible assumption) | assumption)
                obtain ⟨ad285, e285, hx285_0⟩ := Kd.at_int HR0.out x8_1 p285 q285
                cases e285
                replace hx285_0 := (HB.out.cell (World.block_lt_of_cell? w _ hx285_0)).trans hx285_0
                replace p285 := eq_true p285
                replace q285 := eq_true q285
                go_wp2_with (first | ((with_reducible refine gate_builtin (b := .append) (xs := #[.tmp 30, .tmp 32]) rfl ?_); at_builtin; refine Kd.R_append (Kd.int .i64) (w0 := w) w.heap.size rfl (.tmp 30) (.tmp 32) 22 3 (.int .i64 0) 8 rfl Try.underlying22 info3 rfl (by decide) (by omega) u7 x7_1 (Int.tmod (wrap64 (rd l0 x8_1)) 151) [.int .i64 (Int.tmod (wrap64 (rd l0 x8_1)) 151)] (fun _ => True) (fun _ => False) rfl rfl ?aP (fun _ hk => hk.elim) ?aF ?aO ?aB ?aS ?aL ?_; (case aP => exact rfl); (case aB => exact (by repeat (first | (with_reducible first | exact HB.out | apply below_alloc | apply pw_below_drewN | apply below_drew1 | refine below_set ?_ (IsS53.ge HI284.out)) | exact HB.out))); (case aF => exact (fun _ _ => trivial)); (case aO => exact (by (with_reducible repeat (first | apply Kd.R_alloc | apply Kd.R_drewN | apply Kd.R_drew)); exact HO_7.out)); (case aS => exact (below_size (by repeat (first | (with_reducible first | exact HB.out | apply below_alloc | apply pw_below_drewN | apply below_drew1 | refine below_set ?_ (IsS53.ge HI284.out)) | exact HB.out)))); (case aL => have := LMc11.out; omega); intro v287 w14 ho hb hg hat; rw [← Ny286.out] at ho; have n0_ := Aside0.mk (IsS53.grown (by repeat (first | (with_reducible first | exact HI284.out | apply IsS53.alloc | apply IsS53.drewN | apply IsS53.drew | apply IsS53.set_0 | apply IsS53.set_1) | exact HI284.out)) hg (IsS53.own_ne HI284.out HO_7.out (by decide))); have n1_ := Aside0.mk (hb); have n2_ := Aside0.mk (ho); clear HI284; clear HB; clear HO_7; have HI284 := n0_; have HB := n1_; have HO288 := n2_; clear n0_ n1_ n2_; clear ho hb hg hat) | ((with_reducible refine gate_callee (f := 20) rfl ?_); refine goesL_ (some 39) rfl rfl Try.func20 (by kernel_rfl) rfl #[.pointer (some ⟨g284, 0, none⟩), .int .i64 (Int.tmod (wrap64 (rd l0 x8_1)) 151), .int .i64 (wrap64 (Int.tmod a1 31))] rfl (by (try simp only [List.map_toArray, List.map_cons, List.map_nil]); first | done | rfl | (simp only [List.length_drop, List.length_take]; rfl)) ?_; (with_reducible refine (rice_Put.calls k1 g284 x285000_1 x285001_1 (Int.tmod (wrap64 (rd l0 x8_1)) 151) (wrap64 (Int.tmod a1 31)) t289 t290 t291 w _ ?side1 ?side2 A12.out).mono ?_); (case side1 => repeat (first | (with_reducible first | exact HI284.out | apply IsS53.alloc | apply IsS53.drewN | apply IsS53.drew | apply IsS53.set_0 | apply IsS53.set_1) | exact HI284.out)); (case side2 => repeat (first | (with_reducible first | exact HB.out | apply below_alloc | apply pw_below_drewN | apply below_drew1 | refine below_set ?_ (IsS53.ge HI284.out)) | exact HB.out)); rintro e w15 ⟨rfl, hi, hb, hk⟩; refine ⟨_, rfl, ?_⟩; have n0_ := Aside0.mk (Kd.R_mono (KB.R_keep (IsS53.apart (show IsS53 w _ g284 x285000_1 x285001_1 from by repeat (first | (with_reducible first | exact HI284.out | apply IsS53.alloc | apply IsS53.drewN | apply IsS53.drew | apply IsS53.set_0 | apply IsS53.set_1) | exact HI284.out)) (by (with_reducible repeat (first | apply Kd.R_alloc | apply Kd.R_drewN | apply Kd.R_drew)); exact HO288.out) (by decide)) (fun _ h => h.2) (by decide) hk.1) (fun _ h => h.1)); have n1_ := Aside0.mk (hb); have n2_ := Aside0.mk (hi); clear HO288; clear HB; clear HI284; have HO288 := n0_; have HB := n1_; have HI284 := n2_; clear n0_ n1_ n2_; (try clear hb); (try clear hb2); (try clear hk); (try clear hi)))
                go_roundg k1
                case measure => have := HK1.out; omega
                case rel => exact ⟨(y286), (wrap64 (x8_1 + 1)), (t290), (t291), (by first | rfl | (simp; done) | (simp only [i64_w, i32_w]; done) | (simp [*]; done) | (simp only [i64_w, i32_w]; first | rfl | (simp; done) | (simp [*]; done))), H', ⟨by have := HK1.out; omega⟩, ⟨by (with_reducible repeat (first | apply Kd.R_alloc | apply Kd.R_drewN | apply Kd.R_drew)); exact HO288.out⟩, ⟨by repeat (first | (with_reducible first | exact HI284.out | apply IsS53.alloc | apply IsS53.drewN | apply IsS53.drew | apply IsS53.set_0 | apply IsS53.set_1) | exact HI284.out)⟩, ⟨by repeat (first | (with_reducible first | exact HB.out | apply below_alloc | apply pw_below_drewN | apply below_drew1 | refine below_set ?_ (IsS53.ge HI284.out)) | exact HB.out)⟩⟩
              · rw [if_neg c13] at H
                have c13b0 : (t289 == 0) = false := beq_eq_false_iff_ne.mpr c13
                have c13b1 : (t289 != 0) = true := bne_iff_ne.mpr c13
                obtain rfl := Option.some.inj H
                have p285 : 0 ≤ (x8_1 : Int) := of_decide_eq_true (by first | (with_reducible assumption) | assumption)
                have q285 : x8_1 < (l0.length : Int) := of_decide_eq_true (by first | (with_reducible assumption) | assumption)
                obtain ⟨ad285, e285, hx285_0⟩ := Kd.at_int HR0.out x8_1 p285 q285
                cases e285
                replace hx285_0 := (HB.out.cell (World.block_lt_of_cell? w _ hx285_0)).trans hx285_0
                replace p285 := eq_true p285
                replace q285 := eq_true q285
                go_wp2_with (first | ((with_reducible refine gate_builtin (b := .append) (xs := #[.tmp 30, .tmp 32]) rfl ?_); at_builtin; refine Kd.R_append (Kd.int .i64) (w0 := w) w.heap.size rfl (.tmp 30) (.tmp 32) 22 3 (.int .i64 0) 8 rfl Try.underlying22 info3 rfl (by decide) (by omega) u7 x7_1 (Int.tmod (wrap64 (rd l0 x8_1)) 151) [.int .i64 (Int.tmod (wrap64 (rd l0 x8_1)) 151)] (fun _ => True) (fun _ => False) rfl rfl ?aP (fun _ hk => hk.elim) ?aF ?aO ?aB ?aS ?aL ?_; (case aP => exact rfl); (case aB => exact (by repeat (first | (with_reducible first | exact HB.out | apply below_alloc | apply pw_below_drewN | apply below_drew1 | refine below_set ?_ (IsS53.ge HI284.out)) | exact HB.out))); (case aF => exact (fun _ _ => trivial)); (case aO => exact (by (with_reducible repeat (first | apply Kd.R_alloc | apply Kd.R_drewN | apply Kd.R_drew)); exact HO_7.out)); (case aS => exact (below_size (by repeat (first | (with_reducible first | exact HB.out | apply below_alloc | apply pw_below_drewN | apply below_drew1 | refine below_set ?_ (IsS53.ge HI284.out)) | exact HB.out)))); (case aL => have := LMc11.out; omega); intro v287 w16 ho hb hg hat; rw [← Ny286.out] at ho; have n0_ := Aside0.mk (IsS53.grown (by repeat (first | (with_reducible first | exact HI284.out | apply IsS53.alloc | apply IsS53.drewN | apply IsS53.drew | apply IsS53.set_0 | apply IsS53.set_1) | exact HI284.out)) hg (IsS53.own_ne HI284.out HO_7.out (by decide))); have n1_ := Aside0.mk (hb); have n2_ := Aside0.mk (ho); clear HI284; clear HB; clear HO_7; have HI284 := n0_; have HB := n1_; have HO288 := n2_; clear n0_ n1_ n2_; clear ho hb hg hat) | ((with_reducible refine gate_callee (f := 20) rfl ?_); refine goesL_ (some 39) rfl rfl Try.func20 (by kernel_rfl) rfl #[.pointer (some ⟨g284, 0, none⟩), .int .i64 (Int.tmod (wrap64 (rd l0 x8_1)) 151), .int .i64 (wrap64 (Int.tmod a1 31))] rfl (by (try simp only [List.map_toArray, List.map_cons, List.map_nil]); first | done | rfl | (simp only [List.length_drop, List.length_take]; rfl)) ?_; (with_reducible refine (rice_Put.calls k1 g284 x285000_1 x285001_1 (Int.tmod (wrap64 (rd l0 x8_1)) 151) (wrap64 (Int.tmod a1 31)) t289 t290 t291 w _ ?side1 ?side2 A12.out).mono ?_); (case side1 => repeat (first | (with_reducible first | exact HI284.out | apply IsS53.alloc | apply IsS53.drewN | apply IsS53.drew | apply IsS53.set_0 | apply IsS53.set_1) | exact HI284.out)); (case side2 => repeat (first | (with_reducible first | exact HB.out | apply below_alloc | apply pw_below_drewN | apply below_drew1 | refine below_set ?_ (IsS53.ge HI284.out)) | exact HB.out)); rintro e w17 ⟨rfl, hi, hb, hk⟩; refine ⟨_, rfl, ?_⟩; have n0_ := Aside0.mk (Kd.R_mono (KB.R_keep (IsS53.apart (show IsS53 w _ g284 x285000_1 x285001_1 from by repeat (first | (with_reducible first | exact HI284.out | apply IsS53.alloc | apply IsS53.drewN | apply IsS53.drew | apply IsS53.set_0 | apply IsS53.set_1) | exact HI284.out)) (by (with_reducible repeat (first | apply Kd.R_alloc | apply Kd.R_drewN | apply Kd.R_drew)); exact HO288.out) (by decide)) (fun _ h => h.2) (by decide) hk.1) (fun _ h => h.1)); have n1_ := Aside0.mk (hb); have n2_ := Aside0.mk (hi); clear HO288; clear HB; clear HI284; have HO288 := n0_; have HB := n1_; have HI284 := n2_; clear n0_ n1_ n2_; (try clear hb); (try clear hb2); (try clear hk); (try clear hi)))
                go_ret
                exact ⟨by first | rfl | (simp [errW_none, errW_some] <;> rfl) | (simp [*, errW_none, errW_some] <;> rfl), by repeat (first | (with_reducible first | exact HB.out | apply below_alloc | apply pw_below_drewN | apply below_drew1 | refine below_set ?_ (IsS53.ge HI284.out)) | exact HB.out)⟩
            · rw [if_neg c11] at H
              exact absurd H (by simp)
          · rw [if_neg c10] at H
            exact absurd H (by simp)
        · rw [if_neg c9] at H
          have c9b0 : decide (x8_1 < (l0.length : Int)) = false := decide_eq_false c9
          clear c9
          by_cases c18 : t281 = true
          · subst c18
            have H1 : ((cost_Bits.f k1 x7_1 (wrap64 (Int.tmod a1 31))).bind fun t292 => ((bits_Writer_Len.f x285000_1 x285001_1).bind fun bt293 => (some (t292 == bt293.1)))) = some r := by rw [if_pos rfl] at H; exact H
            clear H
            have H := H1
            clear H1
            replace H := Option.bind_eq_some_iff.mp H
            obtain ⟨t292, A190, H⟩ := H
            replace H : ((bits_Writer_Len.f x285000_1 x285001_1).bind fun bt293 => (some (t292 == bt293.1))) = some r := H
            have A19 := Aside0.mk A190
            clear A190
            replace H := Option.bind_eq_some_iff.mp H
            obtain ⟨⟨t293, t294, t295⟩, A200, H⟩ := H
            replace H : (some (t292 == t293)) = some r := H
            have A20 := Aside0.mk A200
            clear A200
            obtain rfl := Option.some.inj H
            obtain ⟨Ao21, co21, eo21⟩ := Kd.R_slice HO_7.out
            subst eo21
            go_wp2_with (first | (go_at_call 13; (with_reducible refine (cost_Bits.calls k1 _ _ x7_1 (wrap64 (Int.tmod a1 31)) t292 _ ?side1 ?side2 A19.out).mono ?_); (case side1 => repeat (first | exact (Kd.R_reads' HO_7.out).2.2 | (with_reducible refine Kd.C_alloc ?_ _) | (with_reducible refine Kd.C_drewN ?_ _) | (with_reducible refine Kd.C_drew ?_))); (case side2 => exact (Kd.R_reads' HO_7.out).2.1); rintro e w22 ⟨rfl, hb⟩; have n0_ := Aside0.mk (Kd.R_below (by (with_reducible repeat (first | apply Kd.R_alloc | apply Kd.R_drewN | apply Kd.R_drew)); exact HO_7.out) hb); have n1_ := Aside0.mk (IsS53.below (by repeat (first | (with_reducible first | exact HI284.out | apply IsS53.alloc | apply IsS53.drewN | apply IsS53.drew | apply IsS53.set_0 | apply IsS53.set_1) | exact HI284.out)) hb); have n2_ := Aside0.mk (below_step (by repeat (first | (with_reducible first | exact HB.out | apply below_alloc | apply pw_below_drewN | apply below_drew1 | refine below_set ?_ (IsS53.ge HI284.out)) | exact HB.out)) hb); clear HO_7; clear HI284; clear HB; have HO_7 := n0_; have HI284 := n1_; have HB := n2_; clear n0_ n1_ n2_; (try clear hb); (try clear hb2); (try clear hk); (try clear hi)) | (go_at_call 21; (with_reducible refine (bits_Writer_Len.calls g284 x285000_1 x285001_1 t293 t294 t295 w _ ?side1 ?side2 A20.out).mono ?_); (case side1 => repeat (first | (with_reducible first | exact HI284.out | apply IsS53.alloc | apply IsS53.drewN | apply IsS53.drew | apply IsS53.set_0 | apply IsS53.set_1) | exact HI284.out)); (case side2 => repeat (first | (with_reducible first | exact HB.out | apply below_alloc | apply pw_below_drewN | apply below_drew1 | refine below_set ?_ (IsS53.ge HI284.out)) | exact HB.out)); rintro e w23 ⟨rfl, hi, hb, hk⟩; have n0_ := Aside0.mk (Kd.R_mono (Kd.R_keep (IsS53.apart (show IsS53 w _ g284 x285000_1 x285001_1 from by repeat (first | (with_reducible first | exact HI284.out | apply IsS53.alloc | apply IsS53.drewN | apply IsS53.drew | apply IsS53.set_0 | apply IsS53.set_1) | exact HI284.out)) (by (with_reducible repeat (first | apply Kd.R_alloc | apply Kd.R_drewN | apply Kd.R_drew)); exact HO_7.out) (by decide)) hk (fun _ h => h.2)) (fun _ h => h.1)); have n1_ := Aside0.mk (hb); have n2_ := Aside0.mk (hi); clear HO_7; clear HB; clear HI284; have HO_7 := n0_; have HB := n1_; have HI284 := n2_; clear n0_ n1_ n2_; (try clear hb); (try clear hb2); (try clear hk); (try clear hi)))
            go_ret
            exact ⟨by first | rfl | (simp [errW_none, errW_some] <;> rfl) | (simp [*, errW_none, errW_some] <;> rfl), by repeat (first | (with_reducible first | exact HB.out | apply below_alloc | apply pw_below_drewN | apply below_drew1 | refine below_set ?_ (IsS53.ge HI284.out)) | exact HB.out)⟩
          · replace c18 := Bool.eq_false_iff.mpr c18
            subst c18
            have H1 : (some false) = some r := by rw [if_neg (show ¬ (false = true) by decide)] at H; exact H
            clear H
            have H := H1
            clear H1
            obtain rfl := Option.some.inj H
            go_wp2
            go_ret
            exact ⟨by first | rfl | (simp [errW_none, errW_some] <;> rfl) | (simp [*, errW_none, errW_some] <;> rfl), by repeat (first | (with_reducible first | exact HB.out | apply below_alloc | apply pw_below_drewN | apply below_drew1 | refine below_set ?_ (IsS53.ge HI284.out)) | exact HB.out)⟩

/-- THE ONE PURE STATEMENT of serinettelaw13_CostWritten: yours. -/
def serinettelaw13_CostWritten.Pure : Prop := ∀ (l0 : List Int) (a1 : Int), l0.length ≤ maxLen → l0.length * 2 ≤ 140737488351232 → (∀ x ∈ l0, (Lit.int .i16 x).wf = true) → (Lit.int .u8 a1).wf = true → ∃ k, serinettelaw13_CostWritten.f k l0 a1 = some true
theorem serinettelaw13_CostWritten.walk (P : serinettelaw13_CostWritten.Pure) (a0 : Option Addr) (len0 cap0 : Nat) (z0 : List Int) (a1 : Int) (w : World) (w0 : (a0 = none ∧ len0 = 0 ∧ cap0 = 0 ∧ z0 = []) ∨ ∃ x, a0 = some x ∧ len0 ≤ cap0 ∧ cap0 ≤ maxLen ∧ z0.length = cap0 ∧ (∀ i, i < z0.length → w.cell? (x.add i) = some (.int .i16 (z0.getD i 0))) ∧ ∀ n ∈ z0, (Lit.int .i16 n).wf = true) (y0 : len0 * 2 ≤ 140737488351232) (w1 : (Lit.int .u8 a1).wf = true) :
    Calls Try.prog 8 #[.slice a0 len0 cap0, .int .u8 a1] w fun e w' => e = .returned (.bool true) ∧ Below w.heap.size w w' := by
  obtain ⟨l0, rfl, hr0, hm0, hw0, hc0⟩ := ReadsInt.ofRowC w0
  obtain ⟨k, h⟩ := P l0 a1 hm0 y0 hw0 w1
  refine (serinettelaw13_CostWritten.calls k _ _ l0 a1 true w (Kd.C_of_reads (d := (0 : Int)) (h1 := fun _ => rfl) hr0) hc0 h).mono ?_
  rintro e w' ⟨rfl, hd⟩
  exact ⟨rfl, hd⟩

end Go.Proofs.Ytdologjfcmidlaa.PA
