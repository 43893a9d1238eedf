/- Each Go function named below comes to what the plain Lean function of its name answers, wherever that answers (rounds enough, no panic, no row too long); texts by a program of this session by way of the kit's print.py, what that does not take by hand. Condition: what is read lies in memory as each theorem says. -/
import Derived.Test.YtcdnabonljmegaaPAx0
import Derived.Test.YtcdnabonljmegaaPAx8
namespace Go.Proofs.Ytcdnabonljmegaa.PA
open Go.RowKit Go.Proofs.YtcdnabonljmegaaW.PrintWords Go.Proofs.YtcdnabonljmegaaW.PrintLast Go.Proofs.YtcdnabonljmegaaW.PrintMore
attribute [local go_sem] max2_int min2_int max_two min_two max_three min_three max_four min_four   -- for this text's walks alone
set_option linter.unusedVariables false
set_option linter.unusedSimpArgs false

/-! ### serinetteref01_Bytes: function 17 -/
mutual
def serinetteref01_Bytes.l0 : Nat → List Bool → Option (List Int)
  | 0, _ => none
  | k + 1, x3 => if ((x3.length : Int) % 8) = 0 then (serinetteref01_Bytes.l1 k x3 ([] : List Int) 0) else (if x3.length < 140737488355328 then (serinetteref01_Bytes.l0 k (x3 ++ [false])) else (none))
def serinetteref01_Bytes.l1 : Nat → List Bool → List Int → Int → Option (List Int)
  | 0, _, _, _ => none
  | k + 1, x3, x4, x5 => if x5 < (x3.length : Int) then (if 0 ≤ x5 then (if x5 ≤ (wrap64 (x5 + 8)) then (if (wrap64 (x5 + 8)) ≤ (x3.length : Int) then ((serinetteref01_Number.f k ((x3.take ((wrap64 (x5 + 8)) : Int).toNat).drop (x5 : Int).toNat)).bind fun t147 => (if x4.length < 140737488355328 then (serinetteref01_Bytes.l1 k x3 (x4 ++ [(t147) % 256]) (wrap64 (x5 + 8))) else (none))) else (none)) else (none)) else (none)) else (some x4)
end
def serinetteref01_Bytes.f (k : Nat) (l0 : List Bool) : Option (List Int) := (some (([] : List Bool) : List Bool)).bind fun y134 => (if y134.length + l0.length < 140737488355328 then (serinetteref01_Bytes.l0 k (y134 ++ l0)) else (none))
theorem serinetteref01_Bytes.mono_l : ∀ k, (∀ y0, LeO (serinetteref01_Bytes.l0 k y0) (serinetteref01_Bytes.l0 (k + 1) y0)) ∧ (∀ y0 y1 y2, LeO (serinetteref01_Bytes.l1 k y0 y1 y2) (serinetteref01_Bytes.l1 (k + 1) y0 y1 y2))
  | 0 => ⟨fun _ r h => by simp [serinetteref01_Bytes.l0] at h, fun _ _ _ r h => by simp [serinetteref01_Bytes.l1] at h⟩
  | k + 1 => by
    obtain ⟨ih0, ih1⟩ := serinetteref01_Bytes.mono_l k
    refine ⟨?_, ?_⟩
    · intro y0
      unfold serinetteref01_Bytes.l0
      repeat' first
      | (with_reducible exact ih0 _)
      | (with_reducible exact ih1 _ _ _)
      | (with_reducible exact serinetteref01_Number.mono _ _)
      | (with_reducible exact LeO.refl _)
      | (with_reducible exact LeO.none _)
      | (with_reducible refine LeO.ite ?_ ?_)
      | (with_reducible refine LeO.bind ?_ (fun _ => ?_))
      | exact ih0 _
      | exact ih1 _ _ _
      | exact serinetteref01_Number.mono _ _
      | exact LeO.none _
      | refine LeO.ite ?_ ?_
      | refine LeO.bind ?_ (fun _ => ?_)
    · intro y0 y1 y2
      unfold serinetteref01_Bytes.l1
      repeat' first
      | (with_reducible exact ih0 _)
      | (with_reducible exact ih1 _ _ _)
      | (with_reducible exact serinetteref01_Number.mono _ _)
      | (with_reducible exact LeO.refl _)
      | (with_reducible exact LeO.none _)
      | (with_reducible refine LeO.ite ?_ ?_)
      | (with_reducible refine LeO.bind ?_ (fun _ => ?_))
      | exact ih0 _
      | exact ih1 _ _ _
      | exact serinetteref01_Number.mono _ _
      | exact LeO.none _
      | refine LeO.ite ?_ ?_
      | refine LeO.bind ?_ (fun _ => ?_)
theorem serinetteref01_Bytes.mono : ∀ a0 k, LeO (serinetteref01_Bytes.f k a0) (serinetteref01_Bytes.f (k + 1) a0) := by
  intro a0 k
  obtain ⟨ih0, ih1⟩ := serinetteref01_Bytes.mono_l k
  unfold serinetteref01_Bytes.f
  repeat' first
      | (with_reducible exact ih0 _)
      | (with_reducible exact ih1 _ _ _)
      | (with_reducible exact serinetteref01_Number.mono _ _)
      | (with_reducible exact LeO.refl _)
      | (with_reducible exact LeO.none _)
      | (with_reducible refine LeO.ite ?_ ?_)
      | (with_reducible refine LeO.bind ?_ (fun _ => ?_))
      | exact ih0 _
      | exact ih1 _ _ _
      | exact serinetteref01_Number.mono _ _
      | exact LeO.none _
      | refine LeO.ite ?_ ?_
      | refine LeO.bind ?_ (fun _ => ?_)
set_option maxHeartbeats 8000000 in
set_option maxRecDepth 100000 in
theorem serinetteref01_Bytes.calls (k : Nat) (A0 : Option Addr) (c0 : Nat) (l0 : List Bool) (r : List Int) (w : World) (hr0 : Kd.C Kd.bool w A0 l0.length l0) (hc0 : l0.length ≤ c0) (h : serinetteref01_Bytes.f k l0 = some r) :
    Calls Try.prog 17 #[.slice A0 l0.length c0] w fun e w' => ∃ v0_ : Value, e = .returned (v0_) ∧ Kd.R (Kd.int .u8) 5 w' w.heap.size (fun _ => True) v0_ r ∧ Below w.heap.size w w' := by
  have HR0 := Aside0.mk hr0
  have HC0 := Aside0.mk hc0
  clear hr0 hc0
  have HB := Aside0.mk (Below.refl w.heap.size w)
  have H : ((some (([] : List Bool) : List Bool)).bind fun y134 => (if y134.length + l0.length < 140737488355328 then (serinetteref01_Bytes.l0 k (y134 ++ l0)) else (none))) = some r := h
  clear h
  obtain ⟨y134, hy134⟩ : ∃ y_ : List Bool, y_ = (([] : List Bool)) := ⟨_, rfl⟩
  replace H : (if y134.length + l0.length < 140737488355328 then (serinetteref01_Bytes.l0 k (y134 ++ l0)) else (none)) = some r := by first | (rw [hy134]; with_reducible exact H) | (have H2_ := (Option.bind_some _ _).symm.trans H; rw [hy134]; with_reducible exact H2_) | (have H2_ := (Option.bind_some _ _).symm.trans H; with_reducible exact H2_) | with_reducible exact H | (rw [hy134]; exact H) | exact H
  have Ny134 := Aside0.mk hy134
  clear hy134
  by_cases c2 : y134.length + l0.length < 140737488355328
  · rw [if_pos c2] at H
    have LMc2 := Aside0.mk c2
    clear c2
    obtain ⟨y137, hy137⟩ : ∃ y_ : List Bool, y_ = (y134 ++ l0) := ⟨_, rfl⟩
    replace H : (serinetteref01_Bytes.l0 k y137) = some r := by first | (rw [hy137]; with_reducible exact H) | (have H2_ := (Option.bind_some _ _).symm.trans H; rw [hy137]; with_reducible exact H2_) | (have H2_ := (Option.bind_some _ _).symm.trans H; with_reducible exact H2_) | with_reducible exact H | (rw [hy137]; exact H) | exact H
    have Ny137 := Aside0.mk hy137
    clear hy137
    have H' := Aside0.mk H
    clear H
    go_enter Try.func17, Try.ntmps17
    go_wp2_with (first | ((with_reducible refine gate_dst (N := 6) rfl ?_); refine Kd.R_lit Kd.bool _ 4 ?hg (N := 6) ?hd (xs := ([] : List Bool)) (inner := []) (ok := fun _ => True) (okp := fun _ => True) ?hr ?hp (fun _ hk => hk) trivial (Below.refl _ _) (Nat.le_refl _) (by simp) ?_; (case hd => rfl); (case hg => rfl); (case hr => first | (go_simp; done) | (go_simp; rfl)); (case hp => exact (Reps.none _ _)); intro v135 w3 ho4 hb hg_ hnew_; clear hg_ hnew_; (first | rw [← Ny134.out] at ho4 | (simp only [Int.reduceToNat] at ho4; rw [← Ny134.out] at ho4)); have n0_ := Aside0.mk (Kd.R_lower ho4 (below_size (by repeat (first | (with_reducible first | exact HB.out | apply below_alloc | apply pw_below_drewN | apply below_drew1) | exact HB.out)))); have n1_ := Aside0.mk (below_step (by repeat (first | (with_reducible first | exact HB.out | apply below_alloc | apply pw_below_drewN | apply below_drew1) | exact HB.out)) hb); clear HB; have HO136 := n0_; have HB := n1_; clear n0_ n1_; clear hb ho4) | ((with_reducible refine gate_builtin (b := .append) (xs := #[.tmp 6, .tmp 7]) rfl ?_); at_builtin; refine Kd.R_append_rows Kd.bool (w0 := w) w.heap.size rfl (.tmp 6) (.tmp 7) 24 4 (.bool false) 1 rfl Try.underlying24 info4 rfl (by decide) (by omega) v135 y134 l0 _ _ _ (fun _ => True) (fun _ => False) rfl rfl ?aO ?aR (fun _ _ h => h) (fun _ h => h.elim) ?aF ?aB ?aS ?aL ?_; (case aR => repeat (first | exact (Kd.C_below HR0.out HB.out) | (with_reducible refine Kd.C_alloc ?_ _) | (with_reducible refine Kd.C_drewN ?_ _) | (with_reducible refine Kd.C_drew ?_))); (case aB => exact (by repeat (first | (with_reducible first | exact HB.out | apply below_alloc | apply pw_below_drewN | apply below_drew1) | exact HB.out))); (case aF => exact (fun _ _ => trivial)); (case aO => exact (by (with_reducible repeat (first | apply Kd.R_alloc | apply Kd.R_drewN | apply Kd.R_drew)); exact HO136.out)); (case aS => exact (below_size (by repeat (first | (with_reducible first | exact HB.out | apply below_alloc | apply pw_below_drewN | apply below_drew1) | exact HB.out)))); (case aL => have := LMc2.out; omega); intro v138 w5 ho hb hg hat; rw [← Ny137.out] at ho; have n0_ := Aside0.mk (hb); have n1_ := Aside0.mk (ho); clear HB; clear HO136; have HB := n0_; have HO139 := n1_; clear n0_ n1_; clear ho hb hg hat))
    go_loopg [3] k (fun kq v3 w' => ∃ (x3_1 : List Bool), Aside0 (serinetteref01_Bytes.l0 kq x3_1 = some r) ∧ Aside0 (kq ≤ k) ∧ Aside0 (Kd.R Kd.bool 4 w' w.heap.size (fun _ => True) v3 x3_1) ∧ Aside0 (Below w.heap.size w w'))
    case atStart => exact ⟨(y137), H', ⟨Nat.le_refl _⟩, ⟨by (with_reducible repeat (first | apply Kd.R_alloc | apply Kd.R_drewN | apply Kd.R_drew)); exact HO139.out⟩, ⟨by repeat (first | (with_reducible first | exact HB.out | apply below_alloc | apply pw_below_drewN | apply below_drew1) | exact HB.out)⟩⟩
    case round =>
      clear H'
      try clear c1
      try clear c2
      try clear p2
      obtain ⟨x3_1, HA, HK1, HO_3, HB⟩ := hrel
      cases gk with
      | zero => exact absurd HA.out (by simp [serinetteref01_Bytes.l0])
      | succ k1 =>
        have H := HA.out
        clear HA
        simp only [serinetteref01_Bytes.l0] at H
        by_cases c6 : ((x3_1.length : Int) % 8) = 0
        · rw [if_pos c6] at H
          have c6b0 : (((x3_1.length : Int) % 8) == 0) = true := beq_iff_eq.mpr c6
          have c6b1 : (((x3_1.length : Int) % 8) != 0) = false := bne_eq_false_iff_eq.mpr c6
          clear c6
          have H' := Aside0.mk H
          clear H
          obtain ⟨Ao7, co7, eo7⟩ := Kd.R_slice HO_3.out
          subst eo7
          go_wp2
          go_loopg [4, 5] k1 (fun kq v4 v5 w' => ∃ (x4_2 : List Int) (x5_2 : Int), v5 = .int .i64 x5_2 ∧ Aside0 (serinetteref01_Bytes.l1 kq x3_1 x4_2 x5_2 = some r) ∧ Aside0 (kq ≤ k1) ∧ Aside0 (Kd.R Kd.bool 4 w' w.heap.size (fun _ => True) (.slice Ao7 x3_1.length co7) x3_1) ∧ Aside0 (Kd.R (Kd.int .u8) 5 w' w.heap.size (fun _ => True) v4 x4_2) ∧ Aside0 (Below w.heap.size w w'))
          case atStart => exact ⟨(([] : List Int)), (0), (by first | rfl | (simp; done) | (simp only [i64_w, i32_w]; done) | (simp [*]; done) | (simp only [i64_w, i32_w]; first | rfl | (simp; done) | (simp [*]; done))), H', ⟨Nat.le_refl _⟩, ⟨by (with_reducible repeat (first | apply Kd.R_alloc | apply Kd.R_drewN | apply Kd.R_drew)); exact HO_3.out⟩, ⟨by first | exact Kd.R_nil _ _ _ _ _ | exact Kd.N_nil _ _ _ _ _ | exact Kd.V_nil _ _ _ _ _ | exact Kd.Q_nil _ _ _ _ _ | exact Kd.S_nil _ _ _ _ _⟩, ⟨by repeat (first | (with_reducible first | exact HB.out | apply below_alloc | apply pw_below_drewN | apply below_drew1) | exact HB.out)⟩⟩
          case round =>
            clear H'
            try clear c1
            try clear c2
            try clear p2
            try clear c6
            try clear c6b0
            try clear c6b1
            try clear p2
            obtain ⟨x4_2, x5_2, rfl, HA, HK2, HO_3, HO_4, HB⟩ := hrel
            cases gk with
            | zero => exact absurd HA.out (by simp [serinetteref01_Bytes.l1])
            | succ k2 =>
              have H := HA.out
              clear HA
              simp only [serinetteref01_Bytes.l1] at H
              by_cases c8 : x5_2 < (x3_1.length : Int)
              · rw [if_pos c8] at H
                have c8b0 : decide (x5_2 < (x3_1.length : Int)) = true := decide_eq_true c8
                clear c8
                by_cases c9 : 0 ≤ x5_2
                · rw [if_pos c9] at H
                  have c9b0 := eq_true c9
                  have c9b1 : decide (0 ≤ x5_2) = true := decide_eq_true c9
                  clear c9
                  by_cases c10 : x5_2 ≤ (wrap64 (x5_2 + 8))
                  · rw [if_pos c10] at H
                    have c10b0 := eq_true c10
                    have c10b1 : decide (x5_2 ≤ (wrap64 (x5_2 + 8))) = true := decide_eq_true c10
                    by_cases c11 : (wrap64 (x5_2 + 8)) ≤ (x3_1.length : Int)
                    · rw [if_pos c11] at H
                      have c11b0 := eq_true c11
                      have c11b1 : decide ((wrap64 (x5_2 + 8)) ≤ (x3_1.length : Int)) = true := decide_eq_true c11
                      obtain ⟨y143, hy143⟩ : ∃ y_ : List Bool, y_ = ((x3_1.take ((wrap64 (x5_2 + 8)) : Int).toNat).drop (x5_2 : Int).toNat) := ⟨_, rfl⟩
                      replace H : ((serinetteref01_Number.f k2 y143).bind fun t147 => (if x4_2.length < 140737488355328 then (serinetteref01_Bytes.l1 k2 x3_1 (x4_2 ++ [(t147) % 256]) (wrap64 (x5_2 + 8))) else (none))) = some r := by first | (rw [hy143]; with_reducible exact H) | (have H2_ := (Option.bind_some _ _).symm.trans H; rw [hy143]; with_reducible exact H2_) | (have H2_ := (Option.bind_some _ _).symm.trans H; with_reducible exact H2_) | with_reducible exact H | (rw [hy143]; exact H) | exact H
                      have Ny143 := Aside0.mk hy143
                      clear hy143
                      replace H := Option.bind_eq_some_iff.mp H
                      obtain ⟨t147, A120, H⟩ := H
                      replace H : (if x4_2.length < 140737488355328 then (serinetteref01_Bytes.l1 k2 x3_1 (x4_2 ++ [(t147) % 256]) (wrap64 (x5_2 + 8))) else (none)) = some r := H
                      have A12 := Aside0.mk A120
                      clear A120
                      by_cases c13 : x4_2.length < 140737488355328
                      · rw [if_pos c13] at H
                        have LMc13 := Aside0.mk c13
                        clear c13
                        obtain ⟨y148, hy148⟩ : ∃ y_ : List Int, y_ = (x4_2 ++ [(t147) % 256]) := ⟨_, rfl⟩
                        replace H : (serinetteref01_Bytes.l1 k2 x3_1 y148 (wrap64 (x5_2 + 8))) = some r := by first | (rw [hy148]; with_reducible exact H) | (have H2_ := (Option.bind_some _ _).symm.trans H; rw [hy148]; with_reducible exact H2_) | (have H2_ := (Option.bind_some _ _).symm.trans H; with_reducible exact H2_) | with_reducible exact H | (rw [hy148]; exact H) | exact H
                        have Ny148 := Aside0.mk hy148
                        clear hy148
                        have H' := Aside0.mk H
                        clear H
                        have q14 : ((wrap64 (x5_2 + 8)) : Int) ≤ ((x3_1.length : Int) : Int) := of_decide_eq_true (by first | (with_reducible assumption) | assumption)
                        obtain ⟨i014, hi014, _, hsz14, _⟩ := info_parts info4
                        have hroom14 : x3_1.length ≤ co7 := (Kd.R_reads' HO_3.out).2.1
                        have hC14 : Kd.C Kd.bool _ Ao7 x3_1.length x3_1 := (Kd.R_reads' HO_3.out).2.2
                        have ql14 : (x5_2 : Int) ≤ ((wrap64 (x5_2 + 8)) : Int) := of_decide_eq_true (by first | (with_reducible assumption) | assumption)
                        have q014 : (0 : Int) ≤ (x5_2 : Int) := of_decide_eq_true (by first | (with_reducible assumption) | assumption)
                        have hcut14 := cut_mid (P := Try.prog) 24 4 .i64 .i64 Try.underlying24 hi014 1 hsz14 Ao7 x3_1.length co7 x5_2 (wrap64 (x5_2 + 8)) q014 ql14 q14 hroom14
                        have hr14 := Kd.C_mid (lo := (x5_2 : Int).toNat) (hi := ((wrap64 (x5_2 + 8)) : Int).toNat) (c := co7) hC14 (by omega) (by omega) hroom14
                        obtain ⟨A14, hA14⟩ : ∃ A1, A1 = (if co7 = (x5_2 : Int).toNat then Ao7 else (Ao7 : Option Addr).map (·.add ((x5_2 : Int).toNat * 1))) := ⟨_, rfl⟩
                        obtain ⟨c14, hc14⟩ : ∃ c1, c1 = co7 - (x5_2 : Int).toNat := ⟨_, rfl⟩
                        have hy14 : y143.length = ((wrap64 (x5_2 + 8)) : Int).toNat - (x5_2 : Int).toNat := (by rw [Ny143.out, List.length_drop, List.length_take] <;> omega)
                        rw [show ((x3_1).take ((wrap64 (x5_2 + 8)) : Int).toNat).drop (x5_2 : Int).toNat = y143 from Ny143.out.symm] at hr14
                        replace hr14 : Kd.C Kd.bool _ A14 y143.length y143 := (by rw [hA14]; exact hr14)
                        rw [← hy14, ← hA14, ← hc14] at hcut14
                        have HR146 := Aside0.mk hr14
                        have HC146 := Aside0.mk (show y143.length ≤ c14 from by rw [hy14, hc14]; exact Nat.sub_le_sub_right (Nat.le_trans (by omega) hroom14) _)
                        clear hr14 hC14 hroom14 hi014 hsz14 hc14
                        have KY14 := Aside0.mk hy14
                        have KA14 := Aside0.mk hA14
                        clear hy14 hA14
                        have KL14 := Aside0.mk (show ((wrap64 (x5_2 + 8)) : Int).toNat ≤ x3_1.length from by omega)
                        have KM14 := Aside0.mk (show (x5_2 : Int).toNat ≤ ((wrap64 (x5_2 + 8)) : Int).toNat from by omega)
                        replace q14 := eq_true q14
                        go_wp2_with (first | ((with_reducible refine gate_callee (f := 32) rfl ?_); refine goesL_ (some 28) rfl rfl Try.func32 (by kernel_rfl) rfl #[.slice A14 y143.length c14] rfl (by (try simp only [List.map_toArray, List.map_cons, List.map_nil]); first | done | rfl | (simp only [List.length_drop, List.length_take]; rfl)) ?_; (with_reducible refine (serinetteref01_Number.calls k2 _ _ y143 t147 _ ?side1 ?side2 A12.out).mono ?_); (case side1 => repeat (first | exact (by repeat (first | (with_reducible exact HR146.out) | (with_reducible refine Kd.C_alloc ?_ _) | (with_reducible refine Kd.C_drewN ?_ _) | (with_reducible refine Kd.C_drew ?_) | exact HR146.out)) | (with_reducible refine Kd.C_alloc ?_ _) | (with_reducible refine Kd.C_drewN ?_ _) | (with_reducible refine Kd.C_drew ?_))); (case side2 => exact HC146.out); rintro e w' ⟨rfl, ⟨nd, rfl⟩⟩; refine ⟨_, rfl, ?_⟩) | ((with_reducible refine gate_builtin (b := .append) (xs := #[.tmp 22, .tmp 30]) rfl ?_); at_builtin; refine Kd.R_append (Kd.int .u8) (w0 := w) w.heap.size rfl (.tmp 22) (.tmp 30) 33 5 (.int .u8 0) 1 rfl Try.underlying33 info5 rfl (by decide) (by omega) u4 x4_2 ((t147) % 256) [.int .u8 ((t147) % 256)] (fun _ => True) (fun _ => False) rfl rfl ?aP (fun _ hk => hk.elim) ?aF ?aO ?aB ?aS ?aL ?_; (case aP => exact rfl); (case aB => exact (by repeat (first | (with_reducible first | exact HB.out | apply below_alloc | apply pw_below_drewN | apply below_drew1) | exact HB.out))); (case aF => exact (fun _ _ => trivial)); (case aO => exact (by (with_reducible repeat (first | apply Kd.R_alloc | apply Kd.R_drewN | apply Kd.R_drew)); exact HO_4.out)); (case aS => exact (below_size (by repeat (first | (with_reducible first | exact HB.out | apply below_alloc | apply pw_below_drewN | apply below_drew1) | exact HB.out)))); (case aL => have := LMc13.out; omega); intro v149 w15 ho hb hg hat; rw [← Ny148.out] at ho; have n0_ := Aside0.mk (Kd.R_over' (by (with_reducible repeat (first | apply Kd.R_alloc | apply Kd.R_drewN | apply Kd.R_drew)); exact HO_3.out) (Kd.R_typed (by (with_reducible repeat (first | apply Kd.R_alloc | apply Kd.R_drewN | apply Kd.R_drew)); exact HO_4.out)) (by decide) hg); have n1_ := Aside0.mk (hb); have n2_ := Aside0.mk ((show Kd.C Kd.bool w15 A14 y143.length y143 from by rw [Ny143.out, KA14.out]; exact Kd.C_mid (lo := (x5_2 : Int).toNat) (hi := ((wrap64 (x5_2 + 8)) : Int).toNat) (c := co7) ((Kd.R_reads' (Kd.R_over' (by (with_reducible repeat (first | apply Kd.R_alloc | apply Kd.R_drewN | apply Kd.R_drew)); exact HO_3.out) (Kd.R_typed (by (with_reducible repeat (first | apply Kd.R_alloc | apply Kd.R_drewN | apply Kd.R_drew)); exact HO_4.out)) (by decide) hg)).2.2) KM14.out KL14.out ((Kd.R_reads' (Kd.R_over' (by (with_reducible repeat (first | apply Kd.R_alloc | apply Kd.R_drewN | apply Kd.R_drew)); exact HO_3.out) (Kd.R_typed (by (with_reducible repeat (first | apply Kd.R_alloc | apply Kd.R_drewN | apply Kd.R_drew)); exact HO_4.out)) (by decide) hg)).2.1))); have n3_ := Aside0.mk (ho); clear HO_3; clear HB; clear HR146; clear HO_4; have HO_3 := n0_; have HB := n1_; have HR146 := n2_; have HO150 := n3_; clear n0_ n1_ n2_ n3_; clear ho hb hg hat))
                        go_roundg k2
                        case measure => have := HK1.out; have := HK2.out; omega
                        case rel => exact ⟨(y148), (wrap64 (x5_2 + 8)), (by first | rfl | (simp; done) | (simp only [i64_w, i32_w]; done) | (simp [*]; done) | (simp only [i64_w, i32_w]; first | rfl | (simp; done) | (simp [*]; done))), H', ⟨by have := HK1.out; have := HK2.out; omega⟩, ⟨by (with_reducible repeat (first | apply Kd.R_alloc | apply Kd.R_drewN | apply Kd.R_drew)); exact HO_3.out⟩, ⟨by (with_reducible repeat (first | apply Kd.R_alloc | apply Kd.R_drewN | apply Kd.R_drew)); exact HO150.out⟩, ⟨by repeat (first | (with_reducible first | exact HB.out | apply below_alloc | apply pw_below_drewN | apply below_drew1) | exact HB.out)⟩⟩
                      · rw [if_neg c13] at H
                        exact absurd H (by simp)
                    · rw [if_neg c11] at H
                      exact absurd H (by simp)
                  · rw [if_neg c10] at H
                    exact absurd H (by simp)
                · rw [if_neg c9] at H
                  exact absurd H (by simp)
              · rw [if_neg c8] at H
                have c8b0 : decide (x5_2 < (x3_1.length : Int)) = false := decide_eq_false c8
                clear c8
                obtain rfl := Option.some.inj H
                go_wp2
                go_ret
                exact ⟨_, by first | rfl | (simp [errW_none, errW_some] <;> rfl) | (simp [*, errW_none, errW_some] <;> rfl), by (with_reducible repeat (first | apply Kd.R_alloc | apply Kd.R_drewN | apply Kd.R_drew)); exact HO_4.out, by repeat (first | (with_reducible first | exact HB.out | apply below_alloc | apply pw_below_drewN | apply below_drew1) | exact HB.out)⟩
        · rw [if_neg c6] at H
          have c6b0 : (((x3_1.length : Int) % 8) == 0) = false := beq_eq_false_iff_ne.mpr c6
          have c6b1 : (((x3_1.length : Int) % 8) != 0) = true := bne_iff_ne.mpr c6
          by_cases c16 : x3_1.length < 140737488355328
          · rw [if_pos c16] at H
            have LMc16 := Aside0.mk c16
            clear c16
            obtain ⟨y140, hy140⟩ : ∃ y_ : List Bool, y_ = (x3_1 ++ [false]) := ⟨_, rfl⟩
            replace H : (serinetteref01_Bytes.l0 k1 y140) = some r := by first | (rw [hy140]; with_reducible exact H) | (have H2_ := (Option.bind_some _ _).symm.trans H; rw [hy140]; with_reducible exact H2_) | (have H2_ := (Option.bind_some _ _).symm.trans H; with_reducible exact H2_) | with_reducible exact H | (rw [hy140]; exact H) | exact H
            have Ny140 := Aside0.mk hy140
            clear hy140
            have H' := Aside0.mk H
            clear H
            obtain ⟨Ao17, co17, eo17⟩ := Kd.R_slice HO_3.out
            subst eo17
            go_wp2_with (first | ((with_reducible refine gate_builtin (b := .append) (xs := #[.tmp 13, .tmp 14]) rfl ?_); at_builtin; refine Kd.R_append Kd.bool (w0 := w) w.heap.size rfl (.tmp 13) (.tmp 14) 24 4 (.bool false) 1 rfl Try.underlying24 info4 rfl (by decide) (by omega) (.slice Ao17 x3_1.length co17) x3_1 false [.bool false] (fun _ => True) (fun _ => False) rfl rfl ?aP (fun _ hk => hk.elim) ?aF ?aO ?aB ?aS ?aL ?_; (case aP => exact rfl); (case aB => exact (by repeat (first | (with_reducible first | exact HB.out | apply below_alloc | apply pw_below_drewN | apply below_drew1) | exact HB.out))); (case aF => exact (fun _ _ => trivial)); (case aO => exact (by (with_reducible repeat (first | apply Kd.R_alloc | apply Kd.R_drewN | apply Kd.R_drew)); exact HO_3.out)); (case aS => exact (below_size (by repeat (first | (with_reducible first | exact HB.out | apply below_alloc | apply pw_below_drewN | apply below_drew1) | exact HB.out)))); (case aL => have := LMc16.out; omega); intro v141 w18 ho hb hg hat; rw [← Ny140.out] at ho; have n0_ := Aside0.mk (hb); have n1_ := Aside0.mk (ho); clear HB; clear HO_3; have HB := n0_; have HO142 := n1_; clear n0_ n1_; clear ho hb hg hat))
            go_roundg k1
            case measure => have := HK1.out; omega
            case rel => exact ⟨(y140), H', ⟨by have := HK1.out; omega⟩, ⟨by (with_reducible repeat (first | apply Kd.R_alloc | apply Kd.R_drewN | apply Kd.R_drew)); exact HO142.out⟩, ⟨by repeat (first | (with_reducible first | exact HB.out | apply below_alloc | apply pw_below_drewN | apply below_drew1) | exact HB.out)⟩⟩
          · rw [if_neg c16] at H
            exact absurd H (by simp)
  · rw [if_neg c2] at H
    exact absurd H (by simp)

end Go.Proofs.Ytcdnabonljmegaa.PA
