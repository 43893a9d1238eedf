/- Each Go function named below comes to what the plain Lean function of its name answers, wherever that answers (rounds enough, no panic, no row too long); texts by a program of this session by way of the kit's print.py, what that does not take by hand. Condition: what is read lies in memory as each theorem says. -/
import Derived.Test.YtcdnabonljmegaaPAx0
import Derived.Test.YtcdnabonljmegaaPAx6
namespace Go.Proofs.Ytcdnabonljmegaa.PA
open Go.RowKit Go.Proofs.YtcdnabonljmegaaW.PrintWords Go.Proofs.YtcdnabonljmegaaW.PrintLast Go.Proofs.YtcdnabonljmegaaW.PrintMore
attribute [local go_sem] max2_int min2_int max_two min_two max_three min_three max_four min_four   -- for this text's walks alone
set_option linter.unusedVariables false
set_option linter.unusedSimpArgs false

/-! ### serinetteref01_Digits: function 12 -/
def serinetteref01_Digits.l0 : Nat → Int → List Bool → Int → Option (List Bool)
  | 0, _, _, _ => none
  | k + 1, x0, x6, x7 => if x7 ≥ 0 then (if 0 ≤ x7 then (if x7 < (x6.length : Int) then (serinetteref01_Digits.l0 k (IntKind.u64.wrap (Int.tdiv x0 2)) (x6.set (x7 : Int).toNat ((Int.tmod x0 2) == 1)) (wrap64 (x7 - 1))) else (none)) else (none)) else (some x6)
def serinetteref01_Digits.f (k : Nat) (a0 : Int) (a1 : Int) : Option (List Bool) := (serinetteref01_Width.f a1).bind fun t128 => (if 0 ≤ t128 then (if (t128 : Int).toNat ≤ 281474976710656 then (serinetteref01_Digits.l0 k a0 (List.replicate (t128 : Int).toNat false) (wrap64 (t128 - 1))) else (none)) else (none))
theorem serinetteref01_Digits.mono_l : ∀ k, (∀ y0 y1 y2, LeO (serinetteref01_Digits.l0 k y0 y1 y2) (serinetteref01_Digits.l0 (k + 1) y0 y1 y2))
  | 0 => fun _ _ _ r h => by simp [serinetteref01_Digits.l0] at h
  | k + 1 => by
    have ih0 := serinetteref01_Digits.mono_l k
    · intro y0 y1 y2
      unfold serinetteref01_Digits.l0
      repeat' first
      | (with_reducible exact ih0 _ _ _)
      | (with_reducible exact LeO.refl _)
      | (with_reducible exact LeO.none _)
      | (with_reducible refine LeO.ite ?_ ?_)
      | (with_reducible refine LeO.bind ?_ (fun _ => ?_))
      | exact ih0 _ _ _
      | exact LeO.none _
      | refine LeO.ite ?_ ?_
      | refine LeO.bind ?_ (fun _ => ?_)
theorem serinetteref01_Digits.mono : ∀ a0 a1 k, LeO (serinetteref01_Digits.f k a0 a1) (serinetteref01_Digits.f (k + 1) a0 a1) := by
  intro a0 a1 k
  have ih0 := serinetteref01_Digits.mono_l k
  unfold serinetteref01_Digits.f
  repeat' first
      | (with_reducible exact ih0 _ _ _)
      | (with_reducible exact LeO.refl _)
      | (with_reducible exact LeO.none _)
      | (with_reducible refine LeO.ite ?_ ?_)
      | (with_reducible refine LeO.bind ?_ (fun _ => ?_))
      | exact ih0 _ _ _
      | exact LeO.none _
      | refine LeO.ite ?_ ?_
      | refine LeO.bind ?_ (fun _ => ?_)
set_option maxHeartbeats 8000000 in
set_option maxRecDepth 100000 in
theorem serinetteref01_Digits.calls (k : Nat) (a0 : Int) (a1 : Int) (r : List Bool) (w : World) (h : serinetteref01_Digits.f k a0 a1 = some r) :
    Calls Try.prog 12 #[.int .u64 a0, .int .i64 a1] w fun e w' => ∃ v0_ : Value, e = .returned (v0_) ∧ Kd.R Kd.bool 4 w' w.heap.size (fun _ => True) v0_ r ∧ Below w.heap.size w w' := by
  have HB := Aside0.mk (Below.refl w.heap.size w)
  have H : ((serinetteref01_Width.f a1).bind fun t128 => (if 0 ≤ t128 then (if (t128 : Int).toNat ≤ 281474976710656 then (serinetteref01_Digits.l0 k a0 (List.replicate (t128 : Int).toNat false) (wrap64 (t128 - 1))) else (none)) else (none))) = some r := h
  clear h
  replace H := Option.bind_eq_some_iff.mp H
  obtain ⟨t128, A30, H⟩ := H
  replace H : (if 0 ≤ t128 then (if (t128 : Int).toNat ≤ 281474976710656 then (serinetteref01_Digits.l0 k a0 (List.replicate (t128 : Int).toNat false) (wrap64 (t128 - 1))) else (none)) else (none)) = some r := H
  have A3 := Aside0.mk A30
  clear A30
  by_cases c4 : 0 ≤ t128
  · rw [if_pos c4] at H
    have c4b0 := eq_true c4
    have c4b1 : decide (0 ≤ t128) = true := decide_eq_true c4
    clear c4
    by_cases c5 : (t128 : Int).toNat ≤ 281474976710656
    · rw [if_pos c5] at H
      have c5b0 := eq_true c5
      have c5b1 : decide ((t128 : Int).toNat ≤ 281474976710656) = true := decide_eq_true c5
      clear c5
      obtain ⟨y129, hy129⟩ : ∃ y_ : List Bool, y_ = (List.replicate (t128 : Int).toNat false) := ⟨_, rfl⟩
      replace H : (serinetteref01_Digits.l0 k a0 y129 (wrap64 (t128 - 1))) = some r := by first | (rw [hy129]; with_reducible exact H) | (have H2_ := (Option.bind_some _ _).symm.trans H; rw [hy129]; with_reducible exact H2_) | (have H2_ := (Option.bind_some _ _).symm.trans H; with_reducible exact H2_) | with_reducible exact H | (rw [hy129]; exact H) | exact H
      have Ny129 := Aside0.mk hy129
      clear hy129
      have H' := Aside0.mk H
      clear H
      go_enter Try.func12, Try.ntmps12
      go_wp2_with (first | ((with_reducible refine gate_callee (f := 30) rfl ?_); refine goesL_ (some 9) rfl rfl Try.func30 (by kernel_rfl) rfl #[.int .i64 a1] rfl (by (try simp only [List.map_toArray, List.map_cons, List.map_nil]); first | done | rfl | (simp only [List.length_drop, List.length_take]; rfl)) ?_; (with_reducible refine (serinetteref01_Width.calls a1 t128 _ A3.out).mono ?_); rintro e w6 ⟨rfl, hb⟩; refine ⟨_, rfl, ?_⟩; have n0_ := Aside0.mk (below_step (by repeat (first | (with_reducible first | exact HB.out | apply below_alloc | apply pw_below_drewN | apply below_drew1) | exact HB.out)) hb); clear HB; have HB := n0_; clear n0_; (try clear hb); (try clear hb2); (try clear hk); (try clear hi)) | ((with_reducible refine gate_dst (N := 11) rfl ?_); refine Kd.R_make Kd.bool _ 4 rfl (N := 11) rfl 24 _ _ rfl t128 rfl rfl Try.underlying24 (.bool false) 1 info4 rfl (by decide) (by omega) false (ok := fun _ => True) (okp := fun _ => True) rfl (fun _ hk => hk) trivial (of_decide_eq_true (by first | (with_reducible assumption) | assumption)) (Nat.le_trans (Nat.mul_le_mul_right _ (of_decide_eq_true (by first | (with_reducible assumption) | assumption) : t128.toNat ≤ 281474976710656)) (by omega)) (Below.refl _ _) (Nat.le_refl _) ?_; intro v130 w7 ho8 hb hg_ hnew_; clear hg_ hnew_; (first | rw [← Ny129.out] at ho8 | (simp only [Int.reduceToNat] at ho8; rw [← Ny129.out] at ho8)); have n0_ := Aside0.mk (Kd.R_lower ho8 (below_size (by repeat (first | (with_reducible first | exact HB.out | apply below_alloc | apply pw_below_drewN | apply below_drew1) | exact HB.out)))); have n1_ := Aside0.mk (below_step (by repeat (first | (with_reducible first | exact HB.out | apply below_alloc | apply pw_below_drewN | apply below_drew1) | exact HB.out)) hb); clear HB; have HO131 := n0_; have HB := n1_; clear n0_ n1_; clear hb ho8))
      go_loopg [0, 7] k (fun kq v0 v7 w' => ∃ (x0_1 : Int) (x6_1 : List Bool) (x7_1 : Int), v0 = .int .u64 x0_1 ∧ v7 = .int .i64 x7_1 ∧ Aside0 (serinetteref01_Digits.l0 kq x0_1 x6_1 x7_1 = some r) ∧ Aside0 (kq ≤ k) ∧ Aside0 (Kd.R Kd.bool 4 w' w.heap.size (fun _ => True) v130 x6_1) ∧ Aside0 (Below w.heap.size w w'))
      case atStart => exact ⟨(a0), (y129), (wrap64 (t128 - 1)), (by first | rfl | (simp; done) | (simp only [i64_w, i32_w]; done) | (simp [*]; done) | (simp only [i64_w, i32_w]; first | rfl | (simp; done) | (simp [*]; done))), (by first | rfl | (simp; done) | (simp only [i64_w, i32_w]; done) | (simp [*]; done) | (simp only [i64_w, i32_w]; first | rfl | (simp; done) | (simp [*]; done))), H', ⟨Nat.le_refl _⟩, ⟨by (with_reducible repeat (first | apply Kd.R_alloc | apply Kd.R_drewN | apply Kd.R_drew)); exact HO131.out⟩, ⟨by repeat (first | (with_reducible first | exact HB.out | apply below_alloc | apply pw_below_drewN | apply below_drew1) | exact HB.out)⟩⟩
      case round =>
        clear H'
        try clear c1
        try clear p2
        try clear c3
        try clear c4
        try clear c4b0
        try clear c4b1
        try clear c5
        try clear c5b0
        try clear c5b1
        try clear p6
        obtain ⟨x0_1, x6_1, x7_1, rfl, rfl, HA, HK1, HO_6, HB⟩ := hrel
        cases gk with
        | zero => exact absurd HA.out (by simp [serinetteref01_Digits.l0])
        | succ k1 =>
          have H := HA.out
          clear HA
          simp only [serinetteref01_Digits.l0] at H
          by_cases c9 : x7_1 ≥ 0
          · rw [if_pos c9] at H
            have c9b0 : decide (0 ≤ x7_1) = true := decide_eq_true c9
            clear c9
            by_cases c10 : 0 ≤ x7_1
            · rw [if_pos c10] at H
              have c10b0 : decide (0 ≤ x7_1) = true := decide_eq_true c10
              clear c10
              by_cases c11 : x7_1 < (x6_1.length : Int)
              · rw [if_pos c11] at H
                have c11b0 : decide (x7_1 < (x6_1.length : Int)) = true := decide_eq_true c11
                clear c11
                obtain ⟨y132, hy132⟩ : ∃ y_ : List Bool, y_ = (x6_1.set (x7_1 : Int).toNat ((Int.tmod x0_1 2) == 1)) := ⟨_, rfl⟩
                replace H : (serinetteref01_Digits.l0 k1 (IntKind.u64.wrap (Int.tdiv x0_1 2)) y132 (wrap64 (x7_1 - 1))) = some r := by first | (rw [hy132]; with_reducible exact H) | (have H2_ := (Option.bind_some _ _).symm.trans H; rw [hy132]; with_reducible exact H2_) | (have H2_ := (Option.bind_some _ _).symm.trans H; with_reducible exact H2_) | with_reducible exact H | (rw [hy132]; exact H) | exact H
                have Ny132 := Aside0.mk hy132
                clear hy132
                have H' := Aside0.mk H
                clear H
                have p12 : 0 ≤ (x7_1 : Int) := of_decide_eq_true (by first | (with_reducible assumption) | assumption)
                have q12 : (x7_1 : Int) < ((x6_1.length : Int) : Int) := of_decide_eq_true (by first | (with_reducible assumption) | assumption)
                obtain ⟨go12, co12, eo12, gb12, gl12, cl12, HG12⟩ := Kd.R_form HO_6.out (by omega)
                (first | cases eo12 | (injection eo12 with ea_ en_ ec_; (first | subst ea_ | (injection ea_ with ea_; subst ea_)); subst ec_; clear en_))
                have GB12 := Aside0.mk gb12
                have GG12 := Aside0.mk HG12
                clear gb12 gl12 HG12
                obtain ⟨hx12_0, hf12_0⟩ := Kd.R_celln false HO_6.out (x7_1 : Int) p12 q12
                replace p12 := eq_true p12
                replace q12 := eq_true q12
                have HP13 := Kd.R_putg HO_6.out (x7_1 : Int) ((Int.tmod x0_1 2) == 1)
                go_wp2_with (first | ((with_reducible refine gate_store (t := 4) (p := 23) rfl ?_); refine store_event (t := 4) (p := 23) (v := ?vo_w14) (w1 := (wr.setCell ⟨go12, (x7_1 : Int).toNat, none⟩ (.bool ((Int.tmod x0_1 2) == 1)))) ?hg ?ho ?hn ?hr ?_; (case ho => rfl); (case hg => rfl); (case hn => rfl); (case hr => first | (go_simp; done) | (go_simp; rfl)); intro w14 hw; have hg : wr.grownBy w14 (some go12) := (by rw [hw]; exact HP13.2); have hp_ : Kd.R Kd.bool 4 w14 w.heap.size (fun _ => True) (.slice (some ⟨go12, 0, none⟩) x6_1.length co12) y132 := (by rw [hw, Ny132.out]; exact HP13.1); clear HP13; have n0_ := Aside0.mk (hp_); have n1_ := Aside0.mk ((by rw [hw]; exact below_set (HB.out) GB12.out : Below w.heap.size w w14)); clear HO_6; clear HB; have HO_6 := n0_; have HB := n1_; clear n0_ n1_; clear hg hw hp_))
                go_roundg k1
                case measure => have := HK1.out; omega
                case rel => exact ⟨(IntKind.u64.wrap (Int.tdiv x0_1 2)), (y132), (wrap64 (x7_1 - 1)), (by first | rfl | (simp; done) | (simp only [i64_w, i32_w]; done) | (simp [*]; done) | (simp only [i64_w, i32_w]; first | rfl | (simp; done) | (simp [*]; done))), (by first | rfl | (simp; done) | (simp only [i64_w, i32_w]; done) | (simp [*]; done) | (simp only [i64_w, i32_w]; first | rfl | (simp; done) | (simp [*]; done))), H', ⟨by have := HK1.out; omega⟩, ⟨by (with_reducible repeat (first | apply Kd.R_alloc | apply Kd.R_drewN | apply Kd.R_drew)); exact HO_6.out⟩, ⟨by repeat (first | (with_reducible first | exact HB.out | apply below_alloc | apply pw_below_drewN | apply below_drew1) | exact HB.out)⟩⟩
              · rw [if_neg c11] at H
                exact absurd H (by simp)
            · rw [if_neg c10] at H
              exact absurd H (by simp)
          · rw [if_neg c9] at H
            have c9b0 : decide (0 ≤ x7_1) = false := decide_eq_false c9
            clear c9
            obtain rfl := Option.some.inj H
            go_wp2
            go_ret
            exact ⟨_, by first | rfl | (simp [errW_none, errW_some] <;> rfl) | (simp [*, errW_none, errW_some] <;> rfl), by (with_reducible repeat (first | apply Kd.R_alloc | apply Kd.R_drewN | apply Kd.R_drew)); exact HO_6.out, by repeat (first | (with_reducible first | exact HB.out | apply below_alloc | apply pw_below_drewN | apply below_drew1) | exact HB.out)⟩
    · rw [if_neg c5] at H
      exact absurd H (by simp)
  · rw [if_neg c4] at H
    exact absurd H (by simp)

end Go.Proofs.Ytcdnabonljmegaa.PA
