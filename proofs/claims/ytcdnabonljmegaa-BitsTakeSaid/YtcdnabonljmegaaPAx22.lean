/- Each Go function named below comes to what the plain Lean function of its name answers, wherever that answers (rounds enough, no panic, no row too long); texts by a program of this session by way of the kit's print.py, what that does not take by hand. Condition: what is read lies in memory as each theorem says. -/
import Derived.Test.YtcdnabonljmegaaPAx0
import Derived.Test.YtcdnabonljmegaaPAx6
import Derived.Test.YtcdnabonljmegaaPAx8
import Derived.Test.YtcdnabonljmegaaPAx21
namespace Go.Proofs.Ytcdnabonljmegaa.PA
open Go.RowKit Go.Proofs.YtcdnabonljmegaaW.PrintWords Go.Proofs.YtcdnabonljmegaaW.PrintLast Go.Proofs.YtcdnabonljmegaaW.PrintMore
attribute [local go_sem] max2_int min2_int max_two min_two max_three min_three max_four min_four   -- for this text's walks alone
set_option linter.unusedVariables false
set_option linter.unusedSimpArgs false

/-! ### serinetteref01_Reader_Take: function 27 -/
/-- Some of a row of bools, as a number. -/
def refcut (l : List Bool) (lo hi : Int) : Option Int := if 0 ≤ lo ∧ lo ≤ hi ∧ hi ≤ (l.length : Int) then serinetteref01_Number.f 100 ((l.take hi.toNat).drop lo.toNat) else none
def serinetteref01_Reader_Take.f (s0_0 : List Bool) (s0_1 : Int) (s0_2 : Int) (a1 : Int) : Option (Int × Int × Int) :=
  (serinetteref01_Width.f a1).bind fun t => if s0_2 = 0 then (if t > wrap64 ((s0_0.length : Int) - s0_1) then some (0, s0_1, 2) else ((refcut s0_0 (wrap64 (wrap64 (s0_1 + t) - t)) (wrap64 (s0_1 + t))).bind fun n => some (n, wrap64 (s0_1 + t), s0_2))) else some (0, s0_1, s0_2)
set_option maxHeartbeats 8000000 in
set_option maxRecDepth 100000 in
theorem serinetteref01_Reader_Take.calls (g : Nat) (s0_0 : List Bool) (s0_1 : Int) (s0_2 : Int) (a1 : Int) (r1 : Int) (r2 : Int) (r3 : Int) (w0 w : World) (hI : IsS49 w0 w g s0_0 s0_1 s0_2) (hB : Below w0.heap.size w0 w) (h : serinetteref01_Reader_Take.f s0_0 s0_1 s0_2 a1 = some (r1, r2, r3)) :
    Calls Try.prog 27 #[.pointer (some ⟨g, 0, none⟩), .int .i64 a1] w fun e w' => e = .returned (.int .u64 r1) ∧ IsS49 w0 w' g s0_0 r2 r3 ∧ Below w0.heap.size w0 w' ∧ KeepBut w w' g none := by
  have HI0 := Aside0.mk hI
  have HK := Aside0.mk (KeepBut.refl w g none)
  have HB := Aside0.mk hB
  clear hI hB
  have H : ((serinetteref01_Width.f a1).bind fun t => if s0_2 = 0 then (if t > wrap64 ((s0_0.length : Int) - s0_1) then some (0, s0_1, 2) else ((refcut s0_0 (wrap64 (wrap64 (s0_1 + t) - t)) (wrap64 (s0_1 + t))).bind fun n => some (n, wrap64 (s0_1 + t), s0_2))) else some (0, s0_1, s0_2)) = some (r1, r2, r3) := h
  clear h
  replace H := Option.bind_eq_some_iff.mp H
  obtain ⟨t, A30, H⟩ := H
  replace H : (if s0_2 = 0 then (if t > wrap64 ((s0_0.length : Int) - s0_1) then some (0, s0_1, 2) else ((refcut s0_0 (wrap64 (wrap64 (s0_1 + t) - t)) (wrap64 (s0_1 + t))).bind fun n => some (n, wrap64 (s0_1 + t), s0_2))) else some (0, s0_1, s0_2)) = some (r1, r2, r3) := H
  have A3 := Aside0.mk A30
  clear A30
  go_enter Try.func27, Try.ntmps27
  by_cases c6 : s0_2 = 0
  · rw [if_pos c6] at H
    have c6b0 : (s0_2 == 0) = true := beq_iff_eq.mpr c6
    have c6b1 : (s0_2 != 0) = false := bne_eq_false_iff_eq.mpr c6
    clear c6
    by_cases c7 : t > wrap64 ((s0_0.length : Int) - s0_1)
    · rw [if_pos c7] at H
      have c7b0 : decide (wrap64 ((s0_0.length : Int) - s0_1) < t) = true := decide_eq_true c7
      clear c7
      simp only [Option.some.injEq, Prod.mk.injEq] at H
      obtain ⟨rfl, rfl, rfl⟩ := H
      go_wp2_with (first | (go_at_call 30; (with_reducible refine (serinetteref01_Width.calls a1 t _ A3.out).mono ?_); rintro e w5 ⟨rfl, hb⟩; have n0_ := Aside0.mk (IsS49.below HI0.out hb); have n1_ := Aside0.mk (KeepBut.trans HK.out (KeepBut.of_below hb g none) (.inl rfl)); have n2_ := Aside0.mk (below_step HB.out hb); clear HI0; clear HK; clear HB; have HI0 := n0_; have HK := n1_; have HB := n2_; clear n0_ n1_ n2_ hb; obtain ⟨A0, c0, HG, hg, HS⟩ := HI0.out; have HSS := Aside0.mk HS; clear HS; have hcz_0 := cellS49_0 HG; have hcz_1 := cellS49_1 HG; have hcz_2 := cellS49_2 HG; have hfz_1 := blk_frozen HG 1; have hfz_2 := blk_frozen HG 2; clear HG hg))
      repeat (go_quiet (fail); try go_wp2)
      go_ret
      exact ⟨by first | rfl | (simp [*]; done), by repeat (first | (with_reducible first | exact HI0.out | apply IsS49.alloc | apply IsS49.drewN | apply IsS49.drew | apply IsS49.set_1 | apply IsS49.set_2) | exact HI0.out), by repeat (first | (with_reducible first | exact HB.out | apply below_alloc | apply pw_below_drewN | apply below_drew1 | refine below_set ?_ (IsS49.ge HI0.out)) | exact HB.out), by repeat (first | (with_reducible first | exact HK.out | apply KeepBut.set_ | apply keep_drewN | apply keep_drew | apply keep_alloc) | exact HK.out)⟩
    · rw [if_neg c7] at H
      have c7b0 : decide (wrap64 ((s0_0.length : Int) - s0_1) < t) = false := decide_eq_false c7
      clear c7
      replace H := Option.bind_eq_some_iff.mp H
      obtain ⟨n, A120, H⟩ := H
      simp only [Option.some.injEq, Prod.mk.injEq] at H
      obtain ⟨rfl, rfl, rfl⟩ := H
      obtain ⟨hi, hhi⟩ : ∃ j_ : Int, wrap64 (s0_1 + t) = j_ := ⟨_, rfl⟩
      obtain ⟨lo, hlo⟩ : ∃ j_ : Int, wrap64 (hi - t) = j_ := ⟨_, rfl⟩
      have hhiw : IntKind.i64.wrap (s0_1 + t) = hi := (i64_w _).trans hhi
      have hlow : IntKind.i64.wrap (hi - t) = lo := (i64_w _).trans hlo
      rw [hhi, hlo] at A120
      unfold refcut at A120
      by_cases c8 : 0 ≤ lo ∧ lo ≤ hi ∧ hi ≤ (s0_0.length : Int)
      · rw [if_pos c8] at A120
        obtain ⟨q0, q1, q2⟩ := c8
        obtain ⟨y143, hy143⟩ : ∃ y_ : List Bool, y_ = ((s0_0.take hi.toNat).drop lo.toNat) := ⟨_, rfl⟩
        rw [← hy143] at A120
        have A12 := Aside0.mk A120
        clear A120
        go_wp2_with (first | (go_at_call 30; (with_reducible refine (serinetteref01_Width.calls a1 t _ A3.out).mono ?_); rintro e w5 ⟨rfl, hb⟩; have n0_ := Aside0.mk (IsS49.below HI0.out hb); have n1_ := Aside0.mk (KeepBut.trans HK.out (KeepBut.of_below hb g none) (.inl rfl)); have n2_ := Aside0.mk (below_step HB.out hb); clear HI0; clear HK; clear HB; have HI0 := n0_; have HK := n1_; have HB := n2_; clear n0_ n1_ n2_ hb; obtain ⟨A0, c0, HG, hg, HS⟩ := HI0.out; have HSS := Aside0.mk HS; clear HS; have hcz_0 := cellS49_0 HG; have hcz_1 := cellS49_1 HG; have hcz_2 := cellS49_2 HG; have hfz_1 := blk_frozen HG 1; have hfz_2 := blk_frozen HG 2; have HSF := fun m : Nat => Kd.R_far (Kd.R_types (Kd.R_drewN HSS.out m) (show (w5.drewN m).heap[g]? = _ from HG) (by simp [Kd.bool, Kd.scalar])) (fun k hk => hk.2) (.int .i64 hi) (p := ⟨g, 1, none⟩); obtain ⟨i014, hi014, _, hsz14, _⟩ := info_parts info4; have hroom14 : s0_0.length ≤ c0 := (Kd.R_reads' HSS.out).2.1; have hC14 := fun m : Nat => (Kd.R_reads' (HSF m)).2.2; have hcut14 := cut_mid (P := Try.prog) 24 4 .i64 .i64 Try.underlying24 hi014 1 hsz14 A0 s0_0.length c0 lo hi q0 q1 q2 hroom14; obtain ⟨A14, hA14⟩ : ∃ A1, A1 = (if c0 = lo.toNat then A0 else (A0 : Option Addr).map (·.add (lo.toNat * 1))) := ⟨_, rfl⟩; obtain ⟨c14, hc14⟩ : ∃ c1, c1 = c0 - lo.toNat := ⟨_, rfl⟩; have hy14 : y143.length = hi.toNat - lo.toNat := (by rw [hy143, List.length_drop, List.length_take] <;> omega); have hr14 : ∀ m : Nat, Kd.C Kd.bool ((w5.drewN m).setCell ⟨g, 1, none⟩ (.int .i64 hi)) A14 y143.length y143 := (fun m => by have h_ := Kd.C_mid (lo := lo.toNat) (hi := hi.toNat) (c := c0) (hC14 m) (by omega) (by omega) hroom14; rw [← hy143] at h_; rw [hA14]; exact h_); rw [← hy14, ← hA14, ← hc14] at hcut14; have HR146 := Aside0.mk hr14; have HC146 := Aside0.mk (show y143.length ≤ c14 from by rw [hy14, hc14]; exact Nat.sub_le_sub_right (Nat.le_trans (by omega) hroom14) _); have KY14 := Aside0.mk hy14; have KA14 := Aside0.mk hA14; have KM14 := Aside0.mk hy143; clear hr14 hC14 hroom14 hi014 hsz14 hc14 HSF hy14 hA14 hy143; clear HG hg) | (go_at_call 32; (with_reducible refine (serinetteref01_Number.calls 100 _ _ y143 n _ ?side1 ?side2 A12.out).mono ?_); (case side1 => repeat (first | (with_reducible exact HR146.out _) | exact HR146.out _ | (with_reducible refine Kd.C_alloc ?_ _) | (with_reducible refine Kd.C_drewN ?_ _) | (with_reducible refine Kd.C_drew ?_) | (refine Kd.C_setCell ?_))); (case side2 => exact HC146.out); rintro e w' ⟨rfl, ⟨nd, rfl⟩⟩))
        repeat (go_quiet (first | (go_at_call 32; refine Calls.quiet_of ((serinetteref01_Number.calls 100 A14 c14 y143 n _ ?side1 ?side2 A12.out).mono (fun _ _ h_ => ⟨h_.1, h_.2.out⟩)); (case side1 => repeat (first | (with_reducible exact HR146.out _) | exact HR146.out _ | (with_reducible refine Kd.C_drewN ?_ _))); (case side2 => exact HC146.out))); try go_wp2)
        go_ret
        rw [hhi]
        exact ⟨by first | rfl | (simp [*]; done), by repeat (first | (with_reducible first | exact HI0.out | apply IsS49.alloc | apply IsS49.drewN | apply IsS49.drew | apply IsS49.set_1 | apply IsS49.set_2) | exact HI0.out), by repeat (first | (with_reducible first | exact HB.out | apply below_alloc | apply pw_below_drewN | apply below_drew1 | refine below_set ?_ (IsS49.ge HI0.out)) | exact HB.out), by repeat (first | (with_reducible first | exact HK.out | apply KeepBut.set_ | apply keep_drewN | apply keep_drew | apply keep_alloc) | exact HK.out)⟩
      · rw [if_neg c8] at A120
        exact absurd A120 (by simp)
  · rw [if_neg c6] at H
    have c6b0 : (s0_2 == 0) = false := beq_eq_false_iff_ne.mpr c6
    have c6b1 : (s0_2 != 0) = true := bne_iff_ne.mpr c6
    clear c6
    simp only [Option.some.injEq, Prod.mk.injEq] at H
    obtain ⟨rfl, rfl, rfl⟩ := H
    go_wp2_with (first | (go_at_call 30; (with_reducible refine (serinetteref01_Width.calls a1 t _ A3.out).mono ?_); rintro e w5 ⟨rfl, hb⟩; have n0_ := Aside0.mk (IsS49.below HI0.out hb); have n1_ := Aside0.mk (KeepBut.trans HK.out (KeepBut.of_below hb g none) (.inl rfl)); have n2_ := Aside0.mk (below_step HB.out hb); clear HI0; clear HK; clear HB; have HI0 := n0_; have HK := n1_; have HB := n2_; clear n0_ n1_ n2_ hb; obtain ⟨A0, c0, HG, hg, HS⟩ := HI0.out; have HSS := Aside0.mk HS; clear HS; have hcz_0 := cellS49_0 HG; have hcz_1 := cellS49_1 HG; have hcz_2 := cellS49_2 HG; have hfz_1 := blk_frozen HG 1; have hfz_2 := blk_frozen HG 2; clear HG hg))
    go_ret
    exact ⟨by first | rfl | (simp [*]; done), by repeat (first | (with_reducible first | exact HI0.out | apply IsS49.alloc | apply IsS49.drewN | apply IsS49.drew | apply IsS49.set_1 | apply IsS49.set_2) | exact HI0.out), by repeat (first | (with_reducible first | exact HB.out | apply below_alloc | apply pw_below_drewN | apply below_drew1 | refine below_set ?_ (IsS49.ge HI0.out)) | exact HB.out), by repeat (first | (with_reducible first | exact HK.out | apply KeepBut.set_ | apply keep_drewN | apply keep_drew | apply keep_alloc) | exact HK.out)⟩


/-! ### serinetteref01_Reader_End: function 28 -/
def serinetteref01_Reader_End.f (s0_0 : List Bool) (s0_1 : Int) (s0_2 : Int) : Option (Int × Int × Int) := if s0_2 = 0 then (if s0_1 < (s0_0.length : Int) then (some (3, s0_1, s0_2)) else (some (0, s0_1, s0_2))) else (some (s0_2, s0_1, s0_2))
set_option maxHeartbeats 8000000 in
set_option maxRecDepth 100000 in
theorem serinetteref01_Reader_End.calls (g : Nat) (s0_0 : List Bool) (s0_1 : Int) (s0_2 : Int) (r1 : Int) (r2 : Int) (r3 : Int) (w0 w : World) (hI : IsS49 w0 w g s0_0 s0_1 s0_2) (hB : Below w0.heap.size w0 w) (h : serinetteref01_Reader_End.f s0_0 s0_1 s0_2 = some (r1, r2, r3)) :
    Calls Try.prog 28 #[.pointer (some ⟨g, 0, none⟩)] w fun e w' => e = .returned (.int .i64 r1) ∧ IsS49 w0 w' g s0_0 r2 r3 ∧ Below w0.heap.size w0 w' ∧ KeepBut w w' g none := by
  have HI0 := Aside0.mk hI
  have HK := Aside0.mk (KeepBut.refl w g none)
  have HL := Aside0.mk hB.size
  clear hI
  have HW0 := Aside0.mk hB.size
  have HB := Aside0.mk hB
  clear hB
  have H : (if s0_2 = 0 then (if s0_1 < (s0_0.length : Int) then (some (3, s0_1, s0_2)) else (some (0, s0_1, s0_2))) else (some (s0_2, s0_1, s0_2))) = some (r1, r2, r3) := h
  clear h
  by_cases c2 : s0_2 = 0
  · rw [if_pos c2] at H
    have c2b0 : (s0_2 == 0) = true := beq_iff_eq.mpr c2
    have c2b1 : (s0_2 != 0) = false := bne_eq_false_iff_eq.mpr c2
    clear c2
    by_cases c3 : s0_1 < (s0_0.length : Int)
    · rw [if_pos c3] at H
      have c3b0 : decide (s0_1 < (s0_0.length : Int)) = true := decide_eq_true c3
      clear c3
      simp only [Option.some.injEq, Prod.mk.injEq] at H
      obtain ⟨rfl, rfl, rfl⟩ := H
      obtain ⟨ASz4_0, cSz4_0, HGz4, hgz4, HSz4_0⟩ := HI0.out
      have hcz4_0 := cellS49_0 HGz4
      have hcz4_1 := cellS49_1 HGz4
      have hcz4_2 := cellS49_2 HGz4
      have hfz4_1 := blk_frozen HGz4 1
      have hfz4_2 := blk_frozen HGz4 2
      clear HGz4 hgz4
      go_enter Try.func28, Try.ntmps28
      go_wp2
      repeat (go_quiet (fail); try go_wp2)
      go_ret
      exact ⟨by first | rfl | (simp [errW_none, errW_some] <;> rfl) | (simp [*, errW_none, errW_some] <;> rfl), by repeat (first | (with_reducible first | exact HI0.out | apply IsS49.alloc | apply IsS49.drewN | apply IsS49.drew | apply IsS49.set_1 | apply IsS49.set_2) | exact HI0.out), by repeat (first | (with_reducible first | exact HB.out | apply below_alloc | apply pw_below_drewN | apply below_drew1 | refine below_set ?_ (IsS49.ge HI0.out)) | exact HB.out), by repeat (first | (with_reducible first | exact HK.out | apply KeepBut.set_ | apply keep_drewN | apply keep_drew | apply keep_alloc) | exact HK.out)⟩
    · rw [if_neg c3] at H
      have c3b0 : decide (s0_1 < (s0_0.length : Int)) = false := decide_eq_false c3
      clear c3
      simp only [Option.some.injEq, Prod.mk.injEq] at H
      obtain ⟨rfl, rfl, rfl⟩ := H
      obtain ⟨ASz5_0, cSz5_0, HGz5, hgz5, HSz5_0⟩ := HI0.out
      have hcz5_0 := cellS49_0 HGz5
      have hcz5_1 := cellS49_1 HGz5
      have hcz5_2 := cellS49_2 HGz5
      have hfz5_1 := blk_frozen HGz5 1
      have hfz5_2 := blk_frozen HGz5 2
      clear HGz5 hgz5
      go_enter Try.func28, Try.ntmps28
      go_wp2
      repeat (go_quiet (fail); try go_wp2)
      go_ret
      exact ⟨by first | rfl | (simp [errW_none, errW_some] <;> rfl) | (simp [*, errW_none, errW_some] <;> rfl), by repeat (first | (with_reducible first | exact HI0.out | apply IsS49.alloc | apply IsS49.drewN | apply IsS49.drew | apply IsS49.set_1 | apply IsS49.set_2) | exact HI0.out), by repeat (first | (with_reducible first | exact HB.out | apply below_alloc | apply pw_below_drewN | apply below_drew1 | refine below_set ?_ (IsS49.ge HI0.out)) | exact HB.out), by repeat (first | (with_reducible first | exact HK.out | apply KeepBut.set_ | apply keep_drewN | apply keep_drew | apply keep_alloc) | exact HK.out)⟩
  · rw [if_neg c2] at H
    have c2b0 : (s0_2 == 0) = false := beq_eq_false_iff_ne.mpr c2
    have c2b1 : (s0_2 != 0) = true := bne_iff_ne.mpr c2
    simp only [Option.some.injEq, Prod.mk.injEq] at H
    obtain ⟨rfl, rfl, rfl⟩ := H
    obtain ⟨ASz6_0, cSz6_0, HGz6, hgz6, HSz6_0⟩ := HI0.out
    have hcz6_0 := cellS49_0 HGz6
    have hcz6_1 := cellS49_1 HGz6
    have hcz6_2 := cellS49_2 HGz6
    have hfz6_1 := blk_frozen HGz6 1
    have hfz6_2 := blk_frozen HGz6 2
    clear HGz6 hgz6
    go_enter Try.func28, Try.ntmps28
    go_wp2
    repeat (go_quiet (fail); try go_wp2)
    go_ret
    exact ⟨by first | rfl | (simp [errW_none, errW_some] <;> rfl) | (simp [*, errW_none, errW_some] <;> rfl), by repeat (first | (with_reducible first | exact HI0.out | apply IsS49.alloc | apply IsS49.drewN | apply IsS49.drew | apply IsS49.set_1 | apply IsS49.set_2) | exact HI0.out), by repeat (first | (with_reducible first | exact HB.out | apply below_alloc | apply pw_below_drewN | apply below_drew1 | refine below_set ?_ (IsS49.ge HI0.out)) | exact HB.out), by repeat (first | (with_reducible first | exact HK.out | apply KeepBut.set_ | apply keep_drewN | apply keep_drew | apply keep_alloc) | exact HK.out)⟩

/-! ### serinetteshadow_NewReader: function 50 -/
/-- What stands for the making of a Reader: its own row, at the start, without an error. -/
def serinetteshadow_NewReader.f (l0 : List Bool) : Option (List Bool × Int × Int) := some (l0, 0, 0)


end Go.Proofs.Ytcdnabonljmegaa.PA
