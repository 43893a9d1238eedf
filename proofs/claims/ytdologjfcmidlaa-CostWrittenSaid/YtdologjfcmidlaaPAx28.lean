/- Each Go function named below comes to what the plain Lean function of its name answers, wherever that answers (rounds enough, no panic, no row too long); texts by a program of this session by way of the kit's print.py, what that does not take by hand. Condition: what is read lies in memory as each theorem says. -/
import Derived.Test.YtdologjfcmidlaaPAx0
import Derived.Test.YtdologjfcmidlaaPAx2
import Derived.Test.YtdologjfcmidlaaPAx25
import Derived.Test.YtdologjfcmidlaaPAx27
import Derived.Test.YtdologjfcmidlaaGoto
namespace Go.Proofs.Ytdologjfcmidlaa.PA
open Go.RowKit Go.Proofs.YtdologjfcmidlaaW.PrintWords Go.Proofs.YtdologjfcmidlaaW.PrintLast Go.Proofs.YtdologjfcmidlaaW.PrintMore
attribute [local go_sem] max2_int min2_int max_two min_two max_three min_three max_four min_four   -- for this text's walks alone
set_option linter.unusedVariables false
set_option linter.unusedSimpArgs false

/-! ### rice_Put: function 20 -/
def rice_Put.l0 : Nat → Int → Int → Int → ByteArray → Int → Option (Int × ByteArray × Int)
  | 0, _, _, _, _, _ => none
  | k + 1, x2, x7, x8, x1000, x1001 => if x8 > 64 then ((bits_Writer_Put.f x1000 x1001 0 64).bind fun bt273 => (rice_Put.l0 k x2 x7 (wrap64 (x8 - 64)) bt273.1 bt273.2)) else ((bits_Writer_Put.f x1000 x1001 0 x8).bind fun bt275 => ((bits_Writer_Put.f bt275.1 bt275.2 1 1).bind fun bt277 => ((bits_Writer_Put.f bt277.1 bt277.2 x7 x2).bind fun bt279 => (some (0, bt279.1, bt279.2)))))
def rice_Put.f (k : Nat) (s0_0 : ByteArray) (s0_1 : Int) (a1 : Int) (a2 : Int) : Option (Int × ByteArray × Int) := (rice_held.f a2).bind fun t270 => ((rice_Fold.f a1).bind fun t271 => (if 0 ≤ t270 then ((rice_Near.f a1).bind fun t272 => (if t272 = true then (if (wrap64 (shr .u64 t271 t270)) > 65535 then (some (7, s0_0, s0_1)) else (rice_Put.l0 k t270 t271 (wrap64 (shr .u64 t271 t270)) s0_0 s0_1)) else (some (6, s0_0, s0_1)))) else (none)))
theorem rice_Put.mono_l : ∀ k, (∀ y0 y1 y2 y3 y4, LeO (rice_Put.l0 k y0 y1 y2 y3 y4) (rice_Put.l0 (k + 1) y0 y1 y2 y3 y4))
  | 0 => fun _ _ _ _ _ r h => by simp [rice_Put.l0] at h
  | k + 1 => by
    have ih0 := rice_Put.mono_l k
    · intro y0 y1 y2 y3 y4
      unfold rice_Put.l0
      repeat' first
      | (with_reducible exact ih0 _ _ _ _ _)
      | (with_reducible exact LeO.refl _)
      | (with_reducible exact LeO.none _)
      | (with_reducible refine LeO.ite ?_ ?_)
      | (with_reducible refine LeO.bind ?_ (fun _ => ?_))
      | exact ih0 _ _ _ _ _
      | exact LeO.none _
      | refine LeO.ite ?_ ?_
      | refine LeO.bind ?_ (fun _ => ?_)
theorem rice_Put.mono : ∀ a0 a1 a2 a3 k, LeO (rice_Put.f k a0 a1 a2 a3) (rice_Put.f (k + 1) a0 a1 a2 a3) := by
  intro a0 a1 a2 a3 k
  have ih0 := rice_Put.mono_l k
  unfold rice_Put.f
  repeat' first
      | (with_reducible exact ih0 _ _ _ _ _)
      | (with_reducible exact LeO.refl _)
      | (with_reducible exact LeO.none _)
      | (with_reducible refine LeO.ite ?_ ?_)
      | (with_reducible refine LeO.bind ?_ (fun _ => ?_))
      | exact ih0 _ _ _ _ _
      | exact LeO.none _
      | refine LeO.ite ?_ ?_
      | refine LeO.bind ?_ (fun _ => ?_)
set_option maxHeartbeats 8000000 in
set_option maxRecDepth 100000 in
theorem rice_Put.calls (k : Nat) (g : Nat) (s0_0 : ByteArray) (s0_1 : Int) (a1 : Int) (a2 : Int) (r1 : Int) (r2 : ByteArray) (r3 : Int) (w0 w : World) (hI : IsS53 w0 w g s0_0 s0_1) (hB : Below w0.heap.size w0 w) (h : rice_Put.f k s0_0 s0_1 a1 a2 = some (r1, r2, r3)) :
    Calls Try.prog 20 #[.pointer (some ⟨g, 0, none⟩), .int .i64 a1, .int .i64 a2] w fun e w' => e = .returned (.int .i64 r1) ∧ IsS53 w0 w' g r2 r3 ∧ Below w0.heap.size w0 w' ∧ KBe w0 w w' g := by
  have HI0 := Aside0.mk hI
  have HK := Aside0.mk (KBe.refl w0 hI)
  have HL := Aside0.mk hB.size
  clear hI
  have HW0 := Aside0.mk hB.size
  have HB := Aside0.mk hB
  clear hB
  have H : ((rice_held.f a2).bind fun t101 => ((rice_Fold.f a1).bind fun t102 => (if 0 ≤ t101 then ((rice_Near.f a1).bind fun t103 => (if t103 = true then (if (wrap64 (shr .u64 t102 t101)) > 65535 then (some (7, s0_0, s0_1)) else (rice_Put.l0 k t101 t102 (wrap64 (shr .u64 t102 t101)) s0_0 s0_1)) else (some (6, s0_0, s0_1)))) else (none)))) = some (r1, r2, r3) := h
  clear h
  replace H := Option.bind_eq_some_iff.mp H
  obtain ⟨t101, A40, H⟩ := H
  replace H : ((rice_Fold.f a1).bind fun t102 => (if 0 ≤ t101 then ((rice_Near.f a1).bind fun t103 => (if t103 = true then (if (wrap64 (shr .u64 t102 t101)) > 65535 then (some (7, s0_0, s0_1)) else (rice_Put.l0 k t101 t102 (wrap64 (shr .u64 t102 t101)) s0_0 s0_1)) else (some (6, s0_0, s0_1)))) else (none))) = some (r1, r2, r3) := H
  have A4 := Aside0.mk A40
  clear A40
  replace H := Option.bind_eq_some_iff.mp H
  obtain ⟨t102, A50, H⟩ := H
  replace H : (if 0 ≤ t101 then ((rice_Near.f a1).bind fun t103 => (if t103 = true then (if (wrap64 (shr .u64 t102 t101)) > 65535 then (some (7, s0_0, s0_1)) else (rice_Put.l0 k t101 t102 (wrap64 (shr .u64 t102 t101)) s0_0 s0_1)) else (some (6, s0_0, s0_1)))) else (none)) = some (r1, r2, r3) := H
  have A5 := Aside0.mk A50
  clear A50
  go_enter Try.func20, Try.ntmps20
  go_wp2
  refine wp_scope_ghost_k 0 rfl (fun kq a_ w' => ∃ v1_ v3_ v4_ v5_ v6_ v8 v9_ v10_ v11_ v12_ v13_ v14_ v15_ v16_ v17_ v18_ v19_ v20_ v21_ v22_ v23_ v24_ v25_ v26_ v27_ v28_ v29_ v30_ v31_ v32_ v33_ v34_ v35_ v36_ v37_ v38_ : Value, (∃ (x8_1 : Int) (x1000_1 : ByteArray) (x1001_1 : Int), v8 = .int .i64 x8_1 ∧ Aside0 (rice_Put.l0 kq t101 t102 x8_1 x1000_1 x1001_1 = some (r1, r2, r3)) ∧ Aside0 (kq ≤ kq) ∧ Aside0 (IsS53 w0 w' g x1000_1 x1001_1) ∧ Aside0 (KBe w0 w w' g) ∧ Aside0 (Below w0.heap.size w0 w')) ∧ a_ = { tmps := #[.pointer (some ⟨g, 0, none⟩), v1_, .int .i64 t101, v3_, v4_, v5_, v6_, .int .u64 t102, v8, v9_, v10_, v11_, v12_, v13_, v14_, v15_, v16_, v17_, v18_, v19_, v20_, v21_, v22_, v23_, v24_, v25_, v26_, v27_, v28_, v29_, v30_, v31_, v32_, v33_, v34_, v35_, v36_, v37_, v38_], defers := [] }) ?round ?first
  case round =>
    rintro gk a_ wr ⟨u1_, u3_, u4_, u5_, u6_, u8, u9_, u10_, u11_, u12_, u13_, u14_, u15_, u16_, u17_, u18_, u19_, u20_, u21_, u22_, u23_, u24_, u25_, u26_, u27_, u28_, u29_, u30_, u31_, u32_, u33_, u34_, u35_, u36_, u37_, u38_, hrel, rfl⟩ J_ K_ hJ_ hK_
    try clear c1
    try clear c2
    try clear p2
    try clear c3
    try clear c6
    try clear c6b0
    try clear c6b1
    try clear p6
    try clear c9
    try clear c10
    try clear c10b0
    obtain ⟨x8_1, x1000_1, x1001_1, rfl, HA, HK1, HI0, HK, HB⟩ := hrel
    cases gk with
    | zero => exact absurd HA.out (by simp [rice_Put.l0])
    | succ k1 =>
      have H := HA.out
      clear HA
      simp only [rice_Put.l0] at H
      by_cases c13 : x8_1 > 64
      · rw [if_pos c13] at H
        have c13b0 : decide (64 < x8_1) = true := decide_eq_true c13
        clear c13
        replace H := Option.bind_eq_some_iff.mp H
        obtain ⟨⟨t104, t105⟩, A140, H⟩ := H
        replace H : (rice_Put.l0 k1 t101 t102 (wrap64 (x8_1 - 64)) t104 t105) = some (r1, r2, r3) := H
        have A14 := Aside0.mk A140
        clear A140
        have H' := Aside0.mk H
        clear H
        go_wp2_with (first | ((with_reducible refine gate_callee (f := 34) rfl ?_); refine goesL_ (some 27) rfl rfl Try.func34 (by kernel_rfl) rfl #[.pointer (some ⟨g, 0, none⟩), .int .u64 0, .int .i64 64] rfl (by (try simp only [List.map_toArray, List.map_cons, List.map_nil]); first | done | rfl | (simp only [List.length_drop, List.length_take]; rfl)) ?_; (with_reducible refine (bits_Writer_Put.calls g x1000_1 x1001_1 0 64 t104 t105 w0 _ ?side1 ?side2 A14.out).mono ?_); (case side1 => repeat (first | (with_reducible first | exact HI0.out | apply IsS53.alloc | apply IsS53.drewN | apply IsS53.drew | apply IsS53.set_0 | apply IsS53.set_1) | exact HI0.out)); (case side2 => repeat (first | (with_reducible first | exact HB.out | apply below_alloc | apply pw_below_drewN | apply below_drew1 | refine below_set ?_ (IsS53.ge HI0.out)) | exact HB.out)); rintro e w15 ⟨rfl, hi, hb, hk⟩; refine ⟨_, rfl, ?_⟩; have n0_ := Aside0.mk (KBe.trans (by repeat (first | (with_reducible first | exact HK.out | apply KBe.drewN | apply KBe.drew | apply KBe.alloc) | exact HK.out)) hk); have n1_ := Aside0.mk (hb); have n2_ := Aside0.mk (hi); clear HK; clear HB; clear HI0; have HK := n0_; have HB := n1_; have HI0 := n2_; clear n0_ n1_ n2_; (try clear hb); (try clear hb2); (try clear hk); (try clear hi)))
        go_step3
        refine ⟨rfl, hK_ _ _ ?_⟩
        go_roundg k1
        case measure => have := HK1.out; omega
        case rel => exact ⟨(wrap64 (x8_1 - 64)), (t104), (t105), (by first | rfl | (simp; done) | (simp only [i64_w, i32_w]; done) | (simp [*]; done) | (simp only [i64_w, i32_w]; first | rfl | (simp; done) | (simp [*]; done))), H', ⟨by have := HK1.out; omega⟩, ⟨by repeat (first | (with_reducible first | exact HI0.out | apply IsS53.alloc | apply IsS53.drewN | apply IsS53.drew | apply IsS53.set_0 | apply IsS53.set_1) | exact HI0.out)⟩, ⟨by repeat (first | (with_reducible first | exact HK.out | apply KBe.drewN | apply KBe.drew | apply KBe.alloc) | exact HK.out)⟩, ⟨by repeat (first | (with_reducible first | exact HB.out | apply below_alloc | apply pw_below_drewN | apply below_drew1 | refine below_set ?_ (IsS53.ge HI0.out)) | exact HB.out)⟩⟩
      · rw [if_neg c13] at H
        have c13b0 : decide (64 < x8_1) = false := decide_eq_false c13
        clear c13
        replace H := Option.bind_eq_some_iff.mp H
        obtain ⟨⟨t106, t107⟩, A160, H⟩ := H
        replace H : ((bits_Writer_Put.f t106 t107 1 1).bind fun bt108 => ((bits_Writer_Put.f bt108.1 bt108.2 t102 t101).bind fun bt110 => (some (0, bt110.1, bt110.2)))) = some (r1, r2, r3) := H
        have A16 := Aside0.mk A160
        clear A160
        replace H := Option.bind_eq_some_iff.mp H
        obtain ⟨⟨t108, t109⟩, A170, H⟩ := H
        replace H : ((bits_Writer_Put.f t108 t109 t102 t101).bind fun bt110 => (some (0, bt110.1, bt110.2))) = some (r1, r2, r3) := H
        have A17 := Aside0.mk A170
        clear A170
        replace H := Option.bind_eq_some_iff.mp H
        obtain ⟨⟨t110, t111⟩, A180, H⟩ := H
        replace H : (some (0, t110, t111)) = some (r1, r2, r3) := H
        have A18 := Aside0.mk A180
        clear A180
        simp only [Option.some.injEq, Prod.mk.injEq] at H
        obtain ⟨rfl, rfl, rfl⟩ := H
        go_wp2_with (first | ((with_reducible refine gate_callee (f := 34) rfl ?_); refine goesL_ (some 32) rfl rfl Try.func34 (by kernel_rfl) rfl #[.pointer (some ⟨g, 0, none⟩), .int .u64 0, .int .i64 x8_1] rfl (by (try simp only [List.map_toArray, List.map_cons, List.map_nil]); first | done | rfl | (simp only [List.length_drop, List.length_take]; rfl)) ?_; (with_reducible refine (bits_Writer_Put.calls g x1000_1 x1001_1 0 x8_1 t106 t107 w0 _ ?side1 ?side2 A16.out).mono ?_); (case side1 => repeat (first | (with_reducible first | exact HI0.out | apply IsS53.alloc | apply IsS53.drewN | apply IsS53.drew | apply IsS53.set_0 | apply IsS53.set_1) | exact HI0.out)); (case side2 => repeat (first | (with_reducible first | exact HB.out | apply below_alloc | apply pw_below_drewN | apply below_drew1 | refine below_set ?_ (IsS53.ge HI0.out)) | exact HB.out)); rintro e w19 ⟨rfl, hi, hb, hk⟩; refine ⟨_, rfl, ?_⟩; have n0_ := Aside0.mk (KBe.trans (by repeat (first | (with_reducible first | exact HK.out | apply KBe.drewN | apply KBe.drew | apply KBe.alloc) | exact HK.out)) hk); have n1_ := Aside0.mk (hb); have n2_ := Aside0.mk (hi); clear HK; clear HB; clear HI0; have HK := n0_; have HB := n1_; have HI0 := n2_; clear n0_ n1_ n2_; (try clear hb); (try clear hb2); (try clear hk); (try clear hi)) | ((with_reducible refine gate_callee (f := 34) rfl ?_); refine goesL_ (some 34) rfl rfl Try.func34 (by kernel_rfl) rfl #[.pointer (some ⟨g, 0, none⟩), .int .u64 1, .int .i64 1] rfl (by (try simp only [List.map_toArray, List.map_cons, List.map_nil]); first | done | rfl | (simp only [List.length_drop, List.length_take]; rfl)) ?_; (with_reducible refine (bits_Writer_Put.calls g t106 t107 1 1 t108 t109 w0 _ ?side1 ?side2 A17.out).mono ?_); (case side1 => repeat (first | (with_reducible first | exact HI0.out | apply IsS53.alloc | apply IsS53.drewN | apply IsS53.drew | apply IsS53.set_0 | apply IsS53.set_1) | exact HI0.out)); (case side2 => repeat (first | (with_reducible first | exact HB.out | apply below_alloc | apply pw_below_drewN | apply below_drew1 | refine below_set ?_ (IsS53.ge HI0.out)) | exact HB.out)); rintro e w20 ⟨rfl, hi, hb, hk⟩; refine ⟨_, rfl, ?_⟩; have n0_ := Aside0.mk (KBe.trans (by repeat (first | (with_reducible first | exact HK.out | apply KBe.drewN | apply KBe.drew | apply KBe.alloc) | exact HK.out)) hk); have n1_ := Aside0.mk (hb); have n2_ := Aside0.mk (hi); clear HK; clear HB; clear HI0; have HK := n0_; have HB := n1_; have HI0 := n2_; clear n0_ n1_ n2_; (try clear hb); (try clear hb2); (try clear hk); (try clear hi)) | ((with_reducible refine gate_callee (f := 34) rfl ?_); refine goesL_ (some 38) rfl rfl Try.func34 (by kernel_rfl) rfl #[.pointer (some ⟨g, 0, none⟩), .int .u64 t102, .int .i64 t101] rfl (by (try simp only [List.map_toArray, List.map_cons, List.map_nil]); first | done | rfl | (simp only [List.length_drop, List.length_take]; rfl)) ?_; (with_reducible refine (bits_Writer_Put.calls g t108 t109 t102 t101 t110 t111 w0 _ ?side1 ?side2 A18.out).mono ?_); (case side1 => repeat (first | (with_reducible first | exact HI0.out | apply IsS53.alloc | apply IsS53.drewN | apply IsS53.drew | apply IsS53.set_0 | apply IsS53.set_1) | exact HI0.out)); (case side2 => repeat (first | (with_reducible first | exact HB.out | apply below_alloc | apply pw_below_drewN | apply below_drew1 | refine below_set ?_ (IsS53.ge HI0.out)) | exact HB.out)); rintro e w21 ⟨rfl, hi, hb, hk⟩; refine ⟨_, rfl, ?_⟩; have n0_ := Aside0.mk (KBe.trans (by repeat (first | (with_reducible first | exact HK.out | apply KBe.drewN | apply KBe.drew | apply KBe.alloc) | exact HK.out)) hk); have n1_ := Aside0.mk (hb); have n2_ := Aside0.mk (hi); clear HK; clear HB; clear HI0; have HK := n0_; have HB := n1_; have HI0 := n2_; clear n0_ n1_ n2_; (try clear hb); (try clear hb2); (try clear hk); (try clear hi)))
        (try simp only [Exit.jump])
        go_ret
        exact ⟨by first | rfl | (simp [errW_none, errW_some] <;> rfl) | (simp only [← hji7]; first | rfl | (simp [errW_none, errW_some] <;> rfl)) | (simp [*, errW_none, errW_some] <;> rfl), by repeat (first | (with_reducible first | exact HI0.out | apply IsS53.alloc | apply IsS53.drewN | apply IsS53.drew | apply IsS53.set_0 | apply IsS53.set_1) | exact HI0.out), by repeat (first | (with_reducible first | exact HB.out | apply below_alloc | apply pw_below_drewN | apply below_drew1 | refine below_set ?_ (IsS53.ge HI0.out)) | exact HB.out), by repeat (first | (with_reducible first | exact HK.out | apply KBe.drewN | apply KBe.drew | apply KBe.alloc) | exact HK.out)⟩
  case first =>
    intro K_ hR_
    by_cases c6 : 0 ≤ t101
    · rw [if_pos c6] at H
      have c6b0 := eq_true c6
      have c6b1 : decide (0 ≤ t101) = true := decide_eq_true c6
      clear c6
      obtain ⟨ji7, hji7⟩ : ∃ j_ : Int, (shr .u64 t102 t101) = j_ := ⟨_, rfl⟩
      replace H : ((rice_Near.f a1).bind fun t103 => (if t103 = true then (if (wrap64 (ji7)) > 65535 then (some (7, s0_0, s0_1)) else (rice_Put.l0 k t101 t102 (wrap64 (ji7)) s0_0 s0_1)) else (some (6, s0_0, s0_1)))) = some (r1, r2, r3) := by first | (rw [hji7] at H; exact H) | (simp only [hji7] at H ⊢; exact H)
      (try rw [hji7] at A4)
      (try rw [hji7] at A5)
      have hji7_ : (t102 / 2 ^ min t101.toNat 64) = ji7 := hji7
      have hji7z : t101 ≤ 64 → (t102 / 2 ^ t101.toNat) = ji7 := shr_small hji7
      replace H := Option.bind_eq_some_iff.mp H
      obtain ⟨t103, A80, H⟩ := H
      replace H : (if t103 = true then (if (wrap64 (ji7)) > 65535 then (some (7, s0_0, s0_1)) else (rice_Put.l0 k t101 t102 (wrap64 (ji7)) s0_0 s0_1)) else (some (6, s0_0, s0_1))) = some (r1, r2, r3) := H
      have A8 := Aside0.mk A80
      clear A80
      by_cases c9 : t103 = true
      · subst c9
        have H1 : (if (wrap64 (ji7)) > 65535 then (some (7, s0_0, s0_1)) else (rice_Put.l0 k t101 t102 (wrap64 (ji7)) s0_0 s0_1)) = some (r1, r2, r3) := by rw [if_pos rfl] at H; exact H
        clear H
        have H := H1
        clear H1
        by_cases c10 : (wrap64 (ji7)) > 65535
        · rw [if_pos c10] at H
          have c10b0 : decide (65535 < (wrap64 (ji7))) = true := decide_eq_true c10
          clear c10
          simp only [Option.some.injEq, Prod.mk.injEq] at H
          obtain ⟨rfl, rfl, rfl⟩ := H
          go_wp2_with (first | ((with_reducible refine gate_callee (f := 31) rfl ?_); refine goesL_ (some 10) rfl rfl Try.func31 (by kernel_rfl) rfl #[.int .i64 a2] rfl (by (try simp only [List.map_toArray, List.map_cons, List.map_nil]); first | done | rfl | (simp only [List.length_drop, List.length_take]; rfl)) ?_; (with_reducible refine (rice_held.calls a2 t101 _ A4.out).mono ?_); rintro e w11 ⟨rfl, hb⟩; refine ⟨_, rfl, ?_⟩; have n0_ := Aside0.mk (IsS53.below (by repeat (first | (with_reducible first | exact HI0.out | apply IsS53.alloc | apply IsS53.drewN | apply IsS53.drew | apply IsS53.set_0 | apply IsS53.set_1) | exact HI0.out)) hb); have n1_ := Aside0.mk (KBe.below (by repeat (first | (with_reducible first | exact HK.out | apply KBe.drewN | apply KBe.drew | apply KBe.alloc) | exact HK.out)) hb); have n2_ := Aside0.mk (below_step (by repeat (first | (with_reducible first | exact HB.out | apply below_alloc | apply pw_below_drewN | apply below_drew1 | refine below_set ?_ (IsS53.ge HI0.out)) | exact HB.out)) hb); clear HI0; clear HK; clear HB; have HI0 := n0_; have HK := n1_; have HB := n2_; clear n0_ n1_ n2_; (try clear hb); (try clear hb2); (try clear hk); (try clear hi)) | ((with_reducible refine gate_callee (f := 32) rfl ?_); refine goesL_ (some 12) rfl rfl Try.func32 (by kernel_rfl) rfl #[.int .i64 a1] rfl (by (try simp only [List.map_toArray, List.map_cons, List.map_nil]); first | done | rfl | (simp only [List.length_drop, List.length_take]; rfl)) ?_; (with_reducible refine (rice_Fold.calls a1 t102 _ A5.out).mono ?_); rintro e w' ⟨rfl, ⟨nd, rfl⟩⟩; refine ⟨_, rfl, ?_⟩) | ((with_reducible refine gate_callee (f := 33) rfl ?_); refine goesL_ (some 19) rfl rfl Try.func33 (by kernel_rfl) rfl #[.int .i64 a1] rfl (by (try simp only [List.map_toArray, List.map_cons, List.map_nil]); first | done | rfl | (simp only [List.length_drop, List.length_take]; rfl)) ?_; (with_reducible refine (rice_Near.calls a1 true _ A8.out).mono ?_); rintro e w' ⟨rfl, ⟨nd, rfl⟩⟩; refine ⟨_, rfl, ?_⟩))
          (try simp only [Exit.jump])
          go_ret
          exact ⟨by first | rfl | (simp [errW_none, errW_some] <;> rfl) | (simp only [← hji7]; first | rfl | (simp [errW_none, errW_some] <;> rfl)) | (simp [*, errW_none, errW_some] <;> rfl), by repeat (first | (with_reducible first | exact HI0.out | apply IsS53.alloc | apply IsS53.drewN | apply IsS53.drew | apply IsS53.set_0 | apply IsS53.set_1) | exact HI0.out), by repeat (first | (with_reducible first | exact HB.out | apply below_alloc | apply pw_below_drewN | apply below_drew1 | refine below_set ?_ (IsS53.ge HI0.out)) | exact HB.out), by repeat (first | (with_reducible first | exact HK.out | apply KBe.drewN | apply KBe.drew | apply KBe.alloc) | exact HK.out)⟩
        · rw [if_neg c10] at H
          have c10b0 : decide (65535 < (wrap64 (ji7))) = false := decide_eq_false c10
          clear c10
          have H' := Aside0.mk H
          clear H
          go_wp2_with (first | ((with_reducible refine gate_callee (f := 31) rfl ?_); refine goesL_ (some 10) rfl rfl Try.func31 (by kernel_rfl) rfl #[.int .i64 a2] rfl (by (try simp only [List.map_toArray, List.map_cons, List.map_nil]); first | done | rfl | (simp only [List.length_drop, List.length_take]; rfl)) ?_; (with_reducible refine (rice_held.calls a2 t101 _ A4.out).mono ?_); rintro e w12 ⟨rfl, hb⟩; refine ⟨_, rfl, ?_⟩; have n0_ := Aside0.mk (IsS53.below (by repeat (first | (with_reducible first | exact HI0.out | apply IsS53.alloc | apply IsS53.drewN | apply IsS53.drew | apply IsS53.set_0 | apply IsS53.set_1) | exact HI0.out)) hb); have n1_ := Aside0.mk (KBe.below (by repeat (first | (with_reducible first | exact HK.out | apply KBe.drewN | apply KBe.drew | apply KBe.alloc) | exact HK.out)) hb); have n2_ := Aside0.mk (below_step (by repeat (first | (with_reducible first | exact HB.out | apply below_alloc | apply pw_below_drewN | apply below_drew1 | refine below_set ?_ (IsS53.ge HI0.out)) | exact HB.out)) hb); clear HI0; clear HK; clear HB; have HI0 := n0_; have HK := n1_; have HB := n2_; clear n0_ n1_ n2_; (try clear hb); (try clear hb2); (try clear hk); (try clear hi)) | ((with_reducible refine gate_callee (f := 32) rfl ?_); refine goesL_ (some 12) rfl rfl Try.func32 (by kernel_rfl) rfl #[.int .i64 a1] rfl (by (try simp only [List.map_toArray, List.map_cons, List.map_nil]); first | done | rfl | (simp only [List.length_drop, List.length_take]; rfl)) ?_; (with_reducible refine (rice_Fold.calls a1 t102 _ A5.out).mono ?_); rintro e w' ⟨rfl, ⟨nd, rfl⟩⟩; refine ⟨_, rfl, ?_⟩) | ((with_reducible refine gate_callee (f := 33) rfl ?_); refine goesL_ (some 19) rfl rfl Try.func33 (by kernel_rfl) rfl #[.int .i64 a1] rfl (by (try simp only [List.map_toArray, List.map_cons, List.map_nil]); first | done | rfl | (simp only [List.length_drop, List.length_take]; rfl)) ?_; (with_reducible refine (rice_Near.calls a1 true _ A8.out).mono ?_); rintro e w' ⟨rfl, ⟨nd, rfl⟩⟩; refine ⟨_, rfl, ?_⟩))
          go_wp2
          go_step3
          go_step
          go_step
          refine hR_ k _ _ ?_
          repeat apply Exists.intro
          refine ⟨?_, rfl⟩
          exact ⟨(wrap64 (ji7)), (s0_0), (s0_1), (by first | rfl | (simp; done) | (simp only [← hji7] <;> (first | rfl | simp)) | (simp [*]; done)), H', ⟨Nat.le_refl _⟩, ⟨by repeat (first | (with_reducible first | exact HI0.out | apply IsS53.alloc | apply IsS53.drewN | apply IsS53.drew | apply IsS53.set_0 | apply IsS53.set_1) | exact HI0.out)⟩, ⟨by repeat (first | (with_reducible first | exact HK.out | apply KBe.drewN | apply KBe.drew | apply KBe.alloc) | exact HK.out)⟩, ⟨by repeat (first | (with_reducible first | exact HB.out | apply below_alloc | apply pw_below_drewN | apply below_drew1 | refine below_set ?_ (IsS53.ge HI0.out)) | exact HB.out)⟩⟩
      · replace c9 := Bool.eq_false_iff.mpr c9
        subst c9
        have H1 : (some (6, s0_0, s0_1)) = some (r1, r2, r3) := by rw [if_neg (show ¬ (false = true) by decide)] at H; exact H
        clear H
        have H := H1
        clear H1
        simp only [Option.some.injEq, Prod.mk.injEq] at H
        obtain ⟨rfl, rfl, rfl⟩ := H
        go_wp2_with (first | ((with_reducible refine gate_callee (f := 31) rfl ?_); refine goesL_ (some 10) rfl rfl Try.func31 (by kernel_rfl) rfl #[.int .i64 a2] rfl (by (try simp only [List.map_toArray, List.map_cons, List.map_nil]); first | done | rfl | (simp only [List.length_drop, List.length_take]; rfl)) ?_; (with_reducible refine (rice_held.calls a2 t101 _ A4.out).mono ?_); rintro e w22 ⟨rfl, hb⟩; refine ⟨_, rfl, ?_⟩; have n0_ := Aside0.mk (IsS53.below (by repeat (first | (with_reducible first | exact HI0.out | apply IsS53.alloc | apply IsS53.drewN | apply IsS53.drew | apply IsS53.set_0 | apply IsS53.set_1) | exact HI0.out)) hb); have n1_ := Aside0.mk (KBe.below (by repeat (first | (with_reducible first | exact HK.out | apply KBe.drewN | apply KBe.drew | apply KBe.alloc) | exact HK.out)) hb); have n2_ := Aside0.mk (below_step (by repeat (first | (with_reducible first | exact HB.out | apply below_alloc | apply pw_below_drewN | apply below_drew1 | refine below_set ?_ (IsS53.ge HI0.out)) | exact HB.out)) hb); clear HI0; clear HK; clear HB; have HI0 := n0_; have HK := n1_; have HB := n2_; clear n0_ n1_ n2_; (try clear hb); (try clear hb2); (try clear hk); (try clear hi)) | ((with_reducible refine gate_callee (f := 32) rfl ?_); refine goesL_ (some 12) rfl rfl Try.func32 (by kernel_rfl) rfl #[.int .i64 a1] rfl (by (try simp only [List.map_toArray, List.map_cons, List.map_nil]); first | done | rfl | (simp only [List.length_drop, List.length_take]; rfl)) ?_; (with_reducible refine (rice_Fold.calls a1 t102 _ A5.out).mono ?_); rintro e w' ⟨rfl, ⟨nd, rfl⟩⟩; refine ⟨_, rfl, ?_⟩) | ((with_reducible refine gate_callee (f := 33) rfl ?_); refine goesL_ (some 19) rfl rfl Try.func33 (by kernel_rfl) rfl #[.int .i64 a1] rfl (by (try simp only [List.map_toArray, List.map_cons, List.map_nil]); first | done | rfl | (simp only [List.length_drop, List.length_take]; rfl)) ?_; (with_reducible refine (rice_Near.calls a1 false _ A8.out).mono ?_); rintro e w' ⟨rfl, ⟨nd, rfl⟩⟩; refine ⟨_, rfl, ?_⟩))
        (try simp only [Exit.jump])
        go_ret
        exact ⟨by first | rfl | (simp [errW_none, errW_some] <;> rfl) | (simp only [← hji7]; first | rfl | (simp [errW_none, errW_some] <;> rfl)) | (simp [*, errW_none, errW_some] <;> rfl), by repeat (first | (with_reducible first | exact HI0.out | apply IsS53.alloc | apply IsS53.drewN | apply IsS53.drew | apply IsS53.set_0 | apply IsS53.set_1) | exact HI0.out), by repeat (first | (with_reducible first | exact HB.out | apply below_alloc | apply pw_below_drewN | apply below_drew1 | refine below_set ?_ (IsS53.ge HI0.out)) | exact HB.out), by repeat (first | (with_reducible first | exact HK.out | apply KBe.drewN | apply KBe.drew | apply KBe.alloc) | exact HK.out)⟩
    · rw [if_neg c6] at H
      exact absurd H (by simp)

end Go.Proofs.Ytdologjfcmidlaa.PA
