/- Each Go function named below comes to what the plain Lean function of its name answers, wherever that answers (rounds enough, no panic, no row too long); texts by a program of this session by way of the kit's print.py, what that does not take by hand. Condition: what is read lies in memory as each theorem says. -/
import Derived.Test.YtcdnabonljmegaaPAx0
import Derived.Test.YtcdnabonljmegaaPAx2
import Derived.Test.YtcdnabonljmegaaPAx11
import Derived.Test.YtcdnabonljmegaaGoto
namespace Go.Proofs.Ytcdnabonljmegaa.PA
open Go.RowKit Go.Proofs.YtcdnabonljmegaaW.PrintWords Go.Proofs.YtcdnabonljmegaaW.PrintLast Go.Proofs.YtcdnabonljmegaaW.PrintMore
attribute [local go_sem] max2_int min2_int max_two min_two max_three min_three max_four min_four   -- for this text's walks alone
set_option linter.unusedVariables false
set_option linter.unusedSimpArgs false

/-! ### bits_Reader_Take: function 19 -/
mutual
def bits_Reader_Take.j0 : Nat → Int → Bool → List Int → Int → Int → Option (Int × Int × Int)
  | 0, _, _, _, _, _ => none
  | k + 1, x5, x22, x1000, x1001, x1002 => if x22 = true then (bits_Reader_Take.j1 k x5 x1000 x1001 2) else (bits_Reader_Take.j1 k x5 x1000 x1001 x1002)
def bits_Reader_Take.j1 : Nat → Int → List Int → Int → Int → Option (Int × Int × Int)
  | 0, _, _, _, _ => none
  | k + 1, x5, x1000, x1001, x1002 => if x1002 = 0 then (bits_Reader_Take.l0 k x5 0 x1000 x1001 x1002) else (some (0, x1001, x1002))
def bits_Reader_Take.l0 : Nat → Int → Int → List Int → Int → Int → Option (Int × Int × Int)
  | 0, _, _, _, _, _ => none
  | k + 1, x5, x6, x1000, x1001, x1002 => if x5 = 0 then (some (x6, x1001, x1002)) else (if 0 ≤ (wrap64 (Int.tdiv x1001 8)) then (if (wrap64 (Int.tdiv x1001 8)) < (x1000.length : Int) then (if 0 ≤ (wrap64 ((wrap64 (8 - (Int.tmod x1001 8))) - (mn (wrap64 (8 - (Int.tmod x1001 8))) x5))) then (if 0 ≤ (mn (wrap64 (8 - (Int.tmod x1001 8))) x5) then (bits_Reader_Take.l0 k (wrap64 (x5 - (mn (wrap64 (8 - (Int.tmod x1001 8))) x5))) (Go.bits .or .u64 (shl .u64 x6 (mn (wrap64 (8 - (Int.tmod x1001 8))) x5)) (IntKind.u64.wrap (Go.bits .and .u8 (shr .u8 (rd x1000 (wrap64 (Int.tdiv x1001 8))) (wrap64 ((wrap64 (8 - (Int.tmod x1001 8))) - (mn (wrap64 (8 - (Int.tmod x1001 8))) x5)))) (((shl .u8 1 (mn (wrap64 (8 - (Int.tmod x1001 8))) x5)) - 1) % 256)))) x1000 (wrap64 (x1001 + (mn (wrap64 (8 - (Int.tmod x1001 8))) x5))) x1002) else (none)) else (none)) else (none)) else (none))
end
def bits_Reader_Take.f (k : Nat) (s0_0 : List Int) (s0_1 : Int) (s0_2 : Int) (a1 : Int) : Option (Int × Int × Int) := (bits_held.f a1).bind fun t185 => (if s0_2 = 0 then ((bits_Reader_Left.f s0_0 s0_1 s0_2).bind fun bt186 => (bits_Reader_Take.j0 k t185 (decide (t185 > bt186.1)) s0_0 bt186.2.1 bt186.2.2)) else (bits_Reader_Take.j0 k t185 false s0_0 s0_1 s0_2))
theorem bits_Reader_Take.mono_l : ∀ k, (∀ y0 y1 y2 y3 y4, LeO (bits_Reader_Take.j0 k y0 y1 y2 y3 y4) (bits_Reader_Take.j0 (k + 1) y0 y1 y2 y3 y4)) ∧ (∀ y0 y1 y2 y3, LeO (bits_Reader_Take.j1 k y0 y1 y2 y3) (bits_Reader_Take.j1 (k + 1) y0 y1 y2 y3)) ∧ (∀ y0 y1 y2 y3 y4, LeO (bits_Reader_Take.l0 k y0 y1 y2 y3 y4) (bits_Reader_Take.l0 (k + 1) y0 y1 y2 y3 y4))
  | 0 => ⟨fun _ _ _ _ _ r h => by simp [bits_Reader_Take.j0] at h, fun _ _ _ _ r h => by simp [bits_Reader_Take.j1] at h, fun _ _ _ _ _ r h => by simp [bits_Reader_Take.l0] at h⟩
  | k + 1 => by
    obtain ⟨ih0, ih1, ih2⟩ := bits_Reader_Take.mono_l k
    refine ⟨?_, ?_, ?_⟩
    · intro y0 y1 y2 y3 y4
      unfold bits_Reader_Take.j0
      repeat' first
      | (with_reducible exact ih0 _ _ _ _ _)
      | (with_reducible exact ih1 _ _ _ _)
      | (with_reducible exact ih2 _ _ _ _ _)
      | (with_reducible exact LeO.refl _)
      | (with_reducible exact LeO.none _)
      | (with_reducible refine LeO.ite ?_ ?_)
      | (with_reducible refine LeO.bind ?_ (fun _ => ?_))
      | exact ih0 _ _ _ _ _
      | exact ih1 _ _ _ _
      | exact ih2 _ _ _ _ _
      | exact LeO.none _
      | refine LeO.ite ?_ ?_
      | refine LeO.bind ?_ (fun _ => ?_)
    · intro y0 y1 y2 y3
      unfold bits_Reader_Take.j1
      repeat' first
      | (with_reducible exact ih0 _ _ _ _ _)
      | (with_reducible exact ih1 _ _ _ _)
      | (with_reducible exact ih2 _ _ _ _ _)
      | (with_reducible exact LeO.refl _)
      | (with_reducible exact LeO.none _)
      | (with_reducible refine LeO.ite ?_ ?_)
      | (with_reducible refine LeO.bind ?_ (fun _ => ?_))
      | exact ih0 _ _ _ _ _
      | exact ih1 _ _ _ _
      | exact ih2 _ _ _ _ _
      | exact LeO.none _
      | refine LeO.ite ?_ ?_
      | refine LeO.bind ?_ (fun _ => ?_)
    · intro y0 y1 y2 y3 y4
      unfold bits_Reader_Take.l0
      repeat' first
      | (with_reducible exact ih0 _ _ _ _ _)
      | (with_reducible exact ih1 _ _ _ _)
      | (with_reducible exact ih2 _ _ _ _ _)
      | (with_reducible exact LeO.refl _)
      | (with_reducible exact LeO.none _)
      | (with_reducible refine LeO.ite ?_ ?_)
      | (with_reducible refine LeO.bind ?_ (fun _ => ?_))
      | exact ih0 _ _ _ _ _
      | exact ih1 _ _ _ _
      | exact ih2 _ _ _ _ _
      | exact LeO.none _
      | refine LeO.ite ?_ ?_
      | refine LeO.bind ?_ (fun _ => ?_)
theorem bits_Reader_Take.mono : ∀ a0 a1 a2 a3 k, LeO (bits_Reader_Take.f k a0 a1 a2 a3) (bits_Reader_Take.f (k + 1) a0 a1 a2 a3) := by
  intro a0 a1 a2 a3 k
  obtain ⟨ih0, ih1, ih2⟩ := bits_Reader_Take.mono_l k
  unfold bits_Reader_Take.f
  repeat' first
      | (with_reducible exact ih0 _ _ _ _ _)
      | (with_reducible exact ih1 _ _ _ _)
      | (with_reducible exact ih2 _ _ _ _ _)
      | (with_reducible exact LeO.refl _)
      | (with_reducible exact LeO.none _)
      | (with_reducible refine LeO.ite ?_ ?_)
      | (with_reducible refine LeO.bind ?_ (fun _ => ?_))
      | exact ih0 _ _ _ _ _
      | exact ih1 _ _ _ _
      | exact ih2 _ _ _ _ _
      | exact LeO.none _
      | refine LeO.ite ?_ ?_
      | refine LeO.bind ?_ (fun _ => ?_)
set_option maxHeartbeats 8000000 in
set_option maxRecDepth 100000 in
theorem bits_Reader_Take.calls (k : Nat) (g : Nat) (s0_0 : List Int) (s0_1 : Int) (s0_2 : Int) (a1 : Int) (r1 : Int) (r2 : Int) (r3 : Int) (w0 w : World) (hI : IsS57 w0 w g s0_0 s0_1 s0_2) (hB : Below w0.heap.size w0 w) (h : bits_Reader_Take.f k s0_0 s0_1 s0_2 a1 = some (r1, r2, r3)) :
    Calls Try.prog 19 #[.pointer (some ⟨g, 0, none⟩), .int .i64 a1] w fun e w' => e = .returned (.int .u64 r1) ∧ IsS57 w0 w' g s0_0 r2 r3 ∧ Below w0.heap.size w0 w' ∧ KeepBut w w' g none := by
  have HI0 := Aside0.mk hI
  have HK := Aside0.mk (KeepBut.refl w g none)
  have HL := Aside0.mk hB.size
  clear hI
  have HW0 := Aside0.mk hB.size
  have HB := Aside0.mk hB
  clear hB
  have H : ((bits_held.f a1).bind fun t185 => (if s0_2 = 0 then ((bits_Reader_Left.f s0_0 s0_1 s0_2).bind fun bt186 => (bits_Reader_Take.j0 k t185 (decide (t185 > bt186.1)) s0_0 bt186.2.1 bt186.2.2)) else (bits_Reader_Take.j0 k t185 false s0_0 s0_1 s0_2))) = some (r1, r2, r3) := h
  clear h
  replace H := Option.bind_eq_some_iff.mp H
  obtain ⟨t185, A30, H⟩ := H
  replace H : (if s0_2 = 0 then ((bits_Reader_Left.f s0_0 s0_1 s0_2).bind fun bt186 => (bits_Reader_Take.j0 k t185 (decide (t185 > bt186.1)) s0_0 bt186.2.1 bt186.2.2)) else (bits_Reader_Take.j0 k t185 false s0_0 s0_1 s0_2)) = some (r1, r2, r3) := H
  have A3 := Aside0.mk A30
  clear A30
  have HC4 := Aside0.mk H
  clear H
  go_enter Try.func19, Try.ntmps19
  go_wp2
  refine wp_scope_ghost_k 0 rfl (fun kq a_ w' => ∃ v1_ v2_ v3_ v4_ v5 v6 v7_ v8_ v9_ v10_ v11_ v12_ v13_ v14_ v15_ v16_ v17_ v18_ v19_ v20_ v21_ v22_ v23_ v24_ v25_ v26_ v27_ v28_ v29_ v30_ v31_ v32_ v33_ v34_ v35_ v36_ v37_ v38_ v39_ v40_ v41_ v42_ v43_ v44_ v45_ v46_ v47_ v48_ v49_ v50_ v51_ v52_ v53_ v54_ v55_ v56_ v57_ v58_ v59_ v60_ v61_ v62_ v63_ v64_ v65_ v66_ v67_ v68_ v69_ v70_ v71_ v72_ v73_ v74_ v75_ v76_ v77_ v78_ : Value, (∃ (x5_3 : Int) (x6_3 : Int) (x1001_3 : Int) (x1002_10 : Int), v5 = .int .i64 x5_3 ∧ v6 = .int .u64 x6_3 ∧ Aside0 (bits_Reader_Take.l0 kq x5_3 x6_3 s0_0 x1001_3 x1002_10 = some (r1, r2, r3)) ∧ Aside0 (kq ≤ kq) ∧ Aside0 (IsS57 w0 w' g s0_0 x1001_3 x1002_10) ∧ Aside0 (KeepBut w w' g none) ∧ Aside0 (Below w0.heap.size w0 w')) ∧ a_ = { tmps := #[.pointer (some ⟨g, 0, none⟩), v1_, v2_, v3_, v4_, v5, v6, v7_, v8_, v9_, v10_, v11_, v12_, v13_, v14_, v15_, v16_, v17_, v18_, v19_, v20_, v21_, v22_, v23_, v24_, v25_, v26_, v27_, v28_, v29_, v30_, v31_, v32_, v33_, v34_, v35_, v36_, v37_, v38_, v39_, v40_, v41_, v42_, v43_, v44_, v45_, v46_, v47_, v48_, v49_, v50_, v51_, v52_, v53_, v54_, v55_, v56_, v57_, v58_, v59_, v60_, v61_, v62_, v63_, v64_, v65_, v66_, v67_, v68_, v69_, v70_, v71_, v72_, v73_, v74_, v75_, v76_, v77_, v78_], defers := [] }) ?round ?first
  case round =>
    rintro gk a_ wr ⟨u1_, u2_, u3_, u4_, u5, u6, u7_, u8_, u9_, u10_, u11_, u12_, u13_, u14_, u15_, u16_, u17_, u18_, u19_, u20_, u21_, u22_, u23_, u24_, u25_, u26_, u27_, u28_, u29_, u30_, u31_, u32_, u33_, u34_, u35_, u36_, u37_, u38_, u39_, u40_, u41_, u42_, u43_, u44_, u45_, u46_, u47_, u48_, u49_, u50_, u51_, u52_, u53_, u54_, u55_, u56_, u57_, u58_, u59_, u60_, u61_, u62_, u63_, u64_, u65_, u66_, u67_, u68_, u69_, u70_, u71_, u72_, u73_, u74_, u75_, u76_, u77_, u78_, hrel, rfl⟩ J_ K_ hJ_ hK_
    try clear c1
    try clear p2
    try clear c6
    try clear c6b0
    try clear c6b1
    try clear c12
    try clear c14
    try clear c14b0
    try clear c14b1
    try clear hcz10_0
    try clear hcz10_1
    try clear hcz10_2
    try clear hcz13_0
    try clear hcz13_1
    try clear hcz13_2
    try clear hcz15_0
    try clear hcz15_1
    try clear hcz15_2
    try clear hcz8_0
    try clear hcz8_1
    try clear hcz8_2
    try clear hfz10_1
    try clear hfz10_2
    try clear hfz13_1
    try clear hfz13_2
    try clear hfz15_1
    try clear hfz15_2
    try clear hfz8_1
    try clear hfz8_2
    try clear p2
    obtain ⟨x5_3, x6_3, x1001_3, x1002_10, rfl, rfl, HA, HK3, HI0, HK, HB⟩ := hrel
    cases gk with
    | zero => exact absurd HA.out (by simp [bits_Reader_Take.l0])
    | succ k3 =>
      have H := HA.out
      clear HA
      simp only [bits_Reader_Take.l0] at H
      by_cases c16 : x5_3 = 0
      · rw [if_pos c16] at H
        have c16b0 : (x5_3 == 0) = true := beq_iff_eq.mpr c16
        have c16b1 : (x5_3 != 0) = false := bne_eq_false_iff_eq.mpr c16
        clear c16
        simp only [Option.some.injEq, Prod.mk.injEq] at H
        obtain ⟨rfl, rfl, rfl⟩ := H
        go_wp2
        repeat (go_quiet (fail); try go_wp2)
        (try simp only [Exit.jump])
        go_ret
        exact ⟨by first | rfl | (simp [errW_none, errW_some] <;> rfl) | (simp [*, errW_none, errW_some] <;> rfl), by repeat (first | (with_reducible first | exact HI0.out | apply IsS57.alloc | apply IsS57.drewN | apply IsS57.drew | apply IsS57.set_1 | apply IsS57.set_2) | exact HI0.out), by repeat (first | (with_reducible first | exact HB.out | apply below_alloc | apply pw_below_drewN | apply below_drew1 | refine below_set ?_ (IsS57.ge HI0.out)) | exact HB.out), by repeat (first | (with_reducible first | exact HK.out | apply KeepBut.set_ | apply keep_drewN | apply keep_drew | apply keep_alloc) | exact HK.out)⟩
      · rw [if_neg c16] at H
        have c16b0 : (x5_3 == 0) = false := beq_eq_false_iff_ne.mpr c16
        have c16b1 : (x5_3 != 0) = true := bne_iff_ne.mpr c16
        obtain ⟨ji17, hji17⟩ : ∃ j_ : Int, (mn (wrap64 (8 - (Int.tmod x1001_3 8))) x5_3) = j_ := ⟨_, rfl⟩
        replace H : (if 0 ≤ (wrap64 (Int.tdiv x1001_3 8)) then (if (wrap64 (Int.tdiv x1001_3 8)) < (s0_0.length : Int) then (if 0 ≤ (wrap64 ((wrap64 (8 - (Int.tmod x1001_3 8))) - (ji17))) then (if 0 ≤ (ji17) then (bits_Reader_Take.l0 k3 (wrap64 (x5_3 - (ji17))) (Go.bits .or .u64 (shl .u64 x6_3 (ji17)) (IntKind.u64.wrap (Go.bits .and .u8 (shr .u8 (rd s0_0 (wrap64 (Int.tdiv x1001_3 8))) (wrap64 ((wrap64 (8 - (Int.tmod x1001_3 8))) - (ji17)))) (((shl .u8 1 (ji17)) - 1) % 256)))) s0_0 (wrap64 (x1001_3 + (ji17))) x1002_10) else (none)) else (none)) else (none)) else (none)) = some (r1, r2, r3) := by first | (rw [hji17] at H; exact H) | (simp only [hji17] at H ⊢; exact H)
        have hji17_ : (if x5_3 < (wrap64 (8 - (Int.tmod x1001_3 8))) then x5_3 else (wrap64 (8 - (Int.tmod x1001_3 8)))) = ji17 := hji17
        obtain ⟨ji18, hji18⟩ : ∃ j_ : Int, (wrap64 (Int.tdiv x1001_3 8)) = j_ := ⟨_, rfl⟩
        replace H : (if 0 ≤ (ji18) then (if (ji18) < (s0_0.length : Int) then (if 0 ≤ (wrap64 ((wrap64 (8 - (Int.tmod x1001_3 8))) - (ji17))) then (if 0 ≤ (ji17) then (bits_Reader_Take.l0 k3 (wrap64 (x5_3 - (ji17))) (Go.bits .or .u64 (shl .u64 x6_3 (ji17)) (IntKind.u64.wrap (Go.bits .and .u8 (shr .u8 (rd s0_0 (ji18)) (wrap64 ((wrap64 (8 - (Int.tmod x1001_3 8))) - (ji17)))) (((shl .u8 1 (ji17)) - 1) % 256)))) s0_0 (wrap64 (x1001_3 + (ji17))) x1002_10) else (none)) else (none)) else (none)) else (none)) = some (r1, r2, r3) := by first | (rw [hji18] at H; exact H) | (simp only [hji18] at H ⊢; exact H)
        have hji18w : (IntKind.i64.wrap (Int.tdiv x1001_3 8)) = ji18 := (i64_w _).trans hji18
        by_cases c19 : 0 ≤ (ji18)
        · rw [if_pos c19] at H
          have c19b0 : decide (0 ≤ (ji18)) = true := decide_eq_true c19
          clear c19
          by_cases c20 : (ji18) < (s0_0.length : Int)
          · rw [if_pos c20] at H
            have c20b0 : decide ((ji18) < (s0_0.length : Int)) = true := decide_eq_true c20
            clear c20
            obtain ⟨ji21, hji21⟩ : ∃ j_ : Int, (wrap64 ((wrap64 (8 - (Int.tmod x1001_3 8))) - (ji17))) = j_ := ⟨_, rfl⟩
            replace H : (if 0 ≤ (ji21) then (if 0 ≤ (ji17) then (bits_Reader_Take.l0 k3 (wrap64 (x5_3 - (ji17))) (Go.bits .or .u64 (shl .u64 x6_3 (ji17)) (IntKind.u64.wrap (Go.bits .and .u8 (shr .u8 (rd s0_0 (ji18)) (ji21)) (((shl .u8 1 (ji17)) - 1) % 256)))) s0_0 (wrap64 (x1001_3 + (ji17))) x1002_10) else (none)) else (none)) = some (r1, r2, r3) := by first | (rw [hji21] at H; exact H) | (simp only [hji21] at H ⊢; exact H)
            have hji21w : (IntKind.i64.wrap ((wrap64 (8 - (Int.tmod x1001_3 8))) - (ji17))) = ji21 := (i64_w _).trans hji21
            by_cases c22 : 0 ≤ (ji21)
            · rw [if_pos c22] at H
              have c22b0 := eq_true c22
              have c22b1 : decide (0 ≤ (ji21)) = true := decide_eq_true c22
              clear c22
              obtain ⟨ji23, hji23⟩ : ∃ j_ : Int, (shr .u8 (rd s0_0 (ji18)) (ji21)) = j_ := ⟨_, rfl⟩
              replace H : (if 0 ≤ (ji17) then (bits_Reader_Take.l0 k3 (wrap64 (x5_3 - (ji17))) (Go.bits .or .u64 (shl .u64 x6_3 (ji17)) (IntKind.u64.wrap (Go.bits .and .u8 (ji23) (((shl .u8 1 (ji17)) - 1) % 256)))) s0_0 (wrap64 (x1001_3 + (ji17))) x1002_10) else (none)) = some (r1, r2, r3) := by first | (rw [hji23] at H; exact H) | (simp only [hji23] at H ⊢; exact H)
              have hji23_ : ((rd s0_0 (ji18)) / 2 ^ min (ji21).toNat 8) = ji23 := hji23
              have hji23z : (ji21) ≤ 8 → ((rd s0_0 (ji18)) / 2 ^ (ji21).toNat) = ji23 := shr_small hji23
              by_cases c24 : 0 ≤ (ji17)
              · rw [if_pos c24] at H
                have c24b0 := eq_true c24
                have c24b1 : decide (0 ≤ (ji17)) = true := decide_eq_true c24
                clear c24
                obtain ⟨ji25, hji25⟩ : ∃ j_ : Int, (shl .u8 1 (ji17)) = j_ := ⟨_, rfl⟩
                replace H : (bits_Reader_Take.l0 k3 (wrap64 (x5_3 - (ji17))) (Go.bits .or .u64 (shl .u64 x6_3 (ji17)) (IntKind.u64.wrap (Go.bits .and .u8 (ji23) (((ji25) - 1) % 256)))) s0_0 (wrap64 (x1001_3 + (ji17))) x1002_10) = some (r1, r2, r3) := by first | (rw [hji25] at H; exact H) | (simp only [hji25] at H ⊢; exact H)
                have hji25_ : (IntKind.u8.wrap (1 * 2 ^ min (ji17).toNat 8)) = ji25 := hji25
                have hji25z : (ji17) ≤ 8 → (IntKind.u8.wrap (1 * 2 ^ (ji17).toNat)) = ji25 := shl_small hji25
                have hji25u : (IntKind.u8.wrap (2 ^ min (ji17).toNat 8)) = ji25 := by have h_ := hji25_; rw [Int.one_mul] at h_; exact h_
                have hji25v : (ji17) ≤ 8 → (IntKind.u8.wrap (2 ^ (ji17).toNat)) = ji25 := fun hle_ => by have h_ := hji25z hle_; rw [Int.one_mul] at h_; exact h_
                have c26b0 := eq_true (of_decide_eq_true (by first | (with_reducible assumption) | assumption) : 0 ≤ (ji17))
                obtain ⟨ji27, hji27⟩ : ∃ j_ : Int, (shl .u64 x6_3 (ji17)) = j_ := ⟨_, rfl⟩
                replace H : (bits_Reader_Take.l0 k3 (wrap64 (x5_3 - (ji17))) (Go.bits .or .u64 (ji27) (IntKind.u64.wrap (Go.bits .and .u8 (ji23) (((ji25) - 1) % 256)))) s0_0 (wrap64 (x1001_3 + (ji17))) x1002_10) = some (r1, r2, r3) := by first | (rw [hji27] at H; exact H) | (simp only [hji27] at H ⊢; exact H)
                have hji27_ : (IntKind.u64.wrap (x6_3 * 2 ^ min (ji17).toNat 64)) = ji27 := hji27
                have hji27z : (ji17) ≤ 64 → (IntKind.u64.wrap (x6_3 * 2 ^ (ji17).toNat)) = ji27 := shl_small hji27
                have H' := Aside0.mk H
                clear H
                obtain ⟨ASz28_0, cSz28_0, HGz28, hgz28, HSz28_0⟩ := HI0.out
                have hcz28_0 := cellS57_0 HGz28
                have hcz28_1 := cellS57_1 HGz28
                have hcz28_2 := cellS57_2 HGz28
                have hfz28_1 := blk_frozen HGz28 1
                have hfz28_2 := blk_frozen HGz28 2
                clear HGz28 hgz28
                have p189 : 0 ≤ ((ji18) : Int) := of_decide_eq_true (by first | (with_reducible assumption) | assumption)
                have q189 : (ji18) < (s0_0.length : Int) := of_decide_eq_true (by first | (with_reducible assumption) | assumption)
                obtain ⟨ad189, e189, hx189_0⟩ := Kd.at_int (Kd.R_reads' HSz28_0).2.2 (ji18) p189 q189
                cases e189
                skip
                replace p189 := eq_true p189
                replace q189 := eq_true q189
                go_wp2
                repeat (go_quiet (fail); try go_wp2)
                go_step3
                refine ⟨rfl, hK_ _ _ ?_⟩
                go_roundg k3
                case measure => have := HK3.out; omega
                case rel => exact ⟨(wrap64 (x5_3 - (ji17))), (Go.bits .or .u64 (ji27) (IntKind.u64.wrap (Go.bits .and .u8 (ji23) (((ji25) - 1) % 256)))), (wrap64 (x1001_3 + (ji17))), (x1002_10), (by first | rfl | (simp; done) | (simp only [← hji17] <;> (first | rfl | simp)) | (simp [*]; done)), (by first | rfl | (simp; done) | (simp only [← hji23, ← hji25, ← hji27] <;> (first | rfl | simp)) | (simp [*]; done)), H', ⟨by have := HK3.out; omega⟩, ⟨by repeat (first | (with_reducible first | exact HI0.out | apply IsS57.alloc | apply IsS57.drewN | apply IsS57.drew | apply IsS57.set_1 | apply IsS57.set_2) | exact HI0.out)⟩, ⟨by repeat (first | (with_reducible first | exact HK.out | apply KeepBut.set_ | apply keep_drewN | apply keep_drew | apply keep_alloc) | exact HK.out)⟩, ⟨by repeat (first | (with_reducible first | exact HB.out | apply below_alloc | apply pw_below_drewN | apply below_drew1 | refine below_set ?_ (IsS57.ge HI0.out)) | exact HB.out)⟩⟩
              · rw [if_neg c24] at H
                exact absurd H (by simp)
            · rw [if_neg c22] at H
              exact absurd H (by simp)
          · rw [if_neg c20] at H
            exact absurd H (by simp)
        · rw [if_neg c19] at H
          exact absurd H (by simp)
  case first =>
    intro K_ hR_
    go_upto_region 2 with (first | (go_at_call 29; (with_reducible refine (bits_held.calls a1 t185 _ A3.out).mono ?_); rintro e w5 ⟨rfl, hb⟩; have n0_ := Aside0.mk (IsS57.below (by repeat (first | (with_reducible first | exact HI0.out | apply IsS57.alloc | apply IsS57.drewN | apply IsS57.drew | apply IsS57.set_1 | apply IsS57.set_2) | exact HI0.out)) hb); have n1_ := Aside0.mk (KeepBut.trans (by repeat (first | (with_reducible first | exact HK.out | apply KeepBut.set_ | apply keep_drewN | apply keep_drew | apply keep_alloc) | exact HK.out)) (KeepBut.of_below hb g none) (.inl rfl)); have n2_ := Aside0.mk (below_step (by repeat (first | (with_reducible first | exact HB.out | apply below_alloc | apply pw_below_drewN | apply below_drew1 | refine below_set ?_ (IsS57.ge HI0.out)) | exact HB.out)) hb); clear HI0; clear HK; clear HB; have HI0 := n0_; have HK := n1_; have HB := n2_; clear n0_ n1_ n2_; (try clear hb); (try clear hb2); (try clear hk); (try clear hi)))
    repeat (go_quiet (first | (go_at_call 29; (with_reducible refine (bits_held.calls a1 t185 _ A3.out).mono ?_); rintro e w5 ⟨rfl, hb⟩; have n0_ := Aside0.mk (IsS57.below (by repeat (first | (with_reducible first | exact HI0.out | apply IsS57.alloc | apply IsS57.drewN | apply IsS57.drew | apply IsS57.set_1 | apply IsS57.set_2) | exact HI0.out)) hb); have n1_ := Aside0.mk (KeepBut.trans (by repeat (first | (with_reducible first | exact HK.out | apply KeepBut.set_ | apply keep_drewN | apply keep_drew | apply keep_alloc) | exact HK.out)) (KeepBut.of_below hb g none) (.inl rfl)); have n2_ := Aside0.mk (below_step (by repeat (first | (with_reducible first | exact HB.out | apply below_alloc | apply pw_below_drewN | apply below_drew1 | refine below_set ?_ (IsS57.ge HI0.out)) | exact HB.out)) hb); clear HI0; clear HK; clear HB; have HI0 := n0_; have HK := n1_; have HB := n2_; clear n0_ n1_ n2_; (try clear hb); (try clear hb2); (try clear hk); (try clear hi))); go_upto_region 2 with (first | (go_at_call 29; (with_reducible refine (bits_held.calls a1 t185 _ A3.out).mono ?_); rintro e w5 ⟨rfl, hb⟩; have n0_ := Aside0.mk (IsS57.below (by repeat (first | (with_reducible first | exact HI0.out | apply IsS57.alloc | apply IsS57.drewN | apply IsS57.drew | apply IsS57.set_1 | apply IsS57.set_2) | exact HI0.out)) hb); have n1_ := Aside0.mk (KeepBut.trans (by repeat (first | (with_reducible first | exact HK.out | apply KeepBut.set_ | apply keep_drewN | apply keep_drew | apply keep_alloc) | exact HK.out)) (KeepBut.of_below hb g none) (.inl rfl)); have n2_ := Aside0.mk (below_step (by repeat (first | (with_reducible first | exact HB.out | apply below_alloc | apply pw_below_drewN | apply below_drew1 | refine below_set ?_ (IsS57.ge HI0.out)) | exact HB.out)) hb); clear HI0; clear HK; clear HB; have HI0 := n0_; have HK := n1_; have HB := n2_; clear n0_ n1_ n2_; (try clear hb); (try clear hb2); (try clear hk); (try clear hi))))
    (try simp only [Act.put, List.setIfInBounds_toArray, List.set_cons_zero, List.set_cons_succ])
    go_cut [22] (fun v22 wc => ∃ (kq : Nat) (x22_3 : Bool) (x1001_3 : Int) (x1002_3 : Int), v22 = .bool x22_3 ∧ Aside0 (bits_Reader_Take.j0 kq t185 x22_3 s0_0 x1001_3 x1002_3 = some (r1, r2, r3)) ∧ Aside0 (kq ≤ k) ∧ Aside0 (IsS57 w0 wc g s0_0 x1001_3 x1002_3) ∧ Aside0 (KeepBut w wc g none) ∧ Aside0 (Below w0.heap.size w0 wc))
    case first =>
      have H := HC4.out
      clear HC4
      by_cases c6 : s0_2 = 0
      · rw [if_pos c6] at H
        have c6b0 : (s0_2 == 0) = true := beq_iff_eq.mpr c6
        have c6b1 : (s0_2 != 0) = false := bne_eq_false_iff_eq.mpr c6
        clear c6
        (first | rw [c6b0] | (simp only [i64_w, i32_w]; rw [c6b0]) | skip)
        replace H := Option.bind_eq_some_iff.mp H
        obtain ⟨⟨t186, t187, t188⟩, A70, H⟩ := H
        replace H : (bits_Reader_Take.j0 k t185 (decide (t185 > t186)) s0_0 t187 t188) = some (r1, r2, r3) := H
        have A7 := Aside0.mk A70
        clear A70
        have H' := Aside0.mk H
        clear H
        obtain ⟨ASz8_0, cSz8_0, HGz8, hgz8, HSz8_0⟩ := HI0.out
        have hcz8_0 := cellS57_0 HGz8
        have hcz8_1 := cellS57_1 HGz8
        have hcz8_2 := cellS57_2 HGz8
        have hfz8_1 := blk_frozen HGz8 1
        have hfz8_2 := blk_frozen HGz8 2
        clear HGz8 hgz8
        go_wp2_with (first | (go_at_call 22; (with_reducible refine (bits_Reader_Left.calls g s0_0 s0_1 s0_2 t186 t187 t188 w0 _ ?side1 ?side2 A7.out).mono ?_); (case side1 => repeat (first | (with_reducible first | exact HI0.out | apply IsS57.alloc | apply IsS57.drewN | apply IsS57.drew | apply IsS57.set_1 | apply IsS57.set_2) | exact HI0.out)); (case side2 => repeat (first | (with_reducible first | exact HB.out | apply below_alloc | apply pw_below_drewN | apply below_drew1 | refine below_set ?_ (IsS57.ge HI0.out)) | exact HB.out)); rintro e w9 ⟨rfl, hi, hb, hk⟩; have n0_ := Aside0.mk (KeepBut.trans (by repeat (first | (with_reducible first | exact HK.out | apply KeepBut.set_ | apply keep_drewN | apply keep_drew | apply keep_alloc) | exact HK.out)) hk (.inl rfl)); have n1_ := Aside0.mk (hb); have n2_ := Aside0.mk (hi); clear HK; clear HB; clear HI0; have HK := n0_; have HB := n1_; have HI0 := n2_; clear n0_ n1_ n2_; (try clear hb); (try clear hb2); (try clear hk); (try clear hi)))
        repeat (go_quiet (first | (go_at_call 22; (with_reducible refine (bits_Reader_Left.calls g s0_0 s0_1 s0_2 t186 t187 t188 w0 _ ?side1 ?side2 A7.out).mono ?_); (case side1 => repeat (first | (with_reducible first | exact HI0.out | apply IsS57.alloc | apply IsS57.drewN | apply IsS57.drew | apply IsS57.set_1 | apply IsS57.set_2) | exact HI0.out)); (case side2 => repeat (first | (with_reducible first | exact HB.out | apply below_alloc | apply pw_below_drewN | apply below_drew1 | refine below_set ?_ (IsS57.ge HI0.out)) | exact HB.out)); rintro e w9 ⟨rfl, hi, hb, hk⟩; have n0_ := Aside0.mk (KeepBut.trans (by repeat (first | (with_reducible first | exact HK.out | apply KeepBut.set_ | apply keep_drewN | apply keep_drew | apply keep_alloc) | exact HK.out)) hk (.inl rfl)); have n1_ := Aside0.mk (hb); have n2_ := Aside0.mk (hi); clear HK; clear HB; clear HI0; have HK := n0_; have HB := n1_; have HI0 := n2_; clear n0_ n1_ n2_; (try clear hb); (try clear hb2); (try clear hk); (try clear hi))); try go_wp2_with (first | (go_at_call 22; (with_reducible refine (bits_Reader_Left.calls g s0_0 s0_1 s0_2 t186 t187 t188 w0 _ ?side1 ?side2 A7.out).mono ?_); (case side1 => repeat (first | (with_reducible first | exact HI0.out | apply IsS57.alloc | apply IsS57.drewN | apply IsS57.drew | apply IsS57.set_1 | apply IsS57.set_2) | exact HI0.out)); (case side2 => repeat (first | (with_reducible first | exact HB.out | apply below_alloc | apply pw_below_drewN | apply below_drew1 | refine below_set ?_ (IsS57.ge HI0.out)) | exact HB.out)); rintro e w9 ⟨rfl, hi, hb, hk⟩; have n0_ := Aside0.mk (KeepBut.trans (by repeat (first | (with_reducible first | exact HK.out | apply KeepBut.set_ | apply keep_drewN | apply keep_drew | apply keep_alloc) | exact HK.out)) hk (.inl rfl)); have n1_ := Aside0.mk (hb); have n2_ := Aside0.mk (hi); clear HK; clear HB; clear HI0; have HK := n0_; have HB := n1_; have HI0 := n2_; clear n0_ n1_ n2_; (try clear hb); (try clear hb2); (try clear hk); (try clear hi))))
        go_meet
        case rel => exact ⟨_, (decide (t185 > t186)), (t187), (t188), (by first | rfl | (simp; done) | (simp only [i64_w, i32_w]; done) | (simp [*]; done) | (simp only [i64_w, i32_w]; first | rfl | (simp; done) | (simp [*]; done))), H', ⟨by first | omega | exact Nat.le_refl _⟩, ⟨by repeat (first | (with_reducible first | exact HI0.out | apply IsS57.alloc | apply IsS57.drewN | apply IsS57.drew | apply IsS57.set_1 | apply IsS57.set_2) | exact HI0.out)⟩, ⟨by repeat (first | (with_reducible first | exact HK.out | apply KeepBut.set_ | apply keep_drewN | apply keep_drew | apply keep_alloc) | exact HK.out)⟩, ⟨by repeat (first | (with_reducible first | exact HB.out | apply below_alloc | apply pw_below_drewN | apply below_drew1 | refine below_set ?_ (IsS57.ge HI0.out)) | exact HB.out)⟩⟩
      · rw [if_neg c6] at H
        have c6b0 : (s0_2 == 0) = false := beq_eq_false_iff_ne.mpr c6
        have c6b1 : (s0_2 != 0) = true := bne_iff_ne.mpr c6
        (first | rw [c6b0] | (simp only [i64_w, i32_w]; rw [c6b0]) | skip)
        have H' := Aside0.mk H
        clear H
        obtain ⟨ASz10_0, cSz10_0, HGz10, hgz10, HSz10_0⟩ := HI0.out
        have hcz10_0 := cellS57_0 HGz10
        have hcz10_1 := cellS57_1 HGz10
        have hcz10_2 := cellS57_2 HGz10
        have hfz10_1 := blk_frozen HGz10 1
        have hfz10_2 := blk_frozen HGz10 2
        clear HGz10 hgz10
        go_wp2
        repeat (go_quiet (fail); try go_wp2)
        go_meet
        case rel => exact ⟨_, (false), (s0_1), (s0_2), (by first | rfl | (simp; done) | (simp only [i64_w, i32_w]; done) | (simp [*]; done) | (simp only [i64_w, i32_w]; first | rfl | (simp; done) | (simp [*]; done))), H', ⟨by first | omega | exact Nat.le_refl _⟩, ⟨by repeat (first | (with_reducible first | exact HI0.out | apply IsS57.alloc | apply IsS57.drewN | apply IsS57.drew | apply IsS57.set_1 | apply IsS57.set_2) | exact HI0.out)⟩, ⟨by repeat (first | (with_reducible first | exact HK.out | apply KeepBut.set_ | apply keep_drewN | apply keep_drew | apply keep_alloc) | exact HK.out)⟩, ⟨by repeat (first | (with_reducible first | exact HB.out | apply below_alloc | apply pw_below_drewN | apply below_drew1 | refine below_set ?_ (IsS57.ge HI0.out)) | exact HB.out)⟩⟩
    case rest =>
      clear HC4
      try clear c1
      try clear p2
      try clear c6
      try clear c6b0
      try clear c6b1
      try clear hcz10_0
      try clear hcz10_1
      try clear hcz10_2
      try clear hcz8_0
      try clear hcz8_1
      try clear hcz8_2
      try clear hfz10_1
      try clear hfz10_2
      try clear hfz8_1
      try clear hfz8_2
      obtain ⟨kq, x22_3, x1001_3, x1002_3, rfl, HA, HJ3, HI0, HK, HB⟩ := hcut
      cases kq with
      | zero => exact absurd HA.out (by simp [bits_Reader_Take.j0])
      | succ kj3 =>
        have H := HA.out
        clear HA
        simp only [bits_Reader_Take.j0] at H
        have HC11 := Aside0.mk H
        clear H
        go_upto_if 22 with (fail)
        repeat (go_quiet (fail); go_upto_if 22 with (fail))
        go_cut [] (fun wc => ∃ (kq : Nat) (x1002_10 : Int), Aside0 (bits_Reader_Take.j1 kq t185 s0_0 x1001_3 x1002_10 = some (r1, r2, r3)) ∧ Aside0 (kq ≤ kj3) ∧ Aside0 (IsS57 w0 wc g s0_0 x1001_3 x1002_10) ∧ Aside0 (KeepBut w wc g none) ∧ Aside0 (Below w0.heap.size w0 wc))
        case first =>
          have H := HC11.out
          clear HC11
          by_cases c12 : x22_3 = true
          · subst c12
            have H1 : (bits_Reader_Take.j1 kj3 t185 s0_0 x1001_3 2) = some (r1, r2, r3) := by rw [if_pos rfl] at H; exact H
            clear H
            have H := H1
            clear H1
            have H' := Aside0.mk H
            clear H
            obtain ⟨ASz13_0, cSz13_0, HGz13, hgz13, HSz13_0⟩ := HI0.out
            have hcz13_0 := cellS57_0 HGz13
            have hcz13_1 := cellS57_1 HGz13
            have hcz13_2 := cellS57_2 HGz13
            have hfz13_1 := blk_frozen HGz13 1
            have hfz13_2 := blk_frozen HGz13 2
            clear HGz13 hgz13
            go_wp2
            repeat (go_quiet (fail); try go_wp2)
            go_meet
            case rel => exact ⟨_, (2), H', ⟨by have := HJ3.out; first | omega | exact Nat.le_refl _⟩, ⟨by repeat (first | (with_reducible first | exact HI0.out | apply IsS57.alloc | apply IsS57.drewN | apply IsS57.drew | apply IsS57.set_1 | apply IsS57.set_2) | exact HI0.out)⟩, ⟨by repeat (first | (with_reducible first | exact HK.out | apply KeepBut.set_ | apply keep_drewN | apply keep_drew | apply keep_alloc) | exact HK.out)⟩, ⟨by repeat (first | (with_reducible first | exact HB.out | apply below_alloc | apply pw_below_drewN | apply below_drew1 | refine below_set ?_ (IsS57.ge HI0.out)) | exact HB.out)⟩⟩
          · replace c12 := Bool.eq_false_iff.mpr c12
            subst c12
            have H1 : (bits_Reader_Take.j1 kj3 t185 s0_0 x1001_3 x1002_3) = some (r1, r2, r3) := by rw [if_neg (show ¬ (false = true) by decide)] at H; exact H
            clear H
            have H := H1
            clear H1
            have H' := Aside0.mk H
            clear H
            go_wp2
            repeat (go_quiet (fail); try go_wp2)
            go_meet
            case rel => exact ⟨_, (x1002_3), H', ⟨by have := HJ3.out; first | omega | exact Nat.le_refl _⟩, ⟨by repeat (first | (with_reducible first | exact HI0.out | apply IsS57.alloc | apply IsS57.drewN | apply IsS57.drew | apply IsS57.set_1 | apply IsS57.set_2) | exact HI0.out)⟩, ⟨by repeat (first | (with_reducible first | exact HK.out | apply KeepBut.set_ | apply keep_drewN | apply keep_drew | apply keep_alloc) | exact HK.out)⟩, ⟨by repeat (first | (with_reducible first | exact HB.out | apply below_alloc | apply pw_below_drewN | apply below_drew1 | refine below_set ?_ (IsS57.ge HI0.out)) | exact HB.out)⟩⟩
        case rest =>
          clear HC11
          try clear c1
          try clear p2
          try clear c6
          try clear c6b0
          try clear c6b1
          try clear c12
          try clear hcz10_0
          try clear hcz10_1
          try clear hcz10_2
          try clear hcz13_0
          try clear hcz13_1
          try clear hcz13_2
          try clear hcz8_0
          try clear hcz8_1
          try clear hcz8_2
          try clear hfz10_1
          try clear hfz10_2
          try clear hfz13_1
          try clear hfz13_2
          try clear hfz8_1
          try clear hfz8_2
          try clear p2
          obtain ⟨kq, x1002_10, HA, HJ10, HI0, HK, HB⟩ := hcut
          cases kq with
          | zero => exact absurd HA.out (by simp [bits_Reader_Take.j1])
          | succ kj10 =>
            have H := HA.out
            clear HA
            simp only [bits_Reader_Take.j1] at H
            by_cases c14 : x1002_10 = 0
            · rw [if_pos c14] at H
              have c14b0 : (x1002_10 == 0) = true := beq_iff_eq.mpr c14
              have c14b1 : (x1002_10 != 0) = false := bne_eq_false_iff_eq.mpr c14
              clear c14
              have H' := Aside0.mk H
              clear H
              obtain ⟨ASz15_0, cSz15_0, HGz15, hgz15, HSz15_0⟩ := HI0.out
              have hcz15_0 := cellS57_0 HGz15
              have hcz15_1 := cellS57_1 HGz15
              have hcz15_2 := cellS57_2 HGz15
              have hfz15_1 := blk_frozen HGz15 1
              have hfz15_2 := blk_frozen HGz15 2
              clear HGz15 hgz15
              go_wp2
              repeat (go_quiet (fail); try go_wp2)
              go_wp2
              go_step3
              go_step
              go_step
              refine hR_ kj10 _ _ ?_
              repeat apply Exists.intro
              refine ⟨?_, rfl⟩
              exact ⟨(t185), (0), (x1001_3), (x1002_10), (by first | rfl | (simp; done) | (simp only [i64_w, i32_w]; done) | (simp [*]; done) | (simp only [i64_w, i32_w]; first | rfl | (simp; done) | (simp [*]; done))), (by first | rfl | (simp; done) | (simp only [i64_w, i32_w]; done) | (simp [*]; done) | (simp only [i64_w, i32_w]; first | rfl | (simp; done) | (simp [*]; done))), H', ⟨Nat.le_refl _⟩, ⟨by repeat (first | (with_reducible first | exact HI0.out | apply IsS57.alloc | apply IsS57.drewN | apply IsS57.drew | apply IsS57.set_1 | apply IsS57.set_2) | exact HI0.out)⟩, ⟨by repeat (first | (with_reducible first | exact HK.out | apply KeepBut.set_ | apply keep_drewN | apply keep_drew | apply keep_alloc) | exact HK.out)⟩, ⟨by repeat (first | (with_reducible first | exact HB.out | apply below_alloc | apply pw_below_drewN | apply below_drew1 | refine below_set ?_ (IsS57.ge HI0.out)) | exact HB.out)⟩⟩
            · rw [if_neg c14] at H
              have c14b0 : (x1002_10 == 0) = false := beq_eq_false_iff_ne.mpr c14
              have c14b1 : (x1002_10 != 0) = true := bne_iff_ne.mpr c14
              simp only [Option.some.injEq, Prod.mk.injEq] at H
              obtain ⟨rfl, rfl, rfl⟩ := H
              obtain ⟨ASz29_0, cSz29_0, HGz29, hgz29, HSz29_0⟩ := HI0.out
              have hcz29_0 := cellS57_0 HGz29
              have hcz29_1 := cellS57_1 HGz29
              have hcz29_2 := cellS57_2 HGz29
              have hfz29_1 := blk_frozen HGz29 1
              have hfz29_2 := blk_frozen HGz29 2
              clear HGz29 hgz29
              go_wp2
              repeat (go_quiet (fail); try go_wp2)
              (try simp only [Exit.jump])
              go_ret
              exact ⟨by first | rfl | (simp [errW_none, errW_some] <;> rfl) | (simp [*, errW_none, errW_some] <;> rfl), by repeat (first | (with_reducible first | exact HI0.out | apply IsS57.alloc | apply IsS57.drewN | apply IsS57.drew | apply IsS57.set_1 | apply IsS57.set_2) | exact HI0.out), by repeat (first | (with_reducible first | exact HB.out | apply below_alloc | apply pw_below_drewN | apply below_drew1 | refine below_set ?_ (IsS57.ge HI0.out)) | exact HB.out), by repeat (first | (with_reducible first | exact HK.out | apply KeepBut.set_ | apply keep_drewN | apply keep_drew | apply keep_alloc) | exact HK.out)⟩

end Go.Proofs.Ytcdnabonljmegaa.PA
