/- Each Go function named below comes to what the plain Lean function of its name answers, wherever that answers (rounds enough, no panic, no row too long); texts by a program of this session by way of the kit's print.py, what that does not take by hand. Condition: what is read lies in memory as each theorem says. -/
import Derived.Test.YtcdnabonljmegaaPAx0
import Derived.Test.YtcdnabonljmegaaPAx6
import Derived.Test.YtcdnabonljmegaaPAx11
import Derived.Test.YtcdnabonljmegaaPAx12
import Derived.Test.YtcdnabonljmegaaPAx14
import Derived.Test.YtcdnabonljmegaaPAx16
import Derived.Test.YtcdnabonljmegaaPAx18
import Derived.Test.YtcdnabonljmegaaPAx20
import Derived.Test.YtcdnabonljmegaaPAx21
import Derived.Test.YtcdnabonljmegaaPAx22
import Derived.Test.YtcdnabonljmegaaPAx23
namespace Go.Proofs.Ytcdnabonljmegaa.PA
open Go.RowKit Go.Proofs.YtcdnabonljmegaaW.PrintWords Go.Proofs.YtcdnabonljmegaaW.PrintLast Go.Proofs.YtcdnabonljmegaaW.PrintMore
attribute [local go_sem] max2_int min2_int max_two min_two max_three min_three max_four min_four   -- for this text's walks alone
set_option linter.unusedVariables false
set_option linter.unusedSimpArgs false

/-! ### serinettelaw01_BitsTake: function 8 -/
/-- What only reads leaves the world but for draws (contracts for a region that draws its order). -/
theorem bits_Reader_Left.same {a : List Int} {b c r x y : Int} (h : bits_Reader_Left.f a b c = some (r, x, y)) : b = x ∧ c = y := by
  simp only [bits_Reader_Left.f, Option.some.injEq, Prod.mk.injEq] at h; exact ⟨h.2.1, h.2.2⟩
theorem bits_Reader_At.same {a : List Int} {b c r x y : Int} (h : bits_Reader_At.f a b c = some (r, x, y)) : b = x ∧ c = y := by
  simp only [bits_Reader_At.f, Option.some.injEq, Prod.mk.injEq] at h; exact ⟨h.2.1, h.2.2⟩
theorem bits_Reader_Fail.same {a : List Int} {b c r x y : Int} (h : bits_Reader_Fail.f a b c = some (r, x, y)) : b = x ∧ c = y := by
  simp only [bits_Reader_Fail.f, Option.some.injEq, Prod.mk.injEq] at h; exact ⟨h.2.1, h.2.2⟩
theorem bits_Reader_End.same {a : List Int} {b c r x y : Int} (h : bits_Reader_End.f a b c = some (r, x, y)) : b = x ∧ c = y := by
  unfold bits_Reader_End.f at h
  split at h
  · obtain ⟨⟨u, v, z⟩, h1, h⟩ := Option.bind_eq_some_iff.mp h
    obtain ⟨rfl, rfl⟩ := bits_Reader_Left.same h1
    clear h1
    split at h <;> (simp only [Option.some.injEq, Prod.mk.injEq] at h; exact ⟨h.2.1, h.2.2⟩)
  · simp only [Option.some.injEq, Prod.mk.injEq] at h; exact ⟨h.2.1, h.2.2⟩
theorem serinetteref01_Reader_End.same {a : List Bool} {b c r x y : Int} (h : serinetteref01_Reader_End.f a b c = some (r, x, y)) : b = x ∧ c = y := by
  simp only [serinetteref01_Reader_End.f] at h
  split at h
  · split at h <;> (simp only [Option.some.injEq, Prod.mk.injEq] at h; exact ⟨h.2.1, h.2.2⟩)
  · simp only [Option.some.injEq, Prod.mk.injEq] at h; exact ⟨h.2.1, h.2.2⟩
theorem serinetteshadow_LenL.same {a : List Bool} {b c r x y : Int} (h : serinetteshadow_LenL.f a b c = some (r, x, y)) : (a.length : Int) = r ∧ b = x ∧ c = y := by
  simp only [serinetteshadow_LenL.f, Option.some.injEq, Prod.mk.injEq] at h; exact h
theorem serinetteshadow_AtK.same {a : List Bool} {b c r x y : Int} (h : serinetteshadow_AtK.f a b c = some (r, x, y)) : b = r ∧ b = x ∧ c = y := by
  simp only [serinetteshadow_AtK.f, Option.some.injEq, Prod.mk.injEq] at h; exact h
theorem serinetteshadow_ErrE.same {a : List Bool} {b c r x y : Int} (h : serinetteshadow_ErrE.f a b c = some (r, x, y)) : c = r ∧ b = x ∧ c = y := by
  simp only [serinetteshadow_ErrE.f, Option.some.injEq, Prod.mk.injEq] at h; exact h
theorem serinetteshadow_NewReader.same {a x : List Bool} {y z : Int} (h : serinetteshadow_NewReader.f a = some (x, y, z)) : x = a ∧ y = 0 ∧ z = 0 := by
  simp only [serinetteshadow_NewReader.f, Option.some.injEq, Prod.mk.injEq] at h; exact ⟨h.1.symm, h.2.1.symm, h.2.2.symm⟩
set_option maxHeartbeats 8000000 in
set_option maxRecDepth 100000 in
theorem bits_Reader_Left.quiet (g : Nat) (s0_0 : List Int) (s0_1 s0_2 r1 r2 r3 : Int) (w0 w : World) (hI : IsS57 w0 w g s0_0 s0_1 s0_2) (h : bits_Reader_Left.f s0_0 s0_1 s0_2 = some (r1, r2, r3)) :
    Calls Try.prog 22 #[.pointer (some ⟨g, 0, none⟩)] w fun e w' => e = .returned (.int .i64 r1) ∧ ∃ m, w' = w.drewN m := by
  simp only [bits_Reader_Left.f, Option.some.injEq, Prod.mk.injEq] at h
  obtain ⟨rfl, rfl, rfl⟩ := h
  obtain ⟨ASq_0, cSq_0, HGq, hgq, HSq_0⟩ := hI
  have hcq_0 := cellS57_0 HGq
  have hcq_1 := cellS57_1 HGq
  have hcq_2 := cellS57_2 HGq
  clear HGq hgq
  go_enter Try.func22, Try.ntmps22
  go_wp2
  repeat (go_quiet (fail); try go_wp2)
  go_ret
  exact ⟨by first | rfl | (simp; done) | (simp [*]; done), by first | exact ⟨0, rfl⟩ | exact ⟨_, rfl⟩ | (simp only [World.drewN_drewN]; exact ⟨_, rfl⟩)⟩
set_option maxHeartbeats 8000000 in
set_option maxRecDepth 100000 in
theorem bits_Reader_At.quiet (g : Nat) (s0_0 : List Int) (s0_1 s0_2 r1 r2 r3 : Int) (w0 w : World) (hI : IsS57 w0 w g s0_0 s0_1 s0_2) (h : bits_Reader_At.f s0_0 s0_1 s0_2 = some (r1, r2, r3)) :
    Calls Try.prog 20 #[.pointer (some ⟨g, 0, none⟩)] w fun e w' => e = .returned (.int .i64 r1) ∧ ∃ m, w' = w.drewN m := by
  simp only [bits_Reader_At.f, Option.some.injEq, Prod.mk.injEq] at h
  obtain ⟨rfl, rfl, rfl⟩ := h
  obtain ⟨ASq_0, cSq_0, HGq, hgq, HSq_0⟩ := hI
  have hcq_0 := cellS57_0 HGq
  have hcq_1 := cellS57_1 HGq
  have hcq_2 := cellS57_2 HGq
  clear HGq hgq
  go_enter Try.func20, Try.ntmps20
  go_wp2
  repeat (go_quiet (fail); try go_wp2)
  go_ret
  exact ⟨by first | rfl | (simp; done) | (simp [*]; done), by first | exact ⟨0, rfl⟩ | exact ⟨_, rfl⟩ | (simp only [World.drewN_drewN]; exact ⟨_, rfl⟩)⟩
set_option maxHeartbeats 8000000 in
set_option maxRecDepth 100000 in
theorem bits_Reader_Fail.quiet (g : Nat) (s0_0 : List Int) (s0_1 s0_2 r1 r2 r3 : Int) (w0 w : World) (hI : IsS57 w0 w g s0_0 s0_1 s0_2) (h : bits_Reader_Fail.f s0_0 s0_1 s0_2 = some (r1, r2, r3)) :
    Calls Try.prog 21 #[.pointer (some ⟨g, 0, none⟩)] w fun e w' => e = .returned (.int .i64 r1) ∧ ∃ m, w' = w.drewN m := by
  simp only [bits_Reader_Fail.f, Option.some.injEq, Prod.mk.injEq] at h
  obtain ⟨rfl, rfl, rfl⟩ := h
  obtain ⟨ASq_0, cSq_0, HGq, hgq, HSq_0⟩ := hI
  have hcq_0 := cellS57_0 HGq
  have hcq_1 := cellS57_1 HGq
  have hcq_2 := cellS57_2 HGq
  clear HGq hgq
  go_enter Try.func21, Try.ntmps21
  go_wp2
  repeat (go_quiet (fail); try go_wp2)
  go_ret
  exact ⟨by first | rfl | (simp; done) | (simp [*]; done), by first | exact ⟨0, rfl⟩ | exact ⟨_, rfl⟩ | (simp only [World.drewN_drewN]; exact ⟨_, rfl⟩)⟩
set_option maxHeartbeats 8000000 in
set_option maxRecDepth 100000 in
theorem bits_Reader_End.quiet (g : Nat) (s0_0 : List Int) (s0_1 s0_2 r1 r2 r3 : Int) (w0 w : World) (hI : IsS57 w0 w g s0_0 s0_1 s0_2) (h : bits_Reader_End.f s0_0 s0_1 s0_2 = some (r1, r2, r3)) :
    Calls Try.prog 24 #[.pointer (some ⟨g, 0, none⟩)] w fun e w' => e = .returned (.int .i64 r1) ∧ ∃ m, w' = w.drewN m := by
  have hI0 := hI
  unfold bits_Reader_End.f at h
  by_cases c2 : s0_2 = 0
  · rw [if_pos c2] at h
    have c2b0 : (s0_2 == 0) = true := beq_iff_eq.mpr c2
    have c2b1 : (s0_2 != 0) = false := bne_eq_false_iff_eq.mpr c2
    have A3 : bits_Reader_Left.f s0_0 s0_1 s0_2 = some (wrap64 ((wrap64 (8 * (s0_0.length : Int))) - s0_1), s0_1, s0_2) := rfl
    rw [A3] at h
    obtain ⟨t359, ht⟩ : ∃ t, wrap64 ((wrap64 (8 * (s0_0.length : Int))) - s0_1) = t := ⟨_, rfl⟩
    rw [ht] at A3 h
    replace h : (if t359 > 0 then (some (3, s0_1, s0_2)) else (some (s0_2, s0_1, s0_2))) = some (r1, r2, r3) := h
    clear ht
    by_cases c4 : t359 > 0
    · rw [if_pos c4] at h
      have c4b0 : decide (0 < t359) = true := decide_eq_true c4
      clear c4
      simp only [Option.some.injEq, Prod.mk.injEq] at h
      obtain ⟨rfl, rfl, rfl⟩ := h
      clear c2
      obtain ⟨ASq_0, cSq_0, HGq, hgq, HSq_0⟩ := hI
      have hcq_0 := cellS57_0 HGq
      have hcq_1 := cellS57_1 HGq
      have hcq_2 := cellS57_2 HGq
      clear HGq hgq
      go_enter Try.func24, Try.ntmps24
      go_wp2_with (first | (go_at_call 22; (with_reducible refine (bits_Reader_Left.quiet g s0_0 s0_1 s0_2 _ _ _ w0 _ hI0 A3).mono ?_); rintro e w6 ⟨rfl, ⟨nd, rfl⟩⟩))
      repeat (go_quiet (fail); try go_wp2)
      go_ret
      exact ⟨by first | rfl | (simp; done) | (simp [*]; done), by first | exact ⟨0, rfl⟩ | exact ⟨_, rfl⟩ | (simp only [World.drewN_drewN]; exact ⟨_, rfl⟩)⟩
    · rw [if_neg c4] at h
      have c4b0 : decide (0 < t359) = false := decide_eq_false c4
      clear c4
      simp only [Option.some.injEq, Prod.mk.injEq] at h
      obtain ⟨rfl, rfl, rfl⟩ := h
      clear c2
      obtain ⟨ASq_0, cSq_0, HGq, hgq, HSq_0⟩ := hI
      have hcq_0 := cellS57_0 HGq
      have hcq_1 := cellS57_1 HGq
      have hcq_2 := cellS57_2 HGq
      clear HGq hgq
      go_enter Try.func24, Try.ntmps24
      go_wp2_with (first | (go_at_call 22; (with_reducible refine (bits_Reader_Left.quiet g s0_0 s0_1 s0_2 _ _ _ w0 _ hI0 A3).mono ?_); rintro e w6 ⟨rfl, ⟨nd, rfl⟩⟩))
      repeat (go_quiet (fail); try go_wp2)
      go_ret
      exact ⟨by first | rfl | (simp; done) | (simp [*]; done), by first | exact ⟨0, rfl⟩ | exact ⟨_, rfl⟩ | (simp only [World.drewN_drewN]; exact ⟨_, rfl⟩)⟩
  · rw [if_neg c2] at h
    have c2b0 : (s0_2 == 0) = false := beq_eq_false_iff_ne.mpr c2
    have c2b1 : (s0_2 != 0) = true := bne_iff_ne.mpr c2
    simp only [Option.some.injEq, Prod.mk.injEq] at h
    obtain ⟨rfl, rfl, rfl⟩ := h
    obtain ⟨ASq_0, cSq_0, HGq, hgq, HSq_0⟩ := hI
    have hcq_0 := cellS57_0 HGq
    have hcq_1 := cellS57_1 HGq
    have hcq_2 := cellS57_2 HGq
    clear HGq hgq
    go_enter Try.func24, Try.ntmps24
    go_wp2
    repeat (go_quiet (fail); try go_wp2)
    go_ret
    exact ⟨by first | rfl | (simp; done) | (simp [*]; done), by first | exact ⟨0, rfl⟩ | exact ⟨_, rfl⟩ | (simp only [World.drewN_drewN]; exact ⟨_, rfl⟩)⟩
set_option maxHeartbeats 8000000 in
set_option maxRecDepth 100000 in
theorem serinetteref01_Reader_End.quiet (g : Nat) (s0_0 : List Bool) (s0_1 s0_2 r1 r2 r3 : Int) (w0 w : World) (hI : IsS49 w0 w g s0_0 s0_1 s0_2) (h : serinetteref01_Reader_End.f s0_0 s0_1 s0_2 = some (r1, r2, r3)) :
    Calls Try.prog 28 #[.pointer (some ⟨g, 0, none⟩)] w fun e w' => e = .returned (.int .i64 r1) ∧ ∃ m, w' = w.drewN m := by
  unfold serinetteref01_Reader_End.f at h
  by_cases c2 : s0_2 = 0
  · rw [if_pos c2] at h
    have c2b0 : (s0_2 == 0) = true := beq_iff_eq.mpr c2
    have c2b1 : (s0_2 != 0) = false := bne_eq_false_iff_eq.mpr c2
    by_cases c4 : s0_1 < (s0_0.length : Int)
    · rw [if_pos c4] at h
      have c4b0 : decide (s0_1 < (s0_0.length : Int)) = true := decide_eq_true c4
      clear c4
      simp only [Option.some.injEq, Prod.mk.injEq] at h
      obtain ⟨rfl, rfl, rfl⟩ := h
      clear c2
      obtain ⟨ASq_0, cSq_0, HGq, hgq, HSq_0⟩ := hI
      have hcq_0 := cellS49_0 HGq
      have hcq_1 := cellS49_1 HGq
      have hcq_2 := cellS49_2 HGq
      clear HGq hgq
      go_enter Try.func28, Try.ntmps28
      go_wp2
      repeat (go_quiet (fail); try go_wp2)
      go_ret
      exact ⟨by first | rfl | (simp; done) | (simp [*]; done), by first | exact ⟨0, rfl⟩ | exact ⟨_, rfl⟩ | (simp only [World.drewN_drewN]; exact ⟨_, rfl⟩)⟩
    · rw [if_neg c4] at h
      have c4b0 : decide (s0_1 < (s0_0.length : Int)) = false := decide_eq_false c4
      clear c4
      simp only [Option.some.injEq, Prod.mk.injEq] at h
      obtain ⟨rfl, rfl, rfl⟩ := h
      clear c2
      obtain ⟨ASq_0, cSq_0, HGq, hgq, HSq_0⟩ := hI
      have hcq_0 := cellS49_0 HGq
      have hcq_1 := cellS49_1 HGq
      have hcq_2 := cellS49_2 HGq
      clear HGq hgq
      go_enter Try.func28, Try.ntmps28
      go_wp2
      repeat (go_quiet (fail); try go_wp2)
      go_ret
      exact ⟨by first | rfl | (simp; done) | (simp [*]; done), by first | exact ⟨0, rfl⟩ | exact ⟨_, rfl⟩ | (simp only [World.drewN_drewN]; exact ⟨_, rfl⟩)⟩
  · rw [if_neg c2] at h
    have c2b0 : (s0_2 == 0) = false := beq_eq_false_iff_ne.mpr c2
    have c2b1 : (s0_2 != 0) = true := bne_iff_ne.mpr c2
    simp only [Option.some.injEq, Prod.mk.injEq] at h
    obtain ⟨rfl, rfl, rfl⟩ := h
    obtain ⟨ASq_0, cSq_0, HGq, hgq, HSq_0⟩ := hI
    have hcq_0 := cellS49_0 HGq
    have hcq_1 := cellS49_1 HGq
    have hcq_2 := cellS49_2 HGq
    clear HGq hgq
    go_enter Try.func28, Try.ntmps28
    go_wp2
    repeat (go_quiet (fail); try go_wp2)
    go_ret
    exact ⟨by first | rfl | (simp; done) | (simp [*]; done), by first | exact ⟨0, rfl⟩ | exact ⟨_, rfl⟩ | (simp only [World.drewN_drewN]; exact ⟨_, rfl⟩)⟩
mutual
def serinettelaw01_BitsTake.j0 : Nat → List Int → List Int → List Bool → Bool → Bool → Option (Bool)
  | 0, _, _, _, _, _ => none
  | k + 1, x0, x1, x2, x7, x21 => if x21 = true then (some x7) else ((bits_Open.f x0).bind fun bt413 => ((serinetteref01_Bits.f k x0).bind fun t417 => ((serinetteshadow_NewReader.f t417).bind fun bt420 => (serinettelaw01_BitsTake.l0 k x1 x2 x7 0 bt413.1 bt413.2.1 bt413.2.2 bt420.1 bt420.2.1 bt420.2.2))))
def serinettelaw01_BitsTake.l0 : Nat → List Int → List Bool → Bool → Int → List Int → Int → Int → List Bool → Int → Int → Option (Bool)
  | 0, _, _, _, _, _, _, _, _, _, _ => none
  | k + 1, x1, x2, x7, x10, x417000, x417001, x417002, x424000, x424001, x424002 => if x10 < (x1.length : Int) then (if x10 < (x2.length : Int) then (if 0 ≤ x10 then (serinettelaw01_BitsTake.j2 k x1 x2 x7 x10 0 0 (rdOf false x2 x10) x417000 x417001 x417002 x424000 x424001 x424002) else (none)) else (serinettelaw01_BitsTake.j2 k x1 x2 x7 x10 0 0 false x417000 x417001 x417002 x424000 x424001 x424002)) else (if x7 = true then ((bits_Reader_End.f x417000 x417001 x417002).bind fun bt424 => ((serinetteref01_Reader_End.f x424000 x424001 x424002).bind fun bt427 => (some (bt424.1 == bt427.1)))) else (some false))
def serinettelaw01_BitsTake.j2 : Nat → List Int → List Bool → Bool → Int → Int → Int → Bool → List Int → Int → Int → List Bool → Int → Int → Option (Bool)
  | 0, _, _, _, _, _, _, _, _, _, _, _, _, _ => none
  | k + 1, x1, x2, x7, x10, x11, x12, x46, x417000, x417001, x417002, x424000, x424001, x424002 => if x46 = true then ((bits_Reader_Fill.f k x417000 x417001 x417002).bind fun bt431 => ((serinetteref01_Reader_Fill.f k x424000 x424001 x424002).bind fun bt433 => (serinettelaw01_BitsTake.j3 k x1 x2 x7 x10 x11 x12 x417000 bt431.1 bt431.2 x424000 bt433.1 bt433.2))) else (if 0 ≤ x10 then (if x10 < (x1.length : Int) then ((bits_Reader_Take.f k x417000 x417001 x417002 (rd x1 x10)).bind fun bt436 => ((serinetteref01_Reader_Take.f x424000 x424001 x424002 (rd x1 x10)).bind fun bt440 => (serinettelaw01_BitsTake.j3 k x1 x2 x7 x10 bt436.1 bt440.1 x417000 bt436.2.1 bt436.2.2 x424000 bt440.2.1 bt440.2.2))) else (none)) else (none))
def serinettelaw01_BitsTake.j3 : Nat → List Int → List Bool → Bool → Int → Int → Int → List Int → Int → Int → List Bool → Int → Int → Option (Bool)
  | 0, _, _, _, _, _, _, _, _, _, _, _, _ => none
  | k + 1, x1, x2, x7, x10, x11, x12, x417000, x417001, x417002, x424000, x424001, x424002 => if x11 = x12 then ((bits_Reader_Left.f x417000 x417001 x417002).bind fun bt443 => ((serinetteshadow_LenL.f x424000 x424001 x424002).bind fun bt446 => ((serinetteshadow_AtK.f x424000 bt446.2.1 bt446.2.2).bind fun bt449 => (if bt443.1 = (wrap64 (bt446.1 - bt449.1)) then ((bits_Reader_At.f x417000 bt443.2.1 bt443.2.2).bind fun bt452 => ((serinetteshadow_AtK.f x424000 bt449.2.1 bt449.2.2).bind fun bt455 => (if bt452.1 = bt455.1 then ((bits_Reader_Fail.f x417000 bt452.2.1 bt452.2.2).bind fun bt458 => ((serinetteshadow_ErrE.f x424000 bt455.2.1 bt455.2.2).bind fun bt461 => (if bt458.1 = bt461.1 then ((bits_Reader_End.f x417000 bt458.2.1 bt458.2.2).bind fun bt464 => ((serinetteref01_Reader_End.f x424000 bt461.2.1 bt461.2.2).bind fun bt467 => (if bt464.1 = bt467.1 then (serinettelaw01_BitsTake.l0 k x1 x2 x7 (wrap64 (x10 + 1)) x417000 bt464.2.1 bt464.2.2 x424000 bt467.2.1 bt467.2.2) else (some false)))) else (some false)))) else (some false)))) else (some false))))) else (some false)
end
def serinettelaw01_BitsTake.f (k : Nat) (l0 : List Int) (l1 : List Int) (l2 : List Bool) : Option (Bool) := (serinettelaw01_awake.f k).bind fun t412 => (if (l0.length : Int) > 200 then (serinettelaw01_BitsTake.j0 k l0 l1 l2 t412 true) else (serinettelaw01_BitsTake.j0 k l0 l1 l2 t412 (decide ((l1.length : Int) > 60))))
theorem serinettelaw01_BitsTake.mono_l : ∀ k, (∀ y0 y1 y2 y3 y4, LeO (serinettelaw01_BitsTake.j0 k y0 y1 y2 y3 y4) (serinettelaw01_BitsTake.j0 (k + 1) y0 y1 y2 y3 y4)) ∧ (∀ y0 y1 y2 y3 y4 y5 y6 y7 y8 y9, LeO (serinettelaw01_BitsTake.l0 k y0 y1 y2 y3 y4 y5 y6 y7 y8 y9) (serinettelaw01_BitsTake.l0 (k + 1) y0 y1 y2 y3 y4 y5 y6 y7 y8 y9)) ∧ (∀ y0 y1 y2 y3 y4 y5 y6 y7 y8 y9 y10 y11 y12, LeO (serinettelaw01_BitsTake.j2 k y0 y1 y2 y3 y4 y5 y6 y7 y8 y9 y10 y11 y12) (serinettelaw01_BitsTake.j2 (k + 1) y0 y1 y2 y3 y4 y5 y6 y7 y8 y9 y10 y11 y12)) ∧ (∀ y0 y1 y2 y3 y4 y5 y6 y7 y8 y9 y10 y11, LeO (serinettelaw01_BitsTake.j3 k y0 y1 y2 y3 y4 y5 y6 y7 y8 y9 y10 y11) (serinettelaw01_BitsTake.j3 (k + 1) y0 y1 y2 y3 y4 y5 y6 y7 y8 y9 y10 y11))
  | 0 => ⟨fun _ _ _ _ _ r h => by simp [serinettelaw01_BitsTake.j0] at h, fun _ _ _ _ _ _ _ _ _ _ r h => by simp [serinettelaw01_BitsTake.l0] at h, fun _ _ _ _ _ _ _ _ _ _ _ _ _ r h => by simp [serinettelaw01_BitsTake.j2] at h, fun _ _ _ _ _ _ _ _ _ _ _ _ r h => by simp [serinettelaw01_BitsTake.j3] at h⟩
  | k + 1 => by
    obtain ⟨ih0, ih1, ih2, ih3⟩ := serinettelaw01_BitsTake.mono_l k
    refine ⟨?_, ?_, ?_, ?_⟩
    · intro y0 y1 y2 y3 y4
      unfold serinettelaw01_BitsTake.j0
      repeat' first
      | (with_reducible exact ih0 _ _ _ _ _)
      | (with_reducible exact ih1 _ _ _ _ _ _ _ _ _ _)
      | (with_reducible exact ih2 _ _ _ _ _ _ _ _ _ _ _ _ _)
      | (with_reducible exact ih3 _ _ _ _ _ _ _ _ _ _ _ _)
      | (with_reducible exact bits_Reader_Fill.mono _ _ _ _)
      | (with_reducible exact bits_Reader_Take.mono _ _ _ _ _)
      | (with_reducible exact serinettelaw01_awake.mono _)
      | (with_reducible exact serinetteref01_Bits.mono _ _)
      | (with_reducible exact serinetteref01_Reader_Fill.mono _ _ _ _)
      | (with_reducible exact LeO.refl _)
      | (with_reducible exact LeO.none _)
      | (with_reducible refine LeO.ite ?_ ?_)
      | (with_reducible refine LeO.bind ?_ (fun _ => ?_))
      | exact ih0 _ _ _ _ _
      | exact ih1 _ _ _ _ _ _ _ _ _ _
      | exact ih2 _ _ _ _ _ _ _ _ _ _ _ _ _
      | exact ih3 _ _ _ _ _ _ _ _ _ _ _ _
      | exact bits_Reader_Fill.mono _ _ _ _
      | exact bits_Reader_Take.mono _ _ _ _ _
      | exact serinettelaw01_awake.mono _
      | exact serinetteref01_Bits.mono _ _
      | exact serinetteref01_Reader_Fill.mono _ _ _ _
      | exact LeO.none _
      | refine LeO.ite ?_ ?_
      | refine LeO.bind ?_ (fun _ => ?_)
    · intro y0 y1 y2 y3 y4 y5 y6 y7 y8 y9
      unfold serinettelaw01_BitsTake.l0
      repeat' first
      | (with_reducible exact ih0 _ _ _ _ _)
      | (with_reducible exact ih1 _ _ _ _ _ _ _ _ _ _)
      | (with_reducible exact ih2 _ _ _ _ _ _ _ _ _ _ _ _ _)
      | (with_reducible exact ih3 _ _ _ _ _ _ _ _ _ _ _ _)
      | (with_reducible exact bits_Reader_Fill.mono _ _ _ _)
      | (with_reducible exact bits_Reader_Take.mono _ _ _ _ _)
      | (with_reducible exact serinettelaw01_awake.mono _)
      | (with_reducible exact serinetteref01_Bits.mono _ _)
      | (with_reducible exact serinetteref01_Reader_Fill.mono _ _ _ _)
      | (with_reducible exact LeO.refl _)
      | (with_reducible exact LeO.none _)
      | (with_reducible refine LeO.ite ?_ ?_)
      | (with_reducible refine LeO.bind ?_ (fun _ => ?_))
      | exact ih0 _ _ _ _ _
      | exact ih1 _ _ _ _ _ _ _ _ _ _
      | exact ih2 _ _ _ _ _ _ _ _ _ _ _ _ _
      | exact ih3 _ _ _ _ _ _ _ _ _ _ _ _
      | exact bits_Reader_Fill.mono _ _ _ _
      | exact bits_Reader_Take.mono _ _ _ _ _
      | exact serinettelaw01_awake.mono _
      | exact serinetteref01_Bits.mono _ _
      | exact serinetteref01_Reader_Fill.mono _ _ _ _
      | exact LeO.none _
      | refine LeO.ite ?_ ?_
      | refine LeO.bind ?_ (fun _ => ?_)
    · intro y0 y1 y2 y3 y4 y5 y6 y7 y8 y9 y10 y11 y12
      unfold serinettelaw01_BitsTake.j2
      repeat' first
      | (with_reducible exact ih0 _ _ _ _ _)
      | (with_reducible exact ih1 _ _ _ _ _ _ _ _ _ _)
      | (with_reducible exact ih2 _ _ _ _ _ _ _ _ _ _ _ _ _)
      | (with_reducible exact ih3 _ _ _ _ _ _ _ _ _ _ _ _)
      | (with_reducible exact bits_Reader_Fill.mono _ _ _ _)
      | (with_reducible exact bits_Reader_Take.mono _ _ _ _ _)
      | (with_reducible exact serinettelaw01_awake.mono _)
      | (with_reducible exact serinetteref01_Bits.mono _ _)
      | (with_reducible exact serinetteref01_Reader_Fill.mono _ _ _ _)
      | (with_reducible exact LeO.refl _)
      | (with_reducible exact LeO.none _)
      | (with_reducible refine LeO.ite ?_ ?_)
      | (with_reducible refine LeO.bind ?_ (fun _ => ?_))
      | exact ih0 _ _ _ _ _
      | exact ih1 _ _ _ _ _ _ _ _ _ _
      | exact ih2 _ _ _ _ _ _ _ _ _ _ _ _ _
      | exact ih3 _ _ _ _ _ _ _ _ _ _ _ _
      | exact bits_Reader_Fill.mono _ _ _ _
      | exact bits_Reader_Take.mono _ _ _ _ _
      | exact serinettelaw01_awake.mono _
      | exact serinetteref01_Bits.mono _ _
      | exact serinetteref01_Reader_Fill.mono _ _ _ _
      | exact LeO.none _
      | refine LeO.ite ?_ ?_
      | refine LeO.bind ?_ (fun _ => ?_)
    · intro y0 y1 y2 y3 y4 y5 y6 y7 y8 y9 y10 y11
      unfold serinettelaw01_BitsTake.j3
      repeat' first
      | (with_reducible exact ih0 _ _ _ _ _)
      | (with_reducible exact ih1 _ _ _ _ _ _ _ _ _ _)
      | (with_reducible exact ih2 _ _ _ _ _ _ _ _ _ _ _ _ _)
      | (with_reducible exact ih3 _ _ _ _ _ _ _ _ _ _ _ _)
      | (with_reducible exact bits_Reader_Fill.mono _ _ _ _)
      | (with_reducible exact bits_Reader_Take.mono _ _ _ _ _)
      | (with_reducible exact serinettelaw01_awake.mono _)
      | (with_reducible exact serinetteref01_Bits.mono _ _)
      | (with_reducible exact serinetteref01_Reader_Fill.mono _ _ _ _)
      | (with_reducible exact LeO.refl _)
      | (with_reducible exact LeO.none _)
      | (with_reducible refine LeO.ite ?_ ?_)
      | (with_reducible refine LeO.bind ?_ (fun _ => ?_))
      | exact ih0 _ _ _ _ _
      | exact ih1 _ _ _ _ _ _ _ _ _ _
      | exact ih2 _ _ _ _ _ _ _ _ _ _ _ _ _
      | exact ih3 _ _ _ _ _ _ _ _ _ _ _ _
      | exact bits_Reader_Fill.mono _ _ _ _
      | exact bits_Reader_Take.mono _ _ _ _ _
      | exact serinettelaw01_awake.mono _
      | exact serinetteref01_Bits.mono _ _
      | exact serinetteref01_Reader_Fill.mono _ _ _ _
      | exact LeO.none _
      | refine LeO.ite ?_ ?_
      | refine LeO.bind ?_ (fun _ => ?_)
theorem serinettelaw01_BitsTake.mono : ∀ a0 a1 a2 k, LeO (serinettelaw01_BitsTake.f k a0 a1 a2) (serinettelaw01_BitsTake.f (k + 1) a0 a1 a2) := by
  intro a0 a1 a2 k
  obtain ⟨ih0, ih1, ih2, ih3⟩ := serinettelaw01_BitsTake.mono_l k
  unfold serinettelaw01_BitsTake.f
  repeat' first
      | (with_reducible exact ih0 _ _ _ _ _)
      | (with_reducible exact ih1 _ _ _ _ _ _ _ _ _ _)
      | (with_reducible exact ih2 _ _ _ _ _ _ _ _ _ _ _ _ _)
      | (with_reducible exact ih3 _ _ _ _ _ _ _ _ _ _ _ _)
      | (with_reducible exact bits_Reader_Fill.mono _ _ _ _)
      | (with_reducible exact bits_Reader_Take.mono _ _ _ _ _)
      | (with_reducible exact serinettelaw01_awake.mono _)
      | (with_reducible exact serinetteref01_Bits.mono _ _)
      | (with_reducible exact serinetteref01_Reader_Fill.mono _ _ _ _)
      | (with_reducible exact LeO.refl _)
      | (with_reducible exact LeO.none _)
      | (with_reducible refine LeO.ite ?_ ?_)
      | (with_reducible refine LeO.bind ?_ (fun _ => ?_))
      | exact ih0 _ _ _ _ _
      | exact ih1 _ _ _ _ _ _ _ _ _ _
      | exact ih2 _ _ _ _ _ _ _ _ _ _ _ _ _
      | exact ih3 _ _ _ _ _ _ _ _ _ _ _ _
      | exact bits_Reader_Fill.mono _ _ _ _
      | exact bits_Reader_Take.mono _ _ _ _ _
      | exact serinettelaw01_awake.mono _
      | exact serinetteref01_Bits.mono _ _
      | exact serinetteref01_Reader_Fill.mono _ _ _ _
      | exact LeO.none _
      | refine LeO.ite ?_ ?_
      | refine LeO.bind ?_ (fun _ => ?_)
set_option maxHeartbeats 8000000 in
set_option maxRecDepth 100000 in
theorem serinettelaw01_BitsTake.calls (k : Nat) (A0 : Option Addr) (c0 : Nat) (l0 : List Int) (A1 : Option Addr) (c1 : Nat) (l1 : List Int) (A2 : Option Addr) (c2 : Nat) (l2 : List Bool) (r : Bool) (w : World) (hr0 : Kd.C (Kd.int .u8) w A0 l0.length l0) (hc0 : l0.length ≤ c0) (hr1 : Kd.C (Kd.int .i64) w A1 l1.length l1) (hc1 : l1.length ≤ c1) (hr2 : Kd.C Kd.bool w A2 l2.length l2) (hc2 : l2.length ≤ c2) (h : serinettelaw01_BitsTake.f k l0 l1 l2 = some r) :
    Calls Try.prog 8 #[.slice A0 l0.length c0, .slice A1 l1.length c1, .slice A2 l2.length c2] w fun e w' => e = .returned (.bool r) ∧ Below w.heap.size w w' := by
  have HR0 := Aside0.mk hr0
  have HC0 := Aside0.mk hc0
  clear hr0 hc0
  have HR1 := Aside0.mk hr1
  have HC1 := Aside0.mk hc1
  clear hr1 hc1
  have HR2 := Aside0.mk hr2
  have HC2 := Aside0.mk hc2
  clear hr2 hc2
  have HB := Aside0.mk (Below.refl w.heap.size w)
  have H : ((serinettelaw01_awake.f k).bind fun t412 => (if (l0.length : Int) > 200 then (serinettelaw01_BitsTake.j0 k l0 l1 l2 t412 true) else (serinettelaw01_BitsTake.j0 k l0 l1 l2 t412 (decide ((l1.length : Int) > 60))))) = some r := h
  clear h
  replace H := Option.bind_eq_some_iff.mp H
  obtain ⟨t412, A40, H⟩ := H
  replace H : (if (l0.length : Int) > 200 then (serinettelaw01_BitsTake.j0 k l0 l1 l2 t412 true) else (serinettelaw01_BitsTake.j0 k l0 l1 l2 t412 (decide ((l1.length : Int) > 60)))) = some r := H
  have A4 := Aside0.mk A40
  clear A40
  have HC5 := Aside0.mk H
  clear H
  go_enter Try.func8, Try.ntmps8
  go_upto_region 2 with (first | ((with_reducible refine gate_callee (f := 9) rfl ?_); refine goesL_ (some 13) rfl rfl Try.func9 (by kernel_rfl) rfl #[] rfl (by (try simp only [List.map_toArray, List.map_cons, List.map_nil]); first | done | rfl | (simp only [List.length_drop, List.length_take]; rfl)) ?_; (with_reducible refine (serinettelaw01_awake.calls k  t412 _ A4.out).mono ?_); rintro e w6 ⟨rfl, hb⟩; refine ⟨_, rfl, ?_⟩; have n0_ := Aside0.mk (below_step (by repeat (first | (with_reducible first | exact HB.out | apply below_alloc | apply pw_below_drewN | apply below_drew1) | exact HB.out)) hb); clear HB; have HB := n0_; clear n0_; (try clear hb); (try clear hb2); (try clear hk); (try clear hi)))
  (try simp only [Act.put, List.setIfInBounds_toArray, List.set_cons_zero, List.set_cons_succ])
  go_cut [21] (fun v21 wc => ∃ (kq : Nat) (x21_4 : Bool), v21 = .bool x21_4 ∧ Aside0 (serinettelaw01_BitsTake.j0 kq l0 l1 l2 t412 x21_4 = some r) ∧ Aside0 (kq ≤ k) ∧ Aside0 (Below w.heap.size w wc))
  case first =>
    have H := HC5.out
    clear HC5
    by_cases c7 : (l0.length : Int) > 200
    · rw [if_pos c7] at H
      have c7b0 : decide (200 < (l0.length : Int)) = true := decide_eq_true c7
      have c7b1 : decide (200 < l0.length) = true := decide_eq_true (by omega)
      clear c7
      (first | rw [c7b0] | (simp only [i64_w, i32_w]; rw [c7b0]) | skip)
      have H' := Aside0.mk H
      clear H
      go_wp2
      go_meet
      case rel => exact ⟨_, (true), (by first | rfl | (simp; done) | (simp only [i64_w, i32_w]; done) | (simp [*]; done) | (simp only [i64_w, i32_w]; first | rfl | (simp; done) | (simp [*]; done))), H', ⟨by first | omega | exact Nat.le_refl _⟩, ⟨by repeat (first | (with_reducible first | exact HB.out | apply below_alloc | apply pw_below_drewN | apply below_drew1) | exact HB.out)⟩⟩
    · rw [if_neg c7] at H
      have c7b0 : decide (200 < (l0.length : Int)) = false := decide_eq_false c7
      have c7b1 : decide (200 < l0.length) = false := decide_eq_false (by omega)
      clear c7
      (first | rw [c7b0] | (simp only [i64_w, i32_w]; rw [c7b0]) | skip)
      have H' := Aside0.mk H
      clear H
      go_wp2
      go_meet
      case rel => exact ⟨_, (decide ((l1.length : Int) > 60)), (by first | rfl | (simp; done) | (simp only [i64_w, i32_w]; done) | (simp [*]; done) | (simp only [i64_w, i32_w]; first | rfl | (simp; done) | (simp [*]; done))), H', ⟨by first | omega | exact Nat.le_refl _⟩, ⟨by repeat (first | (with_reducible first | exact HB.out | apply below_alloc | apply pw_below_drewN | apply below_drew1) | exact HB.out)⟩⟩
  case rest =>
    clear HC5
    try clear c1
    try clear c2
    try clear p2
    try clear c7
    try clear c7b0
    try clear c7b1
    obtain ⟨kq, x21_4, rfl, HA, HJ4, HB⟩ := hcut
    cases kq with
    | zero => exact absurd HA.out (by simp [serinettelaw01_BitsTake.j0])
    | succ kj4 =>
      have H := HA.out
      clear HA
      simp only [serinettelaw01_BitsTake.j0] at H
      by_cases c8 : x21_4 = true
      · subst c8
        have H1 : (some t412) = some r := by rw [if_pos rfl] at H; exact H
        clear H
        have H := H1
        clear H1
        obtain rfl := Option.some.inj H
        go_wp2
        go_ret
        exact ⟨by first | rfl | (simp [errW_none, errW_some] <;> rfl) | (simp [*, errW_none, errW_some] <;> rfl), by repeat (first | (with_reducible first | exact HB.out | apply below_alloc | apply pw_below_drewN | apply below_drew1) | exact HB.out)⟩
      · replace c8 := Bool.eq_false_iff.mpr c8
        subst c8
        have H1 : ((bits_Open.f l0).bind fun bt413 => ((serinetteref01_Bits.f kj4 l0).bind fun t417 => ((serinetteshadow_NewReader.f t417).bind fun bt420 => (serinettelaw01_BitsTake.l0 kj4 l1 l2 t412 0 bt413.1 bt413.2.1 bt413.2.2 bt420.1 bt420.2.1 bt420.2.2)))) = some r := by rw [if_neg (show ¬ (false = true) by decide)] at H; exact H
        clear H
        have H := H1
        clear H1
        replace H := Option.bind_eq_some_iff.mp H
        obtain ⟨⟨t413, t414, t415⟩, A90, H⟩ := H
        replace H : ((serinetteref01_Bits.f kj4 l0).bind fun t417 => ((serinetteshadow_NewReader.f t417).bind fun bt420 => (serinettelaw01_BitsTake.l0 kj4 l1 l2 t412 0 t413 t414 t415 bt420.1 bt420.2.1 bt420.2.2))) = some r := H
        have A9 := Aside0.mk A90
        clear A90
        replace H := Option.bind_eq_some_iff.mp H
        obtain ⟨t417, A100, H⟩ := H
        replace H : ((serinetteshadow_NewReader.f t417).bind fun bt420 => (serinettelaw01_BitsTake.l0 kj4 l1 l2 t412 0 t413 t414 t415 bt420.1 bt420.2.1 bt420.2.2)) = some r := H
        have A10 := Aside0.mk A100
        clear A100
        replace H := Option.bind_eq_some_iff.mp H
        obtain ⟨⟨t420, t421, t422⟩, A110, H⟩ := H
        replace H : (serinettelaw01_BitsTake.l0 kj4 l1 l2 t412 0 t413 t414 t415 t420 t421 t422) = some r := H
        have A11 := Aside0.mk A110
        clear A110
        have H' := Aside0.mk H
        clear H
        go_wp2_with (first | ((with_reducible refine gate_callee (f := 18) rfl ?_); refine goesL_ (some 24) rfl rfl Try.func18 (by kernel_rfl) rfl #[.slice A0 l0.length c0] rfl (by (try simp only [List.map_toArray, List.map_cons, List.map_nil]); first | done | rfl | (simp only [List.length_drop, List.length_take]; rfl)) ?_; (with_reducible refine (bits_Open.calls _ _ l0 t413 t414 t415 w _ ?side1 ?side2 ?side3 A9.out).mono ?_); (case side1 => repeat (first | (with_reducible first | exact HB.out | apply below_alloc | apply pw_below_drewN | apply below_drew1) | exact HB.out)); (case side2 => repeat (first | exact (Kd.C_below HR0.out HB.out) | (with_reducible refine Kd.C_alloc ?_ _) | (with_reducible refine Kd.C_drewN ?_ _) | (with_reducible refine Kd.C_drew ?_))); (case side3 => exact HC0.out); rintro e w12 ⟨g416, rfl, hi, hb, hb2⟩; refine ⟨_, rfl, ?_⟩; have n0_ := Aside0.mk (hb); have n1_ := Aside0.mk (hi); clear HB; have HB := n0_; have HI416 := n1_; clear n0_ n1_; (try clear hb); (try clear hb2); (try clear hk); (try clear hi)) | ((with_reducible refine gate_callee (f := 25) rfl ?_); refine goesL_ (some 28) rfl rfl Try.func25 (by kernel_rfl) rfl #[.slice A0 l0.length c0] rfl (by (try simp only [List.map_toArray, List.map_cons, List.map_nil]); first | done | rfl | (simp only [List.length_drop, List.length_take]; rfl)) ?_; (with_reducible refine (serinetteref01_Bits.calls kj4 _ _ l0 t417 _ ?side1 ?side2 A10.out).mono ?_); (case side1 => repeat (first | exact (Kd.C_below HR0.out HB.out) | (with_reducible refine Kd.C_alloc ?_ _) | (with_reducible refine Kd.C_drewN ?_ _) | (with_reducible refine Kd.C_drew ?_))); (case side2 => exact HC0.out); rintro e w13 ⟨v418, rfl, ho0, hb⟩; refine ⟨_, rfl, ?_⟩; have n0_ := Aside0.mk (Kd.R_lower ho0 (below_size (by repeat (first | (with_reducible first | exact HB.out | apply below_alloc | apply pw_below_drewN | apply below_drew1 | refine below_set ?_ (IsS57.ge HI416.out)) | exact HB.out)))); have n1_ := Aside0.mk (IsS57.below (by repeat (first | (with_reducible first | exact HI416.out | apply IsS57.alloc | apply IsS57.drewN | apply IsS57.drew | apply IsS57.set_1 | apply IsS57.set_2) | exact HI416.out)) hb); have n2_ := Aside0.mk (below_step (by repeat (first | (with_reducible first | exact HB.out | apply below_alloc | apply pw_below_drewN | apply below_drew1 | refine below_set ?_ (IsS57.ge HI416.out)) | exact HB.out)) hb); clear HI416; clear HB; have HO419 := n0_; have HI416 := n1_; have HB := n2_; clear n0_ n1_ n2_; (try clear hb); (try clear hb2); (try clear hk); (try clear hi); (try clear ho0); obtain ⟨Ao14, co14, eo14⟩ := Kd.R_slice HO419.out; subst eo14) | ((with_reducible refine gate_dst (N := 30) rfl ?_); refine box_event ?hg (N := 30) ?hd (cs := #[.slice Ao14 t417.length co14, .int .i64 0, .int .i64 0]) (t := 49) ?hr ?_; (case hd => rfl); (case hg => rfl); (case hr => first | (go_simp; done) | (go_simp; rfl)); intro g423 hg w15 hbox hb2; have n1_ := Aside0.mk (IsS57.below (by repeat (first | (with_reducible first | exact HI416.out | apply IsS57.alloc | apply IsS57.drewN | apply IsS57.drew | apply IsS57.set_1 | apply IsS57.set_2) | exact HI416.out)) hb2); have n2_ := Aside0.mk (below_step (by repeat (first | (with_reducible first | exact HB.out | apply below_alloc | apply pw_below_drewN | apply below_drew1 | refine below_set ?_ (IsS57.ge HI416.out)) | exact HB.out)) hb2); have n3_ : Aside0 (IsS49 w w15 g423 t420 t421 t422) := Aside0.mk (by obtain ⟨e1, e2, e3⟩ := serinetteshadow_NewReader.same A11.out; rw [e1, e2, e3]; exact ⟨Ao14, co14, hbox, (by rw [hg]; exact (below_size (by repeat (first | (with_reducible first | exact HB.out | apply below_alloc | apply pw_below_drewN | apply below_drew1 | refine below_set ?_ (IsS57.ge HI416.out)) | exact HB.out)))), Kd.R_mono (Kd.R_below (by (with_reducible repeat (first | apply Kd.R_alloc | apply Kd.R_drewN | apply Kd.R_drew)); exact HO419.out) hb2) (fun _ _ => trivial)⟩); clear HO419; clear HI416; clear HB; have HI416 := n1_; have HB := n2_; have HI423 := n3_; clear n1_ n2_ n3_; clear hb2 hbox hg))
        go_loopg [10] kj4 (fun kq v10 w' => ∃ (x10_2 : Int) (x417001_2 : Int) (x417002_2 : Int) (x424001_2 : Int) (x424002_2 : Int), v10 = .int .i64 x10_2 ∧ Aside0 (serinettelaw01_BitsTake.l0 kq l1 l2 t412 x10_2 t413 x417001_2 x417002_2 t420 x424001_2 x424002_2 = some r) ∧ Aside0 (kq ≤ kj4) ∧ Aside0 (IsS57 w w' g416 t413 x417001_2 x417002_2) ∧ Aside0 (IsS49 w w' g423 t420 x424001_2 x424002_2) ∧ Aside0 (Below w.heap.size w w'))
        case atStart => exact ⟨(0), (t414), (t415), (t421), (t422), (by first | rfl | (simp; done) | (simp only [i64_w, i32_w]; done) | (simp [*]; done) | (simp only [i64_w, i32_w]; first | rfl | (simp; done) | (simp [*]; done))), H', ⟨Nat.le_refl _⟩, ⟨by repeat (first | (with_reducible first | exact HI416.out | apply IsS57.alloc | apply IsS57.drewN | apply IsS57.drew | apply IsS57.set_1 | apply IsS57.set_2) | exact HI416.out)⟩, ⟨by repeat (first | (with_reducible first | exact HI423.out | apply IsS49.alloc | apply IsS49.drewN | apply IsS49.drew | apply IsS49.set_1 | apply IsS49.set_2) | exact HI423.out)⟩, ⟨by repeat (first | (with_reducible first | exact HB.out | apply below_alloc | apply pw_below_drewN | apply below_drew1 | refine below_set ?_ (IsS57.ge HI416.out) | refine below_set ?_ (IsS49.ge HI423.out)) | exact HB.out)⟩⟩
        case round =>
          clear H'
          try clear c1
          try clear c2
          try clear p2
          try clear c5
          try clear c7
          try clear c7b0
          try clear c7b1
          try clear c8
          try clear c9
          try clear p2
          obtain ⟨x10_2, x417001_2, x417002_2, x424001_2, x424002_2, rfl, HA, HK2, HI416, HI423, HB⟩ := hrel
          cases gk with
          | zero => exact absurd HA.out (by simp [serinettelaw01_BitsTake.l0])
          | succ k2 =>
            have H := HA.out
            clear HA
            simp only [serinettelaw01_BitsTake.l0] at H
            by_cases c16 : x10_2 < (l1.length : Int)
            · rw [if_pos c16] at H
              have c16b0 : decide (x10_2 < (l1.length : Int)) = true := decide_eq_true c16
              clear c16
              have HC17 := Aside0.mk H
              clear H
              go_upto_region 13 with (fail)
              go_cut [46] (fun v46 wc => ∃ (kq : Nat) (x46_16 : Bool), v46 = .bool x46_16 ∧ Aside0 (serinettelaw01_BitsTake.j2 kq l1 l2 t412 x10_2 0 0 x46_16 t413 x417001_2 x417002_2 t420 x424001_2 x424002_2 = some r) ∧ Aside0 (kq ≤ k2) ∧ Aside0 (IsS57 w wc g416 t413 x417001_2 x417002_2) ∧ Aside0 (IsS49 w wc g423 t420 x424001_2 x424002_2) ∧ Aside0 (Below w.heap.size w wc))
              case first =>
                have H := HC17.out
                clear HC17
                by_cases c18 : x10_2 < (l2.length : Int)
                · rw [if_pos c18] at H
                  have c18b0 : decide (x10_2 < (l2.length : Int)) = true := decide_eq_true c18
                  clear c18
                  (first | rw [c18b0] | (simp only [i64_w, i32_w]; rw [c18b0]) | skip)
                  by_cases c19 : 0 ≤ x10_2
                  · rw [if_pos c19] at H
                    have c19b0 : decide (0 ≤ x10_2) = true := decide_eq_true c19
                    clear c19
                    have H' := Aside0.mk H
                    clear H
                    have p430 : 0 ≤ (x10_2 : Int) := of_decide_eq_true (by first | (with_reducible assumption) | assumption)
                    have q430 : x10_2 < (l2.length : Int) := of_decide_eq_true (by first | (with_reducible assumption) | assumption)
                    obtain ⟨ad430, e430, hx430_0⟩ := Kd.at_bool HR2.out x10_2 p430 q430
                    cases e430
                    replace hx430_0 := (HB.out.cell (World.block_lt_of_cell? w _ hx430_0)).trans hx430_0
                    replace p430 := eq_true p430
                    replace q430 := eq_true q430
                    go_wp2
                    go_meet
                    case rel => exact ⟨_, (rdOf false l2 x10_2), (by first | rfl | (simp; done) | (simp only [i64_w, i32_w]; done) | (simp [*]; done) | (simp only [i64_w, i32_w]; first | rfl | (simp; done) | (simp [*]; done))), H', ⟨by have := HJ4.out; have := HK2.out; first | omega | exact Nat.le_refl _⟩, ⟨by repeat (first | (with_reducible first | exact HI416.out | apply IsS57.alloc | apply IsS57.drewN | apply IsS57.drew | apply IsS57.set_1 | apply IsS57.set_2) | exact HI416.out)⟩, ⟨by repeat (first | (with_reducible first | exact HI423.out | apply IsS49.alloc | apply IsS49.drewN | apply IsS49.drew | apply IsS49.set_1 | apply IsS49.set_2) | exact HI423.out)⟩, ⟨by repeat (first | (with_reducible first | exact HB.out | apply below_alloc | apply pw_below_drewN | apply below_drew1 | refine below_set ?_ (IsS57.ge HI416.out) | refine below_set ?_ (IsS49.ge HI423.out)) | exact HB.out)⟩⟩
                  · rw [if_neg c19] at H
                    exact absurd H (by simp)
                · rw [if_neg c18] at H
                  have c18b0 : decide (x10_2 < (l2.length : Int)) = false := decide_eq_false c18
                  clear c18
                  (first | rw [c18b0] | (simp only [i64_w, i32_w]; rw [c18b0]) | skip)
                  have H' := Aside0.mk H
                  clear H
                  go_wp2
                  go_meet
                  case rel => exact ⟨_, (false), (by first | rfl | (simp; done) | (simp only [i64_w, i32_w]; done) | (simp [*]; done) | (simp only [i64_w, i32_w]; first | rfl | (simp; done) | (simp [*]; done))), H', ⟨by have := HJ4.out; have := HK2.out; first | omega | exact Nat.le_refl _⟩, ⟨by repeat (first | (with_reducible first | exact HI416.out | apply IsS57.alloc | apply IsS57.drewN | apply IsS57.drew | apply IsS57.set_1 | apply IsS57.set_2) | exact HI416.out)⟩, ⟨by repeat (first | (with_reducible first | exact HI423.out | apply IsS49.alloc | apply IsS49.drewN | apply IsS49.drew | apply IsS49.set_1 | apply IsS49.set_2) | exact HI423.out)⟩, ⟨by repeat (first | (with_reducible first | exact HB.out | apply below_alloc | apply pw_below_drewN | apply below_drew1 | refine below_set ?_ (IsS57.ge HI416.out) | refine below_set ?_ (IsS49.ge HI423.out)) | exact HB.out)⟩⟩
              case rest =>
                clear HC17
                try clear c1
                try clear c2
                try clear p2
                try clear p4
                try clear q4
                try clear hx4
                try clear c5
                try clear c7
                try clear c7b0
                try clear c7b1
                try clear c8
                try clear c9
                try clear c16
                try clear c16b0
                try clear c18
                try clear c18b0
                try clear c19
                try clear c19b0
                try clear hx430_0
                try clear p2
                try clear p430
                try clear q430
                obtain ⟨kq, x46_16, rfl, HA, HJ16, HI416, HI423, HB⟩ := hcut
                cases kq with
                | zero => exact absurd HA.out (by simp [serinettelaw01_BitsTake.j2])
                | succ kj16 =>
                  have H := HA.out
                  clear HA
                  simp only [serinettelaw01_BitsTake.j2] at H
                  have HC20 := Aside0.mk H
                  clear H
                  go_upto_if 46 with (fail)
                  go_cut [11, 12] (fun v11 v12 wc => ∃ (kq : Nat) (x11_19 : Int) (x12_19 : Int) (x417001_19 : Int) (x417002_19 : Int) (x424001_19 : Int) (x424002_19 : Int), v11 = .int .u64 x11_19 ∧ v12 = .int .u64 x12_19 ∧ Aside0 (serinettelaw01_BitsTake.j3 kq l1 l2 t412 x10_2 x11_19 x12_19 t413 x417001_19 x417002_19 t420 x424001_19 x424002_19 = some r) ∧ Aside0 (kq ≤ kj16) ∧ Aside0 (IsS57 w wc g416 t413 x417001_19 x417002_19) ∧ Aside0 (IsS49 w wc g423 t420 x424001_19 x424002_19) ∧ Aside0 (Below w.heap.size w wc))
                  case first =>
                    have H := HC20.out
                    clear HC20
                    by_cases c21 : x46_16 = true
                    · subst c21
                      have H1 : ((bits_Reader_Fill.f kj16 t413 x417001_2 x417002_2).bind fun bt431 => ((serinetteref01_Reader_Fill.f kj16 t420 x424001_2 x424002_2).bind fun bt433 => (serinettelaw01_BitsTake.j3 kj16 l1 l2 t412 x10_2 0 0 t413 bt431.1 bt431.2 t420 bt433.1 bt433.2))) = some r := by rw [if_pos rfl] at H; exact H
                      clear H
                      have H := H1
                      clear H1
                      replace H := Option.bind_eq_some_iff.mp H
                      obtain ⟨⟨t431, t432⟩, A220, H⟩ := H
                      replace H : ((serinetteref01_Reader_Fill.f kj16 t420 x424001_2 x424002_2).bind fun bt433 => (serinettelaw01_BitsTake.j3 kj16 l1 l2 t412 x10_2 0 0 t413 t431 t432 t420 bt433.1 bt433.2)) = some r := H
                      have A22 := Aside0.mk A220
                      clear A220
                      replace H := Option.bind_eq_some_iff.mp H
                      obtain ⟨⟨t433, t434⟩, A230, H⟩ := H
                      replace H : (serinettelaw01_BitsTake.j3 kj16 l1 l2 t412 x10_2 0 0 t413 t431 t432 t420 t433 t434) = some r := H
                      have A23 := Aside0.mk A230
                      clear A230
                      have H' := Aside0.mk H
                      clear H
                      go_wp2_with (first | ((with_reducible refine gate_callee (f := 23) rfl ?_); refine goesL_ (some 48) rfl rfl Try.func23 (by kernel_rfl) rfl #[.pointer (some ⟨g416, 0, none⟩)] rfl (by (try simp only [List.map_toArray, List.map_cons, List.map_nil]); first | done | rfl | (simp only [List.length_drop, List.length_take]; rfl)) ?_; (with_reducible refine (bits_Reader_Fill.calls kj16 g416 t413 x417001_2 x417002_2 t431 t432 w _ ?side1 ?side2 A22.out).mono ?_); (case side1 => repeat (first | (with_reducible first | exact HI416.out | apply IsS57.alloc | apply IsS57.drewN | apply IsS57.drew | apply IsS57.set_1 | apply IsS57.set_2) | exact HI416.out)); (case side2 => repeat (first | (with_reducible first | exact HB.out | apply below_alloc | apply pw_below_drewN | apply below_drew1 | refine below_set ?_ (IsS57.ge HI416.out) | refine below_set ?_ (IsS49.ge HI423.out)) | exact HB.out)); rintro e w24 ⟨rfl, hi, hb, hk⟩; refine ⟨_, rfl, ?_⟩; have n0_ := Aside0.mk (IsS49.keepG (by repeat (first | (with_reducible first | exact HI423.out | apply IsS49.alloc | apply IsS49.drewN | apply IsS49.drew | apply IsS49.set_1 | apply IsS49.set_2) | exact HI423.out)) (IsS57.blk (show IsS57 w _ g416 t413 x417001_2 x417002_2 from by repeat (first | (with_reducible first | exact HI416.out | apply IsS57.alloc | apply IsS57.drewN | apply IsS57.drew | apply IsS57.set_1 | apply IsS57.set_2) | exact HI416.out))).choose_spec (by decide) hk); have n1_ := Aside0.mk (hb); have n2_ := Aside0.mk (hi); clear HI423; clear HB; clear HI416; have HI423 := n0_; have HB := n1_; have HI416 := n2_; clear n0_ n1_ n2_; (try clear hb); (try clear hb2); (try clear hk); (try clear hi)) | ((with_reducible refine gate_callee (f := 26) rfl ?_); refine goesL_ (some 50) rfl rfl Try.func26 (by kernel_rfl) rfl #[.pointer (some ⟨g423, 0, none⟩)] rfl (by (try simp only [List.map_toArray, List.map_cons, List.map_nil]); first | done | rfl | (simp only [List.length_drop, List.length_take]; rfl)) ?_; (with_reducible refine (serinetteref01_Reader_Fill.calls kj16 g423 t420 x424001_2 x424002_2 t433 t434 w _ ?side1 ?side2 A23.out).mono ?_); (case side1 => repeat (first | (with_reducible first | exact HI423.out | apply IsS49.alloc | apply IsS49.drewN | apply IsS49.drew | apply IsS49.set_1 | apply IsS49.set_2) | exact HI423.out)); (case side2 => repeat (first | (with_reducible first | exact HB.out | apply below_alloc | apply pw_below_drewN | apply below_drew1 | refine below_set ?_ (IsS57.ge HI416.out) | refine below_set ?_ (IsS49.ge HI423.out)) | exact HB.out)); rintro e w25 ⟨rfl, hi, hb, hk⟩; refine ⟨_, rfl, ?_⟩; have n0_ := Aside0.mk (IsS57.keepG (by repeat (first | (with_reducible first | exact HI416.out | apply IsS57.alloc | apply IsS57.drewN | apply IsS57.drew | apply IsS57.set_1 | apply IsS57.set_2) | exact HI416.out)) (IsS49.blk (show IsS49 w _ g423 t420 x424001_2 x424002_2 from by repeat (first | (with_reducible first | exact HI423.out | apply IsS49.alloc | apply IsS49.drewN | apply IsS49.drew | apply IsS49.set_1 | apply IsS49.set_2) | exact HI423.out))).choose_spec (by decide) hk); have n1_ := Aside0.mk (hb); have n2_ := Aside0.mk (hi); clear HI416; clear HB; clear HI423; have HI416 := n0_; have HB := n1_; have HI423 := n2_; clear n0_ n1_ n2_; (try clear hb); (try clear hb2); (try clear hk); (try clear hi)))
                      go_meet
                      case rel => exact ⟨_, (0), (0), (t431), (t432), (t433), (t434), (by first | rfl | (simp; done) | (simp only [i64_w, i32_w]; done) | (simp [*]; done) | (simp only [i64_w, i32_w]; first | rfl | (simp; done) | (simp [*]; done))), (by first | rfl | (simp; done) | (simp only [i64_w, i32_w]; done) | (simp [*]; done) | (simp only [i64_w, i32_w]; first | rfl | (simp; done) | (simp [*]; done))), H', ⟨by have := HJ4.out; have := HK2.out; have := HJ16.out; first | omega | exact Nat.le_refl _⟩, ⟨by repeat (first | (with_reducible first | exact HI416.out | apply IsS57.alloc | apply IsS57.drewN | apply IsS57.drew | apply IsS57.set_1 | apply IsS57.set_2) | exact HI416.out)⟩, ⟨by repeat (first | (with_reducible first | exact HI423.out | apply IsS49.alloc | apply IsS49.drewN | apply IsS49.drew | apply IsS49.set_1 | apply IsS49.set_2) | exact HI423.out)⟩, ⟨by repeat (first | (with_reducible first | exact HB.out | apply below_alloc | apply pw_below_drewN | apply below_drew1 | refine below_set ?_ (IsS57.ge HI416.out) | refine below_set ?_ (IsS49.ge HI423.out)) | exact HB.out)⟩⟩
                    · replace c21 := Bool.eq_false_iff.mpr c21
                      subst c21
                      have H1 : (if 0 ≤ x10_2 then (if x10_2 < (l1.length : Int) then ((bits_Reader_Take.f kj16 t413 x417001_2 x417002_2 (rd l1 x10_2)).bind fun bt436 => ((serinetteref01_Reader_Take.f t420 x424001_2 x424002_2 (rd l1 x10_2)).bind fun bt440 => (serinettelaw01_BitsTake.j3 kj16 l1 l2 t412 x10_2 bt436.1 bt440.1 t413 bt436.2.1 bt436.2.2 t420 bt440.2.1 bt440.2.2))) else (none)) else (none)) = some r := by rw [if_neg (show ¬ (false = true) by decide)] at H; exact H
                      clear H
                      have H := H1
                      clear H1
                      by_cases c26 : 0 ≤ x10_2
                      · rw [if_pos c26] at H
                        have c26b0 : decide (0 ≤ x10_2) = true := decide_eq_true c26
                        clear c26
                        (first | rw [c26b0] | (simp only [i64_w, i32_w]; rw [c26b0]) | skip)
                        by_cases c27 : x10_2 < (l1.length : Int)
                        · rw [if_pos c27] at H
                          have c27b0 : decide (x10_2 < (l1.length : Int)) = true := decide_eq_true c27
                          clear c27
                          replace H := Option.bind_eq_some_iff.mp H
                          obtain ⟨⟨t436, t437, t438⟩, A280, H⟩ := H
                          replace H : ((serinetteref01_Reader_Take.f t420 x424001_2 x424002_2 (rd l1 x10_2)).bind fun bt440 => (serinettelaw01_BitsTake.j3 kj16 l1 l2 t412 x10_2 t436 bt440.1 t413 t437 t438 t420 bt440.2.1 bt440.2.2)) = some r := H
                          have A28 := Aside0.mk A280
                          clear A280
                          replace H := Option.bind_eq_some_iff.mp H
                          obtain ⟨⟨t440, t441, t442⟩, A290, H⟩ := H
                          replace H : (serinettelaw01_BitsTake.j3 kj16 l1 l2 t412 x10_2 t436 t440 t413 t437 t438 t420 t441 t442) = some r := H
                          have A29 := Aside0.mk A290
                          clear A290
                          have H' := Aside0.mk H
                          clear H
                          have p435 : 0 ≤ (x10_2 : Int) := of_decide_eq_true (by first | (with_reducible assumption) | assumption)
                          have q435 : x10_2 < (l1.length : Int) := of_decide_eq_true (by first | (with_reducible assumption) | assumption)
                          obtain ⟨ad435, e435, hx435_0⟩ := Kd.at_int HR1.out x10_2 p435 q435
                          cases e435
                          replace hx435_0 := (HB.out.cell (World.block_lt_of_cell? w _ hx435_0)).trans hx435_0
                          replace p435 := eq_true p435
                          replace q435 := eq_true q435
                          go_wp2_with (first | ((with_reducible refine gate_callee (f := 19) rfl ?_); refine goesL_ (some 56) rfl rfl Try.func19 (by kernel_rfl) rfl #[.pointer (some ⟨g416, 0, none⟩), .int .i64 (rd l1 x10_2)] rfl (by (try simp only [List.map_toArray, List.map_cons, List.map_nil]); first | done | rfl | (simp only [List.length_drop, List.length_take]; rfl)) ?_; (with_reducible refine (bits_Reader_Take.calls kj16 g416 t413 x417001_2 x417002_2 (rd l1 x10_2) t436 t437 t438 w _ ?side1 ?side2 A28.out).mono ?_); (case side1 => repeat (first | (with_reducible first | exact HI416.out | apply IsS57.alloc | apply IsS57.drewN | apply IsS57.drew | apply IsS57.set_1 | apply IsS57.set_2) | exact HI416.out)); (case side2 => repeat (first | (with_reducible first | exact HB.out | apply below_alloc | apply pw_below_drewN | apply below_drew1 | refine below_set ?_ (IsS57.ge HI416.out) | refine below_set ?_ (IsS49.ge HI423.out)) | exact HB.out)); rintro e w30 ⟨rfl, hi, hb, hk⟩; refine ⟨_, rfl, ?_⟩; have n0_ := Aside0.mk (IsS49.keepG (by repeat (first | (with_reducible first | exact HI423.out | apply IsS49.alloc | apply IsS49.drewN | apply IsS49.drew | apply IsS49.set_1 | apply IsS49.set_2) | exact HI423.out)) (IsS57.blk (show IsS57 w _ g416 t413 x417001_2 x417002_2 from by repeat (first | (with_reducible first | exact HI416.out | apply IsS57.alloc | apply IsS57.drewN | apply IsS57.drew | apply IsS57.set_1 | apply IsS57.set_2) | exact HI416.out))).choose_spec (by decide) hk); have n1_ := Aside0.mk (hb); have n2_ := Aside0.mk (hi); clear HI423; clear HB; clear HI416; have HI423 := n0_; have HB := n1_; have HI416 := n2_; clear n0_ n1_ n2_; (try clear hb); (try clear hb2); (try clear hk); (try clear hi); have p439 : 0 ≤ (x10_2 : Int) := of_decide_eq_true (by first | (with_reducible assumption) | assumption); have q439 : x10_2 < (l1.length : Int) := of_decide_eq_true (by first | (with_reducible assumption) | assumption); obtain ⟨ad439, e439, hx439_0⟩ := Kd.at_int HR1.out x10_2 p439 q439; obtain rfl : ad435 = ad439 := (by injection e439); replace hx439_0 := (HB.out.cell (World.block_lt_of_cell? w _ hx439_0)).trans hx439_0; replace p439 := eq_true p439; replace q439 := eq_true q439) | ((with_reducible refine gate_callee (f := 27) rfl ?_); refine goesL_ (some 62) rfl rfl Try.func27 (by kernel_rfl) rfl #[.pointer (some ⟨g423, 0, none⟩), .int .i64 (rd l1 x10_2)] rfl (by (try simp only [List.map_toArray, List.map_cons, List.map_nil]); first | done | rfl | (simp only [List.length_drop, List.length_take]; rfl)) ?_; (with_reducible refine (serinetteref01_Reader_Take.calls g423 t420 x424001_2 x424002_2 (rd l1 x10_2) t440 t441 t442 w _ ?side1 ?side2 A29.out).mono ?_); (case side1 => repeat (first | (with_reducible first | exact HI423.out | apply IsS49.alloc | apply IsS49.drewN | apply IsS49.drew | apply IsS49.set_1 | apply IsS49.set_2) | exact HI423.out)); (case side2 => repeat (first | (with_reducible first | exact HB.out | apply below_alloc | apply pw_below_drewN | apply below_drew1 | refine below_set ?_ (IsS57.ge HI416.out) | refine below_set ?_ (IsS49.ge HI423.out)) | exact HB.out)); rintro e w31 ⟨rfl, hi, hb, hk⟩; refine ⟨_, rfl, ?_⟩; have n0_ := Aside0.mk (IsS57.keepG (by repeat (first | (with_reducible first | exact HI416.out | apply IsS57.alloc | apply IsS57.drewN | apply IsS57.drew | apply IsS57.set_1 | apply IsS57.set_2) | exact HI416.out)) (IsS49.blk (show IsS49 w _ g423 t420 x424001_2 x424002_2 from by repeat (first | (with_reducible first | exact HI423.out | apply IsS49.alloc | apply IsS49.drewN | apply IsS49.drew | apply IsS49.set_1 | apply IsS49.set_2) | exact HI423.out))).choose_spec (by decide) hk); have n1_ := Aside0.mk (hb); have n2_ := Aside0.mk (hi); clear HI416; clear HB; clear HI423; have HI416 := n0_; have HB := n1_; have HI423 := n2_; clear n0_ n1_ n2_; (try clear hb); (try clear hb2); (try clear hk); (try clear hi)))
                          go_meet
                          case rel => exact ⟨_, (t436), (t440), (t437), (t438), (t441), (t442), (by first | rfl | (simp; done) | (simp only [i64_w, i32_w]; done) | (simp [*]; done) | (simp only [i64_w, i32_w]; first | rfl | (simp; done) | (simp [*]; done))), (by first | rfl | (simp; done) | (simp only [i64_w, i32_w]; done) | (simp [*]; done) | (simp only [i64_w, i32_w]; first | rfl | (simp; done) | (simp [*]; done))), H', ⟨by have := HJ4.out; have := HK2.out; have := HJ16.out; first | omega | exact Nat.le_refl _⟩, ⟨by repeat (first | (with_reducible first | exact HI416.out | apply IsS57.alloc | apply IsS57.drewN | apply IsS57.drew | apply IsS57.set_1 | apply IsS57.set_2) | exact HI416.out)⟩, ⟨by repeat (first | (with_reducible first | exact HI423.out | apply IsS49.alloc | apply IsS49.drewN | apply IsS49.drew | apply IsS49.set_1 | apply IsS49.set_2) | exact HI423.out)⟩, ⟨by repeat (first | (with_reducible first | exact HB.out | apply below_alloc | apply pw_below_drewN | apply below_drew1 | refine below_set ?_ (IsS57.ge HI416.out) | refine below_set ?_ (IsS49.ge HI423.out)) | exact HB.out)⟩⟩
                        · rw [if_neg c27] at H
                          exact absurd H (by simp)
                      · rw [if_neg c26] at H
                        exact absurd H (by simp)
                  case rest =>
                    clear HC20
                    try clear c1
                    try clear c2
                    try clear p2
                    try clear p4
                    try clear q4
                    try clear hx4
                    try clear c5
                    try clear c7
                    try clear c7b0
                    try clear c7b1
                    try clear c8
                    try clear c9
                    try clear c16
                    try clear c16b0
                    try clear c18
                    try clear c18b0
                    try clear c19
                    try clear c19b0
                    try clear c21
                    try clear c23
                    try clear c25
                    try clear c26
                    try clear c26b0
                    try clear c27
                    try clear c27b0
                    try clear hx430_0
                    try clear hx435_0
                    try clear hx439_0
                    try clear p2
                    try clear p4
                    try clear p430
                    try clear p435
                    try clear p439
                    try clear q4
                    try clear q430
                    try clear q435
                    try clear q439
                    obtain ⟨kq, x11_19, x12_19, x417001_19, x417002_19, x424001_19, x424002_19, rfl, rfl, HA, HJ19, HI416, HI423, HB⟩ := hcut
                    cases kq with
                    | zero => exact absurd HA.out (by simp [serinettelaw01_BitsTake.j3])
                    | succ kj19 =>
                      have H := HA.out
                      clear HA
                      simp only [serinettelaw01_BitsTake.j3] at H
                      by_cases c32 : x11_19 = x12_19
                      · rw [if_pos c32] at H
                        have c32b0 : (x11_19 == x12_19) = true := beq_iff_eq.mpr c32
                        have c32b1 : (x11_19 != x12_19) = false := bne_eq_false_iff_eq.mpr c32
                        clear c32
                        replace H := Option.bind_eq_some_iff.mp H
                        obtain ⟨⟨t443, t444, t445⟩, A330, H⟩ := H
                        replace H : ((serinetteshadow_LenL.f t420 x424001_19 x424002_19).bind fun bt446 => ((serinetteshadow_AtK.f t420 bt446.2.1 bt446.2.2).bind fun bt449 => (if t443 = (wrap64 (bt446.1 - bt449.1)) then ((bits_Reader_At.f t413 t444 t445).bind fun bt452 => ((serinetteshadow_AtK.f t420 bt449.2.1 bt449.2.2).bind fun bt455 => (if bt452.1 = bt455.1 then ((bits_Reader_Fail.f t413 bt452.2.1 bt452.2.2).bind fun bt458 => ((serinetteshadow_ErrE.f t420 bt455.2.1 bt455.2.2).bind fun bt461 => (if bt458.1 = bt461.1 then ((bits_Reader_End.f t413 bt458.2.1 bt458.2.2).bind fun bt464 => ((serinetteref01_Reader_End.f t420 bt461.2.1 bt461.2.2).bind fun bt467 => (if bt464.1 = bt467.1 then (serinettelaw01_BitsTake.l0 kj19 l1 l2 t412 (wrap64 (x10_2 + 1)) t413 bt464.2.1 bt464.2.2 t420 bt467.2.1 bt467.2.2) else (some false)))) else (some false)))) else (some false)))) else (some false)))) = some r := H
                        have A33 := Aside0.mk A330
                        clear A330
                        obtain ⟨rfl, rfl⟩ := bits_Reader_Left.same A33.out
                        replace H := Option.bind_eq_some_iff.mp H
                        obtain ⟨⟨t446, t447, t448⟩, A340, H⟩ := H
                        replace H : ((serinetteshadow_AtK.f t420 t447 t448).bind fun bt449 => (if t443 = (wrap64 (t446 - bt449.1)) then ((bits_Reader_At.f t413 x417001_19 x417002_19).bind fun bt452 => ((serinetteshadow_AtK.f t420 bt449.2.1 bt449.2.2).bind fun bt455 => (if bt452.1 = bt455.1 then ((bits_Reader_Fail.f t413 bt452.2.1 bt452.2.2).bind fun bt458 => ((serinetteshadow_ErrE.f t420 bt455.2.1 bt455.2.2).bind fun bt461 => (if bt458.1 = bt461.1 then ((bits_Reader_End.f t413 bt458.2.1 bt458.2.2).bind fun bt464 => ((serinetteref01_Reader_End.f t420 bt461.2.1 bt461.2.2).bind fun bt467 => (if bt464.1 = bt467.1 then (serinettelaw01_BitsTake.l0 kj19 l1 l2 t412 (wrap64 (x10_2 + 1)) t413 bt464.2.1 bt464.2.2 t420 bt467.2.1 bt467.2.2) else (some false)))) else (some false)))) else (some false)))) else (some false))) = some r := H
                        have A34 := Aside0.mk A340
                        clear A340
                        obtain ⟨rfl, rfl, rfl⟩ := serinetteshadow_LenL.same A34.out
                        replace H := Option.bind_eq_some_iff.mp H
                        obtain ⟨⟨t449, t450, t451⟩, A350, H⟩ := H
                        replace H : (if t443 = (wrap64 ((t420.length : Int) - t449)) then ((bits_Reader_At.f t413 x417001_19 x417002_19).bind fun bt452 => ((serinetteshadow_AtK.f t420 t450 t451).bind fun bt455 => (if bt452.1 = bt455.1 then ((bits_Reader_Fail.f t413 bt452.2.1 bt452.2.2).bind fun bt458 => ((serinetteshadow_ErrE.f t420 bt455.2.1 bt455.2.2).bind fun bt461 => (if bt458.1 = bt461.1 then ((bits_Reader_End.f t413 bt458.2.1 bt458.2.2).bind fun bt464 => ((serinetteref01_Reader_End.f t420 bt461.2.1 bt461.2.2).bind fun bt467 => (if bt464.1 = bt467.1 then (serinettelaw01_BitsTake.l0 kj19 l1 l2 t412 (wrap64 (x10_2 + 1)) t413 bt464.2.1 bt464.2.2 t420 bt467.2.1 bt467.2.2) else (some false)))) else (some false)))) else (some false)))) else (some false)) = some r := H
                        have A35 := Aside0.mk A350
                        clear A350
                        obtain ⟨rfl, rfl, rfl⟩ := serinetteshadow_AtK.same A35.out
                        by_cases c36 : t443 = (wrap64 ((t420.length : Int) - x424001_19))
                        · rw [if_pos c36] at H
                          have c36b0 : (t443 == (wrap64 ((t420.length : Int) - x424001_19))) = true := beq_iff_eq.mpr c36
                          have c36b1 : (t443 != (wrap64 ((t420.length : Int) - x424001_19))) = false := bne_eq_false_iff_eq.mpr c36
                          clear c36
                          replace H := Option.bind_eq_some_iff.mp H
                          obtain ⟨⟨t452, t453, t454⟩, A370, H⟩ := H
                          replace H : ((serinetteshadow_AtK.f t420 x424001_19 x424002_19).bind fun bt455 => (if t452 = bt455.1 then ((bits_Reader_Fail.f t413 t453 t454).bind fun bt458 => ((serinetteshadow_ErrE.f t420 bt455.2.1 bt455.2.2).bind fun bt461 => (if bt458.1 = bt461.1 then ((bits_Reader_End.f t413 bt458.2.1 bt458.2.2).bind fun bt464 => ((serinetteref01_Reader_End.f t420 bt461.2.1 bt461.2.2).bind fun bt467 => (if bt464.1 = bt467.1 then (serinettelaw01_BitsTake.l0 kj19 l1 l2 t412 (wrap64 (x10_2 + 1)) t413 bt464.2.1 bt464.2.2 t420 bt467.2.1 bt467.2.2) else (some false)))) else (some false)))) else (some false))) = some r := H
                          have A37 := Aside0.mk A370
                          clear A370
                          obtain ⟨rfl, rfl⟩ := bits_Reader_At.same A37.out
                          replace H := Option.bind_eq_some_iff.mp H
                          obtain ⟨⟨t455, t456, t457⟩, A380, H⟩ := H
                          replace H : (if t452 = t455 then ((bits_Reader_Fail.f t413 x417001_19 x417002_19).bind fun bt458 => ((serinetteshadow_ErrE.f t420 t456 t457).bind fun bt461 => (if bt458.1 = bt461.1 then ((bits_Reader_End.f t413 bt458.2.1 bt458.2.2).bind fun bt464 => ((serinetteref01_Reader_End.f t420 bt461.2.1 bt461.2.2).bind fun bt467 => (if bt464.1 = bt467.1 then (serinettelaw01_BitsTake.l0 kj19 l1 l2 t412 (wrap64 (x10_2 + 1)) t413 bt464.2.1 bt464.2.2 t420 bt467.2.1 bt467.2.2) else (some false)))) else (some false)))) else (some false)) = some r := H
                          have A38 := Aside0.mk A380
                          clear A380
                          obtain ⟨rfl, rfl, rfl⟩ := serinetteshadow_AtK.same A38.out
                          by_cases c39 : t452 = x424001_19
                          · rw [if_pos c39] at H
                            have c39b0 : (t452 == x424001_19) = true := beq_iff_eq.mpr c39
                            have c39b1 : (t452 != x424001_19) = false := bne_eq_false_iff_eq.mpr c39
                            clear c39
                            replace H := Option.bind_eq_some_iff.mp H
                            obtain ⟨⟨t458, t459, t460⟩, A400, H⟩ := H
                            replace H : ((serinetteshadow_ErrE.f t420 x424001_19 x424002_19).bind fun bt461 => (if t458 = bt461.1 then ((bits_Reader_End.f t413 t459 t460).bind fun bt464 => ((serinetteref01_Reader_End.f t420 bt461.2.1 bt461.2.2).bind fun bt467 => (if bt464.1 = bt467.1 then (serinettelaw01_BitsTake.l0 kj19 l1 l2 t412 (wrap64 (x10_2 + 1)) t413 bt464.2.1 bt464.2.2 t420 bt467.2.1 bt467.2.2) else (some false)))) else (some false))) = some r := H
                            have A40 := Aside0.mk A400
                            clear A400
                            obtain ⟨rfl, rfl⟩ := bits_Reader_Fail.same A40.out
                            replace H := Option.bind_eq_some_iff.mp H
                            obtain ⟨⟨t461, t462, t463⟩, A410, H⟩ := H
                            replace H : (if t458 = t461 then ((bits_Reader_End.f t413 x417001_19 x417002_19).bind fun bt464 => ((serinetteref01_Reader_End.f t420 t462 t463).bind fun bt467 => (if bt464.1 = bt467.1 then (serinettelaw01_BitsTake.l0 kj19 l1 l2 t412 (wrap64 (x10_2 + 1)) t413 bt464.2.1 bt464.2.2 t420 bt467.2.1 bt467.2.2) else (some false)))) else (some false)) = some r := H
                            have A41 := Aside0.mk A410
                            clear A410
                            obtain ⟨rfl, rfl, rfl⟩ := serinetteshadow_ErrE.same A41.out
                            by_cases c42 : t458 = x424002_19
                            · rw [if_pos c42] at H
                              have c42b0 : (t458 == x424002_19) = true := beq_iff_eq.mpr c42
                              have c42b1 : (t458 != x424002_19) = false := bne_eq_false_iff_eq.mpr c42
                              clear c42
                              replace H := Option.bind_eq_some_iff.mp H
                              obtain ⟨⟨t464, t465, t466⟩, A430, H⟩ := H
                              replace H : ((serinetteref01_Reader_End.f t420 x424001_19 x424002_19).bind fun bt467 => (if t464 = bt467.1 then (serinettelaw01_BitsTake.l0 kj19 l1 l2 t412 (wrap64 (x10_2 + 1)) t413 t465 t466 t420 bt467.2.1 bt467.2.2) else (some false))) = some r := H
                              have A43 := Aside0.mk A430
                              clear A430
                              obtain ⟨rfl, rfl⟩ := bits_Reader_End.same A43.out
                              replace H := Option.bind_eq_some_iff.mp H
                              obtain ⟨⟨t467, t468, t469⟩, A440, H⟩ := H
                              replace H : (if t464 = t467 then (serinettelaw01_BitsTake.l0 kj19 l1 l2 t412 (wrap64 (x10_2 + 1)) t413 x417001_19 x417002_19 t420 t468 t469) else (some false)) = some r := H
                              have A44 := Aside0.mk A440
                              clear A440
                              obtain ⟨rfl, rfl⟩ := serinetteref01_Reader_End.same A44.out
                              by_cases c45 : t464 = t467
                              · rw [if_pos c45] at H
                                have c45b0 : (t464 == t467) = true := beq_iff_eq.mpr c45
                                have c45b1 : (t464 != t467) = false := bne_eq_false_iff_eq.mpr c45
                                clear c45
                                have H' := Aside0.mk H
                                clear H
                                obtain ⟨ASq_0, cSq_0, HGq, hgq, HSq_0⟩ := HI423.out
                                have hcq_0 := cellS49_0 HGq
                                have hcq_1 := cellS49_1 HGq
                                have hcq_2 := cellS49_2 HGq
                                clear HGq hgq
                                try go_wp2
                                go_quiet (first | (go_at_call 22; exact Calls.quiet_of (bits_Reader_Left.quiet g416 t413 x417001_19 x417002_19 t443 x417001_19 x417002_19 w _ (IsS57.drewN HI416.out _) A33.out)) | (go_at_call 20; exact Calls.quiet_of (bits_Reader_At.quiet g416 t413 x417001_19 x417002_19 t452 x417001_19 x417002_19 w _ (IsS57.drewN HI416.out _) A37.out)) | (go_at_call 21; exact Calls.quiet_of (bits_Reader_Fail.quiet g416 t413 x417001_19 x417002_19 t458 x417001_19 x417002_19 w _ (IsS57.drewN HI416.out _) A40.out)) | (go_at_call 24; exact Calls.quiet_of (bits_Reader_End.quiet g416 t413 x417001_19 x417002_19 t464 x417001_19 x417002_19 w _ (IsS57.drewN HI416.out _) A43.out)) | (go_at_call 28; exact Calls.quiet_of (serinetteref01_Reader_End.quiet g423 t420 x424001_19 x424002_19 t467 x424001_19 x424002_19 w _ (IsS49.drewN HI423.out _) A44.out)))
                                try go_wp2
                                go_roundg kj19
                                case measure => have := HJ4.out; have := HK2.out; have := HJ16.out; have := HJ19.out; omega
                                case rel => exact ⟨(wrap64 (x10_2 + 1)), (x417001_19), (x417002_19), (x424001_19), (x424002_19), (by first | rfl | (simp; done) | (simp only [i64_w, i32_w]; done) | (simp [*]; done) | (simp only [i64_w, i32_w]; first | rfl | (simp; done) | (simp [*]; done))), H', ⟨by have := HJ4.out; have := HK2.out; have := HJ16.out; have := HJ19.out; omega⟩, ⟨by repeat (first | (with_reducible first | exact HI416.out | apply IsS57.alloc | apply IsS57.drewN | apply IsS57.drew | apply IsS57.set_1 | apply IsS57.set_2) | exact HI416.out)⟩, ⟨by repeat (first | (with_reducible first | exact HI423.out | apply IsS49.alloc | apply IsS49.drewN | apply IsS49.drew | apply IsS49.set_1 | apply IsS49.set_2) | exact HI423.out)⟩, ⟨by repeat (first | (with_reducible first | exact HB.out | apply below_alloc | apply pw_below_drewN | apply below_drew1 | refine below_set ?_ (IsS57.ge HI416.out) | refine below_set ?_ (IsS49.ge HI423.out)) | exact HB.out)⟩⟩
                              · rw [if_neg c45] at H
                                have c45b0 : (t464 == t467) = false := beq_eq_false_iff_ne.mpr c45
                                have c45b1 : (t464 != t467) = true := bne_iff_ne.mpr c45
                                obtain rfl := Option.some.inj H
                                obtain ⟨ASq_0, cSq_0, HGq, hgq, HSq_0⟩ := HI423.out
                                have hcq_0 := cellS49_0 HGq
                                have hcq_1 := cellS49_1 HGq
                                have hcq_2 := cellS49_2 HGq
                                clear HGq hgq
                                try go_wp2
                                go_quiet (first | (go_at_call 22; exact Calls.quiet_of (bits_Reader_Left.quiet g416 t413 x417001_19 x417002_19 t443 x417001_19 x417002_19 w _ (IsS57.drewN HI416.out _) A33.out)) | (go_at_call 20; exact Calls.quiet_of (bits_Reader_At.quiet g416 t413 x417001_19 x417002_19 t452 x417001_19 x417002_19 w _ (IsS57.drewN HI416.out _) A37.out)) | (go_at_call 21; exact Calls.quiet_of (bits_Reader_Fail.quiet g416 t413 x417001_19 x417002_19 t458 x417001_19 x417002_19 w _ (IsS57.drewN HI416.out _) A40.out)) | (go_at_call 24; exact Calls.quiet_of (bits_Reader_End.quiet g416 t413 x417001_19 x417002_19 t464 x417001_19 x417002_19 w _ (IsS57.drewN HI416.out _) A43.out)) | (go_at_call 28; exact Calls.quiet_of (serinetteref01_Reader_End.quiet g423 t420 x424001_19 x424002_19 t467 x424001_19 x424002_19 w _ (IsS49.drewN HI423.out _) A44.out)))
                                try go_wp2
                                go_ret
                                exact ⟨by first | rfl | (simp [errW_none, errW_some] <;> rfl) | (simp [*, errW_none, errW_some] <;> rfl), by repeat (first | (with_reducible first | exact HB.out | apply below_alloc | apply pw_below_drewN | apply below_drew1 | refine below_set ?_ (IsS57.ge HI416.out) | refine below_set ?_ (IsS49.ge HI423.out)) | exact HB.out)⟩
                            · rw [if_neg c42] at H
                              have c42b0 : (t458 == x424002_19) = false := beq_eq_false_iff_ne.mpr c42
                              have c42b1 : (t458 != x424002_19) = true := bne_iff_ne.mpr c42
                              obtain rfl := Option.some.inj H
                              obtain ⟨ASq_0, cSq_0, HGq, hgq, HSq_0⟩ := HI423.out
                              have hcq_0 := cellS49_0 HGq
                              have hcq_1 := cellS49_1 HGq
                              have hcq_2 := cellS49_2 HGq
                              clear HGq hgq
                              try go_wp2
                              go_quiet (first | (go_at_call 22; exact Calls.quiet_of (bits_Reader_Left.quiet g416 t413 x417001_19 x417002_19 t443 x417001_19 x417002_19 w _ (IsS57.drewN HI416.out _) A33.out)) | (go_at_call 20; exact Calls.quiet_of (bits_Reader_At.quiet g416 t413 x417001_19 x417002_19 t452 x417001_19 x417002_19 w _ (IsS57.drewN HI416.out _) A37.out)) | (go_at_call 21; exact Calls.quiet_of (bits_Reader_Fail.quiet g416 t413 x417001_19 x417002_19 t458 x417001_19 x417002_19 w _ (IsS57.drewN HI416.out _) A40.out)) | (go_at_call 24; exact Calls.quiet_of (bits_Reader_End.quiet g416 t413 x417001_19 x417002_19 t464 x417001_19 x417002_19 w _ (IsS57.drewN HI416.out _) A43.out)) | (go_at_call 28; exact Calls.quiet_of (serinetteref01_Reader_End.quiet g423 t420 x424001_19 x424002_19 t467 x424001_19 x424002_19 w _ (IsS49.drewN HI423.out _) A44.out)))
                              try go_wp2
                              go_ret
                              exact ⟨by first | rfl | (simp [errW_none, errW_some] <;> rfl) | (simp [*, errW_none, errW_some] <;> rfl), by repeat (first | (with_reducible first | exact HB.out | apply below_alloc | apply pw_below_drewN | apply below_drew1 | refine below_set ?_ (IsS57.ge HI416.out) | refine below_set ?_ (IsS49.ge HI423.out)) | exact HB.out)⟩
                          · rw [if_neg c39] at H
                            have c39b0 : (t452 == x424001_19) = false := beq_eq_false_iff_ne.mpr c39
                            have c39b1 : (t452 != x424001_19) = true := bne_iff_ne.mpr c39
                            obtain rfl := Option.some.inj H
                            obtain ⟨ASq_0, cSq_0, HGq, hgq, HSq_0⟩ := HI423.out
                            have hcq_0 := cellS49_0 HGq
                            have hcq_1 := cellS49_1 HGq
                            have hcq_2 := cellS49_2 HGq
                            clear HGq hgq
                            try go_wp2
                            go_quiet (first | (go_at_call 22; exact Calls.quiet_of (bits_Reader_Left.quiet g416 t413 x417001_19 x417002_19 t443 x417001_19 x417002_19 w _ (IsS57.drewN HI416.out _) A33.out)) | (go_at_call 20; exact Calls.quiet_of (bits_Reader_At.quiet g416 t413 x417001_19 x417002_19 t452 x417001_19 x417002_19 w _ (IsS57.drewN HI416.out _) A37.out)) | (go_at_call 21; exact Calls.quiet_of (bits_Reader_Fail.quiet g416 t413 x417001_19 x417002_19 t458 x417001_19 x417002_19 w _ (IsS57.drewN HI416.out _) A40.out)))
                            try go_wp2
                            go_ret
                            exact ⟨by first | rfl | (simp [errW_none, errW_some] <;> rfl) | (simp [*, errW_none, errW_some] <;> rfl), by repeat (first | (with_reducible first | exact HB.out | apply below_alloc | apply pw_below_drewN | apply below_drew1 | refine below_set ?_ (IsS57.ge HI416.out) | refine below_set ?_ (IsS49.ge HI423.out)) | exact HB.out)⟩
                        · rw [if_neg c36] at H
                          have c36b0 : (t443 == (wrap64 ((t420.length : Int) - x424001_19))) = false := beq_eq_false_iff_ne.mpr c36
                          have c36b1 : (t443 != (wrap64 ((t420.length : Int) - x424001_19))) = true := bne_iff_ne.mpr c36
                          obtain rfl := Option.some.inj H
                          obtain ⟨ASq_0, cSq_0, HGq, hgq, HSq_0⟩ := HI423.out
                          have hcq_0 := cellS49_0 HGq
                          have hcq_1 := cellS49_1 HGq
                          have hcq_2 := cellS49_2 HGq
                          clear HGq hgq
                          try go_wp2
                          go_quiet (first | (go_at_call 22; exact Calls.quiet_of (bits_Reader_Left.quiet g416 t413 x417001_19 x417002_19 t443 x417001_19 x417002_19 w _ (IsS57.drewN HI416.out _) A33.out)) | (go_at_call 20; exact Calls.quiet_of (bits_Reader_At.quiet g416 t413 x417001_19 x417002_19 t452 x417001_19 x417002_19 w _ (IsS57.drewN HI416.out _) A37.out)))
                          try go_wp2
                          go_ret
                          exact ⟨by first | rfl | (simp [errW_none, errW_some] <;> rfl) | (simp [*, errW_none, errW_some] <;> rfl), by repeat (first | (with_reducible first | exact HB.out | apply below_alloc | apply pw_below_drewN | apply below_drew1 | refine below_set ?_ (IsS57.ge HI416.out) | refine below_set ?_ (IsS49.ge HI423.out)) | exact HB.out)⟩
                      · rw [if_neg c32] at H
                        have c32b0 : (x11_19 == x12_19) = false := beq_eq_false_iff_ne.mpr c32
                        have c32b1 : (x11_19 != x12_19) = true := bne_iff_ne.mpr c32
                        obtain rfl := Option.some.inj H
                        obtain ⟨ASq_0, cSq_0, HGq, hgq, HSq_0⟩ := HI423.out
                        have hcq_0 := cellS49_0 HGq
                        have hcq_1 := cellS49_1 HGq
                        have hcq_2 := cellS49_2 HGq
                        clear HGq hgq
                        try go_wp2
                        go_quiet (first | (go_at_call 22; exact Calls.quiet_of (bits_Reader_Left.quiet g416 t413 x417001_19 x417002_19 t443 x417001_19 x417002_19 w _ (IsS57.drewN HI416.out _) A33.out)))
                        try go_wp2
                        go_ret
                        exact ⟨by first | rfl | (simp [errW_none, errW_some] <;> rfl) | (simp [*, errW_none, errW_some] <;> rfl), by repeat (first | (with_reducible first | exact HB.out | apply below_alloc | apply pw_below_drewN | apply below_drew1 | refine below_set ?_ (IsS57.ge HI416.out) | refine below_set ?_ (IsS49.ge HI423.out)) | exact HB.out)⟩
            · rw [if_neg c16] at H
              have c16b0 : decide (x10_2 < (l1.length : Int)) = false := decide_eq_false c16
              clear c16
              by_cases c90 : t412 = true
              · subst c90
                have H1 : ((bits_Reader_End.f t413 x417001_2 x417002_2).bind fun bt424 => ((serinetteref01_Reader_End.f t420 x424001_2 x424002_2).bind fun bt427 => (some (bt424.1 == bt427.1)))) = some r := by rw [if_pos rfl] at H; exact H
                clear H
                have H := H1
                clear H1
                replace H := Option.bind_eq_some_iff.mp H
                obtain ⟨⟨t424, t425, t426⟩, A910, H⟩ := H
                replace H : ((serinetteref01_Reader_End.f t420 x424001_2 x424002_2).bind fun bt427 => (some (t424 == bt427.1))) = some r := H
                have A91 := Aside0.mk A910
                clear A910
                replace H := Option.bind_eq_some_iff.mp H
                obtain ⟨⟨t427, t428, t429⟩, A920, H⟩ := H
                replace H : (some (t424 == t427)) = some r := H
                have A92 := Aside0.mk A920
                clear A920
                obtain rfl := Option.some.inj H
                go_wp2_with (first | (go_at_call 24; (with_reducible refine (bits_Reader_End.calls g416 t413 x417001_2 x417002_2 t424 t425 t426 w _ ?side1 ?side2 A91.out).mono ?_); (case side1 => repeat (first | (with_reducible first | exact HI416.out | apply IsS57.alloc | apply IsS57.drewN | apply IsS57.drew | apply IsS57.set_1 | apply IsS57.set_2) | exact HI416.out)); (case side2 => repeat (first | (with_reducible first | exact HB.out | apply below_alloc | apply pw_below_drewN | apply below_drew1 | refine below_set ?_ (IsS57.ge HI416.out) | refine below_set ?_ (IsS49.ge HI423.out)) | exact HB.out)); rintro e w93 ⟨rfl, hi, hb, hk⟩; have n0_ := Aside0.mk (IsS49.keepG (by repeat (first | (with_reducible first | exact HI423.out | apply IsS49.alloc | apply IsS49.drewN | apply IsS49.drew | apply IsS49.set_1 | apply IsS49.set_2) | exact HI423.out)) (IsS57.blk (show IsS57 w _ g416 t413 x417001_2 x417002_2 from by repeat (first | (with_reducible first | exact HI416.out | apply IsS57.alloc | apply IsS57.drewN | apply IsS57.drew | apply IsS57.set_1 | apply IsS57.set_2) | exact HI416.out))).choose_spec (by decide) hk); have n1_ := Aside0.mk (hb); have n2_ := Aside0.mk (hi); clear HI423; clear HB; clear HI416; have HI423 := n0_; have HB := n1_; have HI416 := n2_; clear n0_ n1_ n2_; (try clear hb); (try clear hb2); (try clear hk); (try clear hi)) | (go_at_call 28; (with_reducible refine (serinetteref01_Reader_End.calls g423 t420 x424001_2 x424002_2 t427 t428 t429 w _ ?side1 ?side2 A92.out).mono ?_); (case side1 => repeat (first | (with_reducible first | exact HI423.out | apply IsS49.alloc | apply IsS49.drewN | apply IsS49.drew | apply IsS49.set_1 | apply IsS49.set_2) | exact HI423.out)); (case side2 => repeat (first | (with_reducible first | exact HB.out | apply below_alloc | apply pw_below_drewN | apply below_drew1 | refine below_set ?_ (IsS57.ge HI416.out) | refine below_set ?_ (IsS49.ge HI423.out)) | exact HB.out)); rintro e w94 ⟨rfl, hi, hb, hk⟩; have n0_ := Aside0.mk (IsS57.keepG (by repeat (first | (with_reducible first | exact HI416.out | apply IsS57.alloc | apply IsS57.drewN | apply IsS57.drew | apply IsS57.set_1 | apply IsS57.set_2) | exact HI416.out)) (IsS49.blk (show IsS49 w _ g423 t420 x424001_2 x424002_2 from by repeat (first | (with_reducible first | exact HI423.out | apply IsS49.alloc | apply IsS49.drewN | apply IsS49.drew | apply IsS49.set_1 | apply IsS49.set_2) | exact HI423.out))).choose_spec (by decide) hk); have n1_ := Aside0.mk (hb); have n2_ := Aside0.mk (hi); clear HI416; clear HB; clear HI423; have HI416 := n0_; have HB := n1_; have HI423 := n2_; clear n0_ n1_ n2_; (try clear hb); (try clear hb2); (try clear hk); (try clear hi)))
                go_ret
                exact ⟨by first | rfl | (simp [errW_none, errW_some] <;> rfl) | (simp [*, errW_none, errW_some] <;> rfl), by repeat (first | (with_reducible first | exact HB.out | apply below_alloc | apply pw_below_drewN | apply below_drew1 | refine below_set ?_ (IsS57.ge HI416.out) | refine below_set ?_ (IsS49.ge HI423.out)) | exact HB.out)⟩
              · replace c90 := Bool.eq_false_iff.mpr c90
                subst c90
                have H1 : (some false) = some r := by rw [if_neg (show ¬ (false = true) by decide)] at H; exact H
                clear H
                have H := H1
                clear H1
                obtain rfl := Option.some.inj H
                go_wp2
                go_ret
                exact ⟨by first | rfl | (simp [errW_none, errW_some] <;> rfl) | (simp [*, errW_none, errW_some] <;> rfl), by repeat (first | (with_reducible first | exact HB.out | apply below_alloc | apply pw_below_drewN | apply below_drew1 | refine below_set ?_ (IsS57.ge HI416.out) | refine below_set ?_ (IsS49.ge HI423.out)) | exact HB.out)⟩

end Go.Proofs.Ytcdnabonljmegaa.PA
