/- What rice.Unfold answers; Fold and Unfold turn each other back. Condition: numbers of 64 bits. -/
import Derived.Test.YtkkjpaijkhhlcaaPRice
import Derived.Laws.BitsLemmas
import Derived.Test.YtkkjpaijkhhlcaaPAx10
namespace Go.Proofs.Ytkkjpaijkhhlcaa.PL
open Go Go.RowKit Go.Proofs.Ytkkjpaijkhhlcaa.PA Go.Proofs.YtkkjpaijkhhlcaaW.PrintWords
set_option linter.unusedVariables false
/-- A number with its sign. -/
def unfold (u : Int) : Int := if u % 2 = 0 then u / 2 else -(u / 2) - 1
theorem and_one (u : Int) (h : 0 ≤ u ∧ u < 18446744073709551616) : Go.bits .and .u64 u 1 = u % 2 := by
  have hk : ∀ n : Int, 0 ≤ n → n < 2 ^ 64 → IntKind.u64.wrap n = n := by
    intro n h0 h1
    have e : (2 : Int) ^ 64 = 18446744073709551616 := by decide
    rw [e] at h1
    rw [u64_wrap]; omega
  have e : (2 : Int) ^ 64 = 18446744073709551616 := by decide
  have := bits_mask .u64 64 (by decide) hk 1 (by decide) u h.1 (by rw [e]; exact h.2)
  exact this
theorem xor_zero64 (m : Nat) (h : m < 9223372036854775808) : Go.bits .xor .i64 (m : Int) 0 = (m : Int) := by
  have e : (BitVec.ofInt 64 (m : Int) ^^^ BitVec.ofInt 64 0).toNat = m := by
    rw [BitVec.ofInt_natCast, show BitVec.ofInt 64 0 = 0#64 from rfl, BitVec.xor_zero, BitVec.toNat_ofNat]
    exact Nat.mod_eq_of_lt (by omega)
  show IntKind.i64.wrap ((BitVec.ofInt 64 (m : Int) ^^^ BitVec.ofInt 64 0).toNat : Int) = _
  rw [e, Go.IntKind.wrap_i64]; omega
theorem xor_ones64 (m : Nat) (h : m < 9223372036854775808) : Go.bits .xor .i64 (m : Int) (-1) = -(m : Int) - 1 := by
  have e : (BitVec.ofInt 64 (m : Int) ^^^ BitVec.ofInt 64 (-1)).toNat = 18446744073709551615 - m := by
    rw [BitVec.ofInt_natCast, show BitVec.ofInt 64 (-1) = BitVec.allOnes 64 by decide, BitVec.xor_allOnes, BitVec.toNat_not, BitVec.toNat_ofNat, Nat.mod_eq_of_lt (by omega)]
  show IntKind.i64.wrap ((BitVec.ofInt 64 (m : Int) ^^^ BitVec.ofInt 64 (-1)).toNat : Int) = _
  rw [e, Go.IntKind.wrap_i64]; omega
theorem unfold_eq (u : Int) (h : 0 ≤ u ∧ u < 18446744073709551616) : rice_Unfold.f u = some (unfold u) := by
  unfold rice_Unfold.f unfold
  rw [and_one u h, w64 (x := u / 2) (by omega) (by omega)]
  obtain ⟨m, hm⟩ := Int.eq_ofNat_of_zero_le (show 0 ≤ u / 2 by omega)
  have hb : m < 9223372036854775808 := by omega
  rw [hm]
  by_cases hu : u % 2 = 0
  · rw [hu, if_pos rfl, show wrap64 (-(wrap64 0)) = 0 by rw [w64 (x := 0) (by omega) (by omega), w64 (by omega) (by omega)]; rfl, xor_zero64 m hb]
  · rw [show u % 2 = 1 by omega, if_neg (by decide), show wrap64 (-(wrap64 1)) = -1 by rw [w64 (x := 1) (by omega) (by omega), w64 (by omega) (by omega)], xor_ones64 m hb]
theorem unfold_fold (n : Int) : unfold (fold n) = n := by
  unfold unfold fold; split <;> split <;> omega
theorem fold_unfold (u : Int) (h : 0 ≤ u) : fold (unfold u) = u := by
  unfold unfold fold; split <;> split <;> omega
theorem unfold_bd (u : Int) (h : 0 ≤ u ∧ u < 18446744073709551616) : -9223372036854775808 ≤ unfold u ∧ unfold u < 9223372036854775808 := by
  unfold unfold; split <;> omega
theorem fold_inj {a b : Int} (h : fold a = fold b) : a = b := by rw [← unfold_fold a, h, unfold_fold]
theorem fold_odd (n : Int) : fold n % 2 = (if n < 0 then 1 else 0) := by unfold fold; split <;> split <;> omega
end Go.Proofs.Ytkkjpaijkhhlcaa.PL
