/- What rice.Fold, Near, Size answer. Condition: numbers of 64 bits. -/
import Derived.Test.YtpoigjkkcehpdaaPL
import Derived.Laws.Bits64
import Derived.Test.YtpoigjkkcehpdaaPAx5
import Derived.Test.YtpoigjkkcehpdaaPAx5
namespace Go.Proofs.Ytpoigjkkcehpdaa.PL
open Go.RowKit Go.Proofs.Ytpoigjkkcehpdaa.PA Go.Proofs.YtpoigjkkcehpdaaW.PrintWords Go.Proofs.YtpoigjkkcehpdaaW.PrintMore
set_option linter.unusedVariables false
set_option linter.unusedSimpArgs false
theorem u64_wrap (x : Int) : IntKind.u64.wrap x = x % 18446744073709551616 := by
  simp [IntKind.wrap, IntKind.signed, IntKind.bits]
/-- A number without a sign. -/
def fold (n : Int) : Int := if n ≥ 0 then 2 * n else -2 * n - 1
theorem xor_ones (a : Nat) (h : a < 18446744073709551616) : a ^^^ 18446744073709551615 = 18446744073709551615 - a := by
  have e : (18446744073709551615 - a : Nat) = 2 ^ 64 - (a + 1) := by omega
  rw [e]
  apply Nat.eq_of_testBit_eq
  intro i
  rw [Nat.testBit_two_pow_sub_succ (by simpa using h), Nat.testBit_xor, show (18446744073709551615 : Nat) = 2 ^ 64 - 1 by decide, Nat.testBit_two_pow_sub_one]
  by_cases hi : i < 64
  · simp [hi]
  · have : a.testBit i = false := Nat.testBit_lt_two_pow (Nat.lt_of_lt_of_le h (by
      have : (2 : Nat) ^ 64 ≤ 2 ^ i := Nat.pow_le_pow_right (by decide) (by omega)
      simpa using this))
    simp [hi, this]
theorem fold_eq (n : Int) (h : -9223372036854775808 ≤ n ∧ n < 9223372036854775808) : rice_Fold.f n = some (fold n) := by
  unfold rice_Fold.f fold
  simp only [u64_wrap]
  congr 1
  by_cases hn : n ≥ 0
  · obtain ⟨m, rfl⟩ := Int.eq_ofNat_of_zero_le hn
    have e1 : ((m : Int) % 18446744073709551616 * 2) % 18446744073709551616 = ((2 * m : Nat) : Int) := by omega
    have e2 : ((m : Int) / 9223372036854775808) % 18446744073709551616 = ((0 : Nat) : Int) := by omega
    rw [e1, e2, bits_xor_u64_nat _ _ (by omega) (by omega), if_pos hn, Nat.xor_zero]; omega
  · obtain ⟨m, hm⟩ := Int.eq_ofNat_of_zero_le (show 0 ≤ -n - 1 by omega)
    have e1 : (n % 18446744073709551616 * 2) % 18446744073709551616 = ((18446744073709551616 - 2 * m - 2 : Nat) : Int) := by omega
    have e2 : (n / 9223372036854775808) % 18446744073709551616 = ((18446744073709551615 : Nat) : Int) := by omega
    rw [e1, e2, bits_xor_u64_nat _ _ (by omega) (by omega), xor_ones _ (by omega), if_neg hn]; omega
theorem fold_bd (n : Int) (h : -9223372036854775808 ≤ n ∧ n < 9223372036854775808) : 0 ≤ fold n ∧ fold n < 18446744073709551616 := by unfold fold; split <;> omega
def IsNear (n : Int) : Prop := -8589934592 ≤ n ∧ n < 8589934592
instance (n : Int) : Decidable (IsNear n) := by unfold IsNear; infer_instance
theorem near_eq (n : Int) : rice_Near.f n = some (decide (IsNear n)) := by
  unfold rice_Near.f IsNear
  by_cases h : n ≥ -8589934592
  · rw [if_pos h]; congr 1; exact decide_eq_decide.2 ⟨fun g => ⟨h, g⟩, fun g => g.2⟩
  · rw [if_neg h]; congr 1; exact (decide_eq_false (by omega)).symm
theorem fold_near {n : Int} (h : IsNear n) : 0 ≤ fold n ∧ fold n < 17179869184 := by unfold IsNear at h; unfold fold; split <;> omega
def kk (k : Int) : Nat := (max 0 (min k 30)).toNat
theorem kk_le (k : Int) : kk k ≤ 30 := by unfold kk; omega
theorem kk_eq (k : Int) : (mx 0 (mn k 30)) = (kk k : Int) := by unfold mx mn kk; split <;> split <;> omega
theorem kk_nat {k : Nat} (h : k ≤ 30) : kk (k : Int) = k := by unfold kk; omega
/-- How many bits a near number has by a k. -/
def sz (n : Int) (k : Nat) : Int := fold n / 2 ^ k + 1 + k
theorem shr_u64 (x : Int) {s : Nat} (h : s ≤ 64) : shr .u64 x (s : Int) = x / 2 ^ s := by
  unfold shr
  rw [Int.toNat_natCast, show min s IntKind.u64.bits = s by simp [IntKind.bits]; omega]
theorem shr_eq' (x : Int) {s : Nat} (h : s ≤ 64) : shr .i64 x (s : Int) = x / 2 ^ s := by
  unfold shr
  rw [Int.toNat_natCast, show min s IntKind.i64.bits = s by simp [IntKind.bits]; omega]
theorem div_pow_bd {x : Int} {s : Nat} (h : 0 ≤ x) : 0 ≤ x / 2 ^ s ∧ x / 2 ^ s ≤ x := by
  have hp : (0 : Int) < 2 ^ s := Int.pow_pos (by decide)
  exact ⟨Int.ediv_nonneg h (Int.le_of_lt hp), Int.ediv_le_self _ h⟩
theorem sz_bd {n : Int} {k : Nat} (h : IsNear n) (hk : k ≤ 30) : 1 + k ≤ sz n k ∧ sz n k ≤ 17179869300 := by
  have := fold_near h
  have := div_pow_bd (x := fold n) (s := k) this.1
  unfold sz; omega
theorem near_64 {n : Int} (h : IsNear n) : -9223372036854775808 ≤ n ∧ n < 9223372036854775808 := by unfold IsNear at h; omega
theorem size_eq (n k : Int) : rice_Size.f n k = some (if IsNear n then sz n (kk k) else -1) := by
  unfold rice_Size.f
  rw [near_eq]
  simp only [Option.bind_some]
  by_cases h : IsNear n
  · have hf := fold_near h
    have hd := div_pow_bd (x := fold n) (s := kk k) hf.1
    have hk := kk_le k
    rw [if_pos (by simpa using h), if_pos h]
    unfold rice_held.f
    rw [fold_eq n (near_64 h)]
    simp only [Option.bind_some]
    rw [kk_eq, if_pos (by omega), shr_u64 _ (by omega), w64 (x := fold n / 2 ^ kk k) (by omega) (by omega), w64 (x := fold n / 2 ^ kk k + 1) (by omega) (by omega), w64 (by omega) (by omega)]
    rfl
  · rw [if_neg (by simpa using h), if_neg h]
end Go.Proofs.Ytpoigjkkcehpdaa.PL
