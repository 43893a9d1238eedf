/- What serinetteref08.Down answers: rounded down. Condition: a divisor above 0, numbers of 64 bits. -/
import Derived.Test.YtjiecencppahhaaPL
import Derived.Test.YtjiecencppahhaaPAx6
namespace Go.Proofs.Ytjiecencppahhaa.PL
open Go.RowKit Go.Proofs.Ytjiecencppahhaa.PA Go.Proofs.YtjiecencppahhaaW.PrintWords
theorem tdiv_down (a b : Int) (hb : 0 < b) : a / b = if a.tmod b < 0 then a.tdiv b - 1 else a.tdiv b := by
  have e := Int.mul_tdiv_add_tmod a b
  have h1 := Int.tmod_lt_of_pos a hb
  have h2 := Int.lt_tmod_of_pos a hb
  split
  · rename_i h
    refine ((Int.ediv_emod_unique (r := a.tmod b + b) (q := a.tdiv b - 1) hb).2 ⟨?_, by omega, by omega⟩).1
    rw [Int.mul_sub, Int.mul_one]; omega
  · rename_i h
    exact ((Int.ediv_emod_unique (r := a.tmod b) (q := a.tdiv b) hb).2 ⟨by omega, by omega, by omega⟩).1
theorem ediv_bd {a b : Int} (hb : 0 < b) (h : -9223372036854775808 ≤ a ∧ a < 9223372036854775808) : -9223372036854775808 ≤ a / b ∧ a / b < 9223372036854775808 := by
  constructor
  · rw [Int.le_ediv_iff_mul_le hb]
    have : -9223372036854775808 * b ≤ -9223372036854775808 * 1 := Int.mul_le_mul_of_nonpos_left (by omega) (by omega)
    omega
  · rw [Int.ediv_lt_iff_lt_mul hb]
    have : 9223372036854775808 * 1 ≤ 9223372036854775808 * b := Int.mul_le_mul_of_nonneg_left (by omega) (by omega)
    omega
theorem down_eq (a b : Int) (hb : 0 < b) (h : -9223372036854775808 ≤ a ∧ a < 9223372036854775808) : serinetteref08_Down.f a b = some (a / b) := by
  unfold serinetteref08_Down.f
  have hd := ediv_bd hb h
  rw [if_neg (by omega)]
  have e := tdiv_down a b hb
  by_cases hm : a.tmod b < 0
  · rw [if_pos hm] at e ⊢
    rw [w_sub_l, ← e, w64 hd.1 hd.2]
  · rw [if_neg hm] at e ⊢
    rw [← e, w64 hd.1 hd.2]
end Go.Proofs.Ytjiecencppahhaa.PL
