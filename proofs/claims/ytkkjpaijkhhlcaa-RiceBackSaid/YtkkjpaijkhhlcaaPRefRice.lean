/- What serinetteref02.Fold, High, Size answer: what rice.Fold, Size do. Condition: numbers of 64 bits. -/
import Derived.Test.YtkkjpaijkhhlcaaPRice
import Derived.Test.YtkkjpaijkhhlcaaPAx11
namespace Go.Proofs.Ytkkjpaijkhhlcaa.PL
open Go.RowKit Go.Proofs.Ytkkjpaijkhhlcaa.PA Go.Proofs.YtkkjpaijkhhlcaaW.PrintWords
set_option linter.unusedVariables false
theorem ref_fold_eq (n : Int) (h : -9223372036854775808 ≤ n ∧ n < 9223372036854775808) : serinetteref02_Fold.f n = some (fold n) := by
  unfold serinetteref02_Fold.f fold
  simp only [u64_wrap]
  by_cases hn : n ≥ 0
  · rw [if_pos hn, if_pos hn]; congr 1; omega
  · rw [if_neg hn, if_neg hn, w64 (x := n + 1) (by omega) (by omega), w64 (x := -(n + 1)) (by omega) (by omega)]; congr 1; omega
theorem ref_near_eq' (n : Int) : serinetteref02_Near.f n = some (decide (IsNear n)) := by
  unfold serinetteref02_Near.f IsNear
  by_cases h : n ≥ -8589934592
  · rw [if_pos h]; congr 1; exact decide_eq_decide.2 ⟨fun g => ⟨h, by omega⟩, fun g => by omega⟩
  · rw [if_neg h]; congr 1; exact (decide_eq_false (by omega)).symm
theorem high_ev (n k : Int) (h : -9223372036854775808 ≤ n ∧ n < 9223372036854775808) : Ev (fun q => serinetteref02_High.f q n k) (fold n / 2 ^ kk k) := by
  have hk := kk_le k
  have hf := fold_bd n h
  unfold serinetteref02_High.f
  rw [ref_fold_eq n h]
  simp only [Option.bind_some]
  have key : ∀ (d i : Nat), i + d = kk k → Ev (fun q => serinetteref02_High.l0 q k (fold n / 2 ^ i) (i : Int)) (fold n / 2 ^ kk k) := by
    intro d
    induction d with
    | zero =>
      intro i hi
      obtain rfl : i = kk k := by omega
      refine succ ?_
      simp only [serinetteref02_High.l0]
      unfold serinetteref02_K.f
      simp only [Option.bind_some]
      rw [kk_eq]
      exact neg (by omega) (now _)
    | succ d ih =>
      intro i hi
      refine succ ?_
      simp only [serinetteref02_High.l0]
      unfold serinetteref02_K.f
      simp only [Option.bind_some]
      have hd := div_pow_bd (x := fold n) (s := i) hf.1
      have hd2 := div_pow_bd (x := fold n) (s := i + 1) hf.1
      have e : (fold n / 2 ^ i).tdiv 2 = fold n / 2 ^ (i + 1) := by
        rw [Int.tdiv_eq_ediv_of_nonneg hd.1, Int.pow_succ, Int.ediv_ediv_of_nonneg (Int.pow_nonneg (by decide))]
      rw [kk_eq, e, u64_wrap, Int.emod_eq_of_lt hd2.1 (by omega), w64 (x := (i : Int) + 1) (by omega) (by omega)]
      exact pos (by omega) (ih (i + 1) (by omega))
  have := key (kk k) 0 (by omega)
  simpa using this
theorem ref_size_ev (n k : Int) (h : -9223372036854775808 ≤ n ∧ n < 9223372036854775808) : Ev (fun q => serinetteref02_Size.f q n k) (if IsNear n then sz n (kk k) else -1) := by
  unfold serinetteref02_Size.f
  rw [ref_near_eq']
  simp only [Option.bind_some]
  by_cases hn : IsNear n
  · have hf := fold_near hn
    have hd := div_pow_bd (x := fold n) (s := kk k) hf.1
    have hk := kk_le k
    rw [if_pos hn]
    refine pos (by simpa using hn) (bnd (high_ev n k h) ?_)
    unfold serinetteref02_K.f
    simp only [Option.bind_some]
    rw [kk_eq]
    refine cst ?_
    rw [w64 (x := fold n / 2 ^ kk k) (by omega) (by omega), w64 (x := fold n / 2 ^ kk k + 1) (by omega) (by omega), w64 (by omega) (by omega)]
    rfl
  · rw [if_neg hn]
    exact neg (by simpa using hn) (now _)
end Go.Proofs.Ytkkjpaijkhhlcaa.PL
