/- PcmDepths: what is in a depth is in each greater one; half of it is in the next lesser one; just one more than the greatest isn't. For every input. -/
import Derived.Test.YtfjefocjplljcaaPAx20
import Derived.Test.YtfjefocjplljcaaPPcm
namespace Go.Proofs.Ytfjefocjplljcaa.Pure
open Go Go.RowKit Go.Proofs.Ytfjefocjplljcaa.PA Go.Proofs.YtfjefocjplljcaaW.PrintWords Go.Proofs.YtfjefocjplljcaaW.PrintLast Go.Proofs.YtfjefocjplljcaaW.PrintMore Go.Proofs.Ytfjefocjplljcaa.PL
set_option linter.unusedSimpArgs false
set_option linter.unusedVariables false
theorem j0_ev (n : Int) (hn : -9223372036854775808 ≤ n ∧ n < 9223372036854775808) (d : Nat) (h2 : 2 ≤ d) (h61 : d ≤ 61) : Ev (fun k => serinettelaw06_PcmDepths.j0 k n true (d : Int) false) true := by
  have hb := pow_bd' (d - 1) (by omega)
  have e1 : wrap64 ((d : Int) - 1) = ((d - 1 : Nat) : Int) := by rw [w64 (by omega) (by omega)]; omega
  have hp : (2 : Int) ^ (d - 1) < 9223372036854775808 := by omega
  have esh : shl .i64 1 ((d - 1 : Nat) : Int) = 2 ^ (d - 1) := by
    unfold shl
    rw [Int.toNat_natCast, show min (d - 1) IntKind.i64.bits = d - 1 by simp [IntKind.bits]; omega, Int.one_mul]
    exact (i64_w _).trans (w64 (by omega) hp)
  have t1 : wrap64 ((2 : Int) ^ (d - 1) - 1) = 2 ^ (d - 1) - 1 := w64 (by omega) (by omega)
  have t2 : wrap64 (-((2 : Int) ^ (d - 1))) = -(2 ^ (d - 1)) := w64 (by omega) (by omega)
  have t3 : wrap64 (-((2 : Int) ^ (d - 1)) - 1) = -(2 ^ (d - 1)) - 1 := w64 (by omega) (by omega)
  have i1 := in_eq ((2 : Int) ^ (d - 1) - 1) (d : Int) ⟨by omega, by omega⟩
  have i2 := in_eq ((2 : Int) ^ (d - 1)) (d : Int) ⟨by omega, by omega⟩
  have i3 := in_eq (-((2 : Int) ^ (d - 1))) (d : Int) ⟨by omega, by omega⟩
  have i4 := in_eq (-((2 : Int) ^ (d - 1)) - 1) (d : Int) ⟨by omega, by omega⟩
  have i5 := in_eq n (d : Int) hn
  rw [inI_nat (by omega)] at i1 i2 i3 i4 i5
  rw [decide_eq_true ⟨by omega, by omega, by omega⟩] at i1 i3
  rw [decide_eq_false (fun q => by have := q.2.2; omega)] at i2
  rw [decide_eq_false (fun q => by have := q.2.1; omega)] at i4
  refine succ ?_
  simp only [serinettelaw06_PcmDepths.j0]
  rw [e1, esh, t1, t2, t3, i1, i2, i3, i4, i5]
  refine neg (by decide) (pos (Int.natCast_nonneg _) (pos (by first | trivial | rfl) (bnd (now _) (pos (by first | trivial | rfl) (bnd (now _) (neg (by decide) (bnd (now _) (pos (by first | trivial | rfl) (bnd (now _) (neg (by decide) (bnd (now _) ?_)))))))))))
  by_cases hi : inn n d
  · exact pos (decide_eq_true hi) (now _)
  · refine neg (by simp [hi]) (cst ?_)
    congr 1
    rw [bne_iff_ne]
    rintro rfl
    exact hi ⟨by omega, by omega, by omega⟩
theorem tdiv2 (n : Int) : Int.tdiv n 2 = if 0 ≤ n then n / 2 else -((-n) / 2) := by
  split
  · rename_i h; exact Int.tdiv_eq_ediv_of_nonneg h
  · rename_i h
    have e := Int.neg_tdiv (-n) 2
    rw [Int.neg_neg, Int.tdiv_eq_ediv_of_nonneg (a := -n) (by omega)] at e
    exact e
theorem half_in {n : Int} {d : Nat} (h2 : 2 ≤ d) (h : inn n d) : inn (Int.tdiv n 2) (d - 1) := by
  obtain ⟨_, h3, h4⟩ := h
  have e : (2 : Int) ^ (d - 1) = 2 ^ (d - 1 - 1) * 2 := by rw [← Int.pow_succ]; congr 1; omega
  have hp : (0 : Int) < 2 ^ (d - 1 - 1) := Int.pow_pos (by decide)
  rw [e] at h3 h4
  rw [tdiv2]
  refine ⟨by omega, ?_, ?_⟩ <;> split <;> omega
theorem PcmDepths : serinettelaw06_PcmDepths.Pure := by
  intro n a1 hn0 ha
  have hn := wf64 hn0
  have ha := wfu8 ha
  refine Ev.rounds ?_
  obtain ⟨q, hq⟩ := Int.eq_ofNat_of_zero_le (show 0 ≤ a1 % 60 by omega)
  obtain ⟨d, hd⟩ : ∃ d, d = 2 + q := ⟨_, rfl⟩
  have e0 : wrap64 (2 + wrap64 (Int.tmod a1 60)) = (d : Int) := by
    rw [Int.tmod_eq_emod_of_nonneg ha.1, w64 (x := a1 % 60) (by omega) (by omega), w64 (by omega) (by omega)]; omega
  have h2 : 2 ≤ d := by omega
  have h61 : d ≤ 61 := by omega
  clear hd hq
  have e1 : wrap64 ((d : Int) + 1) = ((d + 1 : Nat) : Int) := by rw [w64 (by omega) (by omega)]; omega
  have e2 : wrap64 ((d : Int) - 1) = ((d - 1 : Nat) : Int) := by rw [w64 (by omega) (by omega)]; omega
  have ht : -9223372036854775808 ≤ Int.tdiv n 2 ∧ Int.tdiv n 2 < 9223372036854775808 := by rw [tdiv2]; split <;> omega
  have e3 : wrap64 (Int.tdiv n 2) = Int.tdiv n 2 := w64 ht.1 ht.2
  have i0 := in_eq n (d : Int) hn
  have i1 := in_eq n ((d + 1 : Nat) : Int) hn
  have i2 := in_eq (Int.tdiv n 2) ((d - 1 : Nat) : Int) ht
  rw [inI_nat (by omega)] at i0 i1 i2
  unfold serinettelaw06_PcmDepths.f
  rw [e0, e1, e2, e3, i0, i1, i2]
  refine bnd awake_ev (bnd (now _) ?_)
  by_cases hi : inn n d
  · refine pos (decide_eq_true hi) (bnd (now _) (pos (decide_eq_true (inn_succ hi)) (bnd (now _) ?_)))
    rw [decide_eq_true (half_in h2 hi)]
    exact j0_ev n hn d h2 h61
  · exact neg (by simp [hi]) (j0_ev n hn d h2 h61)
end Go.Proofs.Ytfjefocjplljcaa.Pure
