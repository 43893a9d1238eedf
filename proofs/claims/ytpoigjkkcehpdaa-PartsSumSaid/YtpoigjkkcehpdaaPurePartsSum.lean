/- PartsSum: the parts together are all numbers; each but the first one has its share, and the first one less by the order. For every input (the law's own guards are in it). -/
import Derived.Test.YtpoigjkkcehpdaaPAx22
import Derived.Test.YtpoigjkkcehpdaaP14Awake
import Derived.Test.YtpoigjkkcehpdaaP14Cuts
namespace Go.Proofs.Ytpoigjkkcehpdaa.Pure
open Go.RowKit Go.Proofs.Ytpoigjkkcehpdaa.PA Go.Proofs.YtpoigjkkcehpdaaW.PrintWords Go.Proofs.YtpoigjkkcehpdaaW.PrintLast Go.Proofs.YtpoigjkkcehpdaaW.PrintMore Go.Proofs.Ytpoigjkkcehpdaa.PL
theorem tmod_in {x : Int} (h : 0 ≤ x) (m : Int) (hm : 0 < m) (hm2 : m < 100000) : wrap64 (Int.tmod x m) = x % m := by
  have h1 := Int.emod_nonneg x (show m ≠ 0 by omega)
  have h2 := Int.emod_lt_of_pos x hm
  rw [Int.tmod_eq_emod_of_nonneg h, w64 (by omega) (by omega)]
theorem sum_l0 (n order s : Int) (o N : Nat) (ho : o ≤ 8) (hN : (N : Int) = 2 ^ o) (hn : 0 ≤ n ∧ n ≤ 1000) (hord : 0 ≤ order ∧ order ≤ 32) (hs : s = (n + order) / 2 ^ o) (hos : order < s) (hsum : s * N = n + order) (hs2 : s ≤ 2000) (hN2 : N ≤ 256) :
    ∀ (d i : Nat), i + d = N → 1 ≤ i → Ev (fun k => serinettelaw14_PartsSum.l0 k true n order (o : Int) ((s - order) :: List.replicate (N - 1) s) (s * i - order) (i : Int)) true := by
  have hl : ((s - order) :: List.replicate (N - 1) s).length = N - 1 + 1 := by simp
  have esh : shl .i64 1 (o : Int) = 2 ^ o := by
    obtain ⟨p1, p2⟩ := pow15 (show o ≤ 15 by omega)
    rw [shl_i64' (by omega) (by omega) (by omega)]; omega
  intro d
  induction d with
  | zero =>
    intro i hi h1
    refine succ ?_
    simp only [serinettelaw14_PartsSum.l0]
    rw [hl, esh]
    obtain rfl : i = N := by omega
    refine neg (by omega) (pos trivial (pos (by omega) (pos (by omega) (cst ?_))))
    rw [← hN]
    congr 1
    exact beq_iff_eq.2 (by omega)
  | succ d ih =>
    intro i hi h1
    refine succ ?_
    simp only [serinettelaw14_PartsSum.l0]
    rw [hl, esh]
    have hi1 : rd ((s - order) :: List.replicate (N - 1) s) (i : Int) = s := by
      rw [rd_nat]
      obtain ⟨j, rfl⟩ : ∃ j, i = j + 1 := ⟨i - 1, by omega⟩
      simp [List.getD_eq_getElem?_getD, show j < N - 1 by omega]
    have b1 : 0 ≤ s * (i : Int) := Int.mul_nonneg (by omega) (by omega)
    have b2 : s * (i : Int) ≤ 2000 * 256 := Int.mul_le_mul (by omega) (by omega) (by omega) (by omega)
    have ed : Int.tdiv (wrap64 (n + order)) (2 ^ o) = s := by rw [w64 (by omega) (by omega), Int.tdiv_eq_ediv_of_nonneg (by omega), hs]
    rw [hi1, ed, w64 (x := s) (by omega) (by omega), w64 (x := s * (i : Int) - order + s) (by omega) (by omega), w64 (x := (i : Int) + 1) (by omega) (by omega)]
    refine pos (by omega) (pos (by omega) (pos (by omega) (neg (by omega) (neg (by omega) (pos rfl (neg (by omega) ?_))))))
    have := ih (i + 1) (by omega) (by omega)
    have e : s * ((i + 1 : Nat) : Int) - order = s * (i : Int) - order + s := by rw [Int.natCast_succ, Int.mul_add, Int.mul_one]; omega
    rw [e] at this
    simpa using this
theorem PartsSum : serinettelaw14_PartsSum.Pure := by
  intro a0 a1 a2 w0 w1 w2
  refine Ev.rounds ?_
  unfold serinettelaw14_PartsSum.f
  refine bnd awake_ev ?_
  have g0 := wfu16 w0
  have g1 := wfu8 w1
  have g2 := wfu8 w2
  rw [tmod_in g0.1 1001 (by decide) (by decide), tmod_in g1.1 33 (by decide) (by decide), tmod_in g2.1 9 (by decide) (by decide)]
  obtain ⟨n, hn⟩ : ∃ n, a0 % 1001 = n := ⟨_, rfl⟩
  obtain ⟨order, hord⟩ : ∃ x, a1 % 33 = x := ⟨_, rfl⟩
  obtain ⟨o, ho⟩ : ∃ o : Nat, a2 % 9 = (o : Int) := ⟨(a2 % 9).toNat, by omega⟩
  rw [hn, hord, ho]
  have bn : 0 ≤ n ∧ n ≤ 1000 := by omega
  have bo : 0 ≤ order ∧ order ≤ 32 := by omega
  have b8 : o ≤ 8 := by omega
  clear hn hord ho g0 g1 g2 w0 w1 w2
  refine bnd (cuts_ev n order o (by omega) (by omega) (by omega) (by omega) (by omega)) ?_
  obtain ⟨p1, p2⟩ := pow15 (show o ≤ 15 by omega)
  have esh : shl .i64 1 (o : Int) = 2 ^ o := by rw [shl_i64' (by omega) (by omega) (by omega)]; omega
  have h3 : ((2 ^ o : Nat) : Int) = (2 : Int) ^ o := by simp
  have p8 : (2 : Nat) ^ o ≤ 2 ^ 8 := Nat.pow_le_pow_right (by decide) b8
  have e8 : (2 : Nat) ^ 8 = 256 := by decide
  have hme := Int.mul_ediv_add_emod (n + order) (2 ^ o)
  have hd0 : 0 ≤ (n + order) / 2 ^ o := Int.ediv_nonneg (by omega) (by omega)
  have hd1 : (n + order) / 2 ^ o ≤ n + order := Int.ediv_le_self _ (by omega)
  by_cases hc : (n + order) % 2 ^ o = 0 ∧ order < (n + order) / 2 ^ o
  · obtain ⟨s, hs⟩ : ∃ s, (n + order) / 2 ^ o = s := ⟨_, rfl⟩
    rw [cutsP, if_pos hc, hs]
    rw [hs] at hc hme hd0 hd1
    refine neg (by simp; omega) ?_
    refine succ ?_
    simp only [serinettelaw14_PartsSum.l0]
    have hl : ((s - order) :: List.replicate (2 ^ o - 1) s).length = 2 ^ o - 1 + 1 := by simp
    have hi1 : rd ((s - order) :: List.replicate (2 ^ o - 1) s) 0 = s - order := by simp [rd]
    have ed : Int.tdiv (wrap64 (n + order)) (2 ^ o) = s := by rw [w64 (by omega) (by omega), Int.tdiv_eq_ediv_of_nonneg (by omega), hs]
    rw [hl, esh, hi1, ed, w64 (x := s) (by omega) (by omega), w64 (x := s - order) (by omega) (by omega), w64 (x := 0 + (s - order)) (by omega) (by omega)]
    refine pos (by omega) (pos (by omega) (pos (by omega) (neg (by omega) (pos trivial (pos rfl (neg (by omega) ?_))))))
    have := sum_l0 n order s o (2 ^ o) b8 h3 bn bo hs.symm hc.2 (by rw [h3, Int.mul_comm]; omega) (by omega) (by omega) (2 ^ o - 1) 1 (by omega) (by omega)
    have e1 : s * ((1 : Nat) : Int) - order = 0 + (s - order) := by simp
    rw [e1] at this
    have ew : wrap64 (1 : Int) = 1 := w64 (by omega) (by omega)
    simpa [ew] using this
  · rw [cutsP, if_neg hc]
    refine pos rfl (pos rfl (pos (by omega) ?_))
    rw [esh]
    refine neg (by omega) ?_
    rw [w64 (x := n + order) (by omega) (by omega), Int.tmod_eq_emod_of_nonneg (by omega), Int.tdiv_eq_ediv_of_nonneg (by omega), w64 (x := (n + order) / 2 ^ o) (by omega) (by omega)]
    by_cases h0 : (n + order) % 2 ^ o = 0
    · refine pos h0 (cst ?_)
      rw [decide_eq_true (by omega)]
    · exact neg h0 (now true)
end Go.Proofs.Ytpoigjkkcehpdaa.Pure
