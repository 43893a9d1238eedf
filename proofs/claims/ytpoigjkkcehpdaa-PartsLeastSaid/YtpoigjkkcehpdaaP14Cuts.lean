/- What parts.Cuts answers. Condition: up to a hundred thousand numbers, orders and cuts that can be. -/
import Derived.Test.YtpoigjkkcehpdaaPWidth
import Derived.Test.YtpoigjkkcehpdaaPAx4
namespace Go.Proofs.Ytpoigjkkcehpdaa.PL
open Go.RowKit Go.Proofs.Ytpoigjkkcehpdaa.PA Go.Proofs.YtpoigjkkcehpdaaW.PrintWords Go.Proofs.YtpoigjkkcehpdaaW.PrintLast Go.Proofs.YtpoigjkkcehpdaaW.PrintMore
set_option linter.unusedVariables false
set_option linter.unusedSimpArgs false
/-- How many numbers each part has. -/
def cutsP (n order : Int) (o : Nat) : List Int :=
  if (n + order) % 2 ^ o = 0 ∧ order < (n + order) / 2 ^ o then ((n + order) / 2 ^ o - order) :: List.replicate (2 ^ o - 1) ((n + order) / 2 ^ o) else []
theorem shl_i64' {x : Int} {s : Nat} (h : s ≤ 64) (h0 : -9223372036854775808 ≤ x * 2 ^ s) (h1 : x * 2 ^ s < 9223372036854775808) : shl .i64 x (s : Int) = x * 2 ^ s := by
  unfold shl
  rw [Int.toNat_natCast, show min s IntKind.i64.bits = s by simp [IntKind.bits]; omega]
  exact (i64_w _).trans (w64 h0 h1)
theorem pow15 {o : Nat} (ho : o ≤ 15) : (1 : Int) ≤ 2 ^ o ∧ (2 : Int) ^ o ≤ 32768 := by
  have h1 : (2 : Nat) ^ o ≤ 2 ^ 15 := Nat.pow_le_pow_right (by decide) ho
  have h2 : 0 < (2 : Nat) ^ o := Nat.pow_pos (by decide)
  have h3 : ((2 ^ o : Nat) : Int) = (2 : Int) ^ o := by simp
  have h4 : (2 : Nat) ^ 15 = 32768 := by decide
  omega
theorem cuts_l0 (order share : Int) (N : Nat) (hN : 0 < N) (hN2 : N ≤ 40000) (hs : 0 ≤ share - order) (hs2 : share - order < 9223372036854775808) :
    ∀ (d i : Nat), i + d = N → Ev (fun k => parts_Cuts.l0 k order share (List.replicate i share ++ List.replicate d 0) (N : Int) (i : Int)) ((share - order) :: List.replicate (N - 1) share) := by
  intro d
  induction d with
  | zero =>
    intro i hi
    obtain rfl : i = N := by omega
    refine succ ?_
    simp only [parts_Cuts.l0]
    refine neg (by omega) (pos (by simp; omega) (cst ?_))
    obtain ⟨m, rfl⟩ : ∃ m, i = m + 1 := ⟨i - 1, by omega⟩
    have e1 : List.replicate (m + 1) share ++ List.replicate 0 0 = share :: List.replicate m share := by simp [List.replicate_succ]
    rw [e1]
    have e2 : rd (share :: List.replicate m share) 0 = share := by simp [rd]
    rw [e2, w64 (by omega) (by omega)]
    simp
  | succ d ih =>
    intro i hi
    refine succ ?_
    simp only [parts_Cuts.l0]
    refine pos (by omega) (pos (by omega) (pos (by simp; omega) ?_))
    rw [w64 (by omega) (by omega)]
    have e1 : (List.replicate i share ++ List.replicate (d + 1) 0).set ((i : Int)).toNat share = List.replicate (i + 1) share ++ List.replicate d 0 := by
      rw [Int.toNat_natCast, List.replicate_succ, List.set_append_right _ _ (by simp)]
      simp [List.replicate_succ', List.append_assoc]
    rw [e1]
    have := ih (i + 1) (by omega)
    simpa using this
theorem cuts_ev (n order : Int) (o : Nat) (hn0 : 0 ≤ n) (hn : n ≤ 100000) (ho0 : 0 ≤ order) (ho1 : order ≤ 100000) (ho : o ≤ 15) : Ev (fun k => parts_Cuts.f k n order (o : Int)) (cutsP n order o) := by
  obtain ⟨p1, p2⟩ := pow15 ho
  have hd0 : 0 ≤ (n + order) / 2 ^ o := Int.ediv_nonneg (by omega) (by omega)
  have hd1 : (n + order) / 2 ^ o ≤ n + order := Int.ediv_le_self _ (by omega)
  have hme := Int.mul_ediv_add_emod (n + order) (2 ^ o)
  have hm0 := Int.emod_nonneg (n + order) (show (2 : Int) ^ o ≠ 0 by omega)
  have hm1 := Int.emod_lt_of_pos (n + order) (show (0 : Int) < 2 ^ o by omega)
  unfold parts_Cuts.f
  refine neg (by omega) (neg (by omega) (neg (by omega) ?_))
  rw [decide_eq_false (by omega)]
  refine succ ?_
  simp only [parts_Cuts.j0]
  rw [w64 (x := n + order) (by omega) (by omega), shr_eq' _ (by omega)]
  have esh : shl .i64 ((n + order) / 2 ^ o) (o : Int) = 2 ^ o * ((n + order) / 2 ^ o) := by
    rw [Int.mul_comm] at hme
    rw [shl_i64' (by omega) (by omega) (by omega), Int.mul_comm]
  rw [esh]
  refine neg (by decide) (pos (by omega) ?_)
  have j1 : ∀ b : Bool, ((n + order) % 2 ^ o = 0) → b = decide ((n + order) / 2 ^ o ≤ order) → Ev (fun k => parts_Cuts.j1 k order (o : Int) ((n + order) / 2 ^ o) b) (cutsP n order o) := by
    intro b h0 hb
    refine succ ?_
    simp only [parts_Cuts.j1]
    by_cases hs : (n + order) / 2 ^ o ≤ order
    · refine pos (by rw [hb]; exact decide_eq_true hs) (cst ?_)
      rw [cutsP, if_neg (fun h => by omega)]
    · refine neg (by rw [hb]; simpa using hs) (pos (by omega) ?_)
      have es1 : shl .i64 1 (o : Int) = 2 ^ o := by rw [shl_i64' (by omega) (by omega) (by omega)]; omega
      rw [es1]
      have et : ((2 : Int) ^ o).toNat = 2 ^ o := by
        have h3 : ((2 ^ o : Nat) : Int) = (2 : Int) ^ o := by simp
        rw [← h3, Int.toNat_natCast]
      rw [et]
      have h3 : ((2 ^ o : Nat) : Int) = (2 : Int) ^ o := by simp
      refine pos (by omega) (pos (by omega) ?_)
      simp only [Option.bind_some]
      rw [cutsP, if_pos ⟨h0, by omega⟩]
      have := cuts_l0 order ((n + order) / 2 ^ o) (2 ^ o) (by omega) (by omega) (by omega) (by omega) (2 ^ o) 0 (by omega)
      simpa using this
  by_cases h0 : (n + order) % 2 ^ o = 0
  · exact pos (by omega) (j1 _ h0 rfl)
  · refine neg (by omega) ?_
    refine succ ?_
    simp only [parts_Cuts.j1]
    refine pos trivial (cst ?_)
    rw [cutsP, if_neg (fun h => h0 h.1)]
theorem cutsP_len {n order : Int} {o : Nat} (h : cutsP n order o ≠ []) : (cutsP n order o).length = 2 ^ o := by
  unfold cutsP at h ⊢
  split at h
  · rename_i hc
    rw [if_pos hc]
    have : 0 < 2 ^ o := Nat.pow_pos (by decide)
    rw [List.length_cons, List.length_replicate]
    omega
  · exact absurd rfl h
theorem cutsP_0 {n order : Int} (h : 0 < n) : cutsP n order 0 = [n] := by
  unfold cutsP
  rw [if_pos ⟨by simp, by simp; omega⟩]
  simp
end Go.Proofs.Ytpoigjkkcehpdaa.PL
