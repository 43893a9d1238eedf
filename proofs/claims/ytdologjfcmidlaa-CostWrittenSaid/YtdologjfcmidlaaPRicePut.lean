/- What rice.Put lays, as a list of bits. Condition: fewer than 2^40 bits are there. -/
import Derived.Test.YtdologjfcmidlaaPRice
import Derived.Test.YtdologjfcmidlaaPBitsPut
import Derived.Test.YtdologjfcmidlaaPAx28
namespace Go.Proofs.Ytdologjfcmidlaa.PL
open Go Go.RowKit Go.Proofs.Ytdologjfcmidlaa.PA Go.Proofs.YtdologjfcmidlaaW.PrintWords Go.Proofs.YtdologjfcmidlaaW.PrintMore
set_option linter.unusedSimpArgs false
set_option linter.unusedVariables false
/-- Some zeros, a one, the low bits. -/
def putB (n : Int) (k : Nat) : List Bool := List.replicate (fold n / 2 ^ k).toNat false ++ (true :: digs (fold n) k)
theorem putB_len (n : Int) (k : Nat) : (putB n k).length = (fold n / 2 ^ k).toNat + 1 + k := by
  unfold putB; rw [List.length_append, List.length_replicate, List.length_cons, digs_len]; omega
theorem hw_zero_digs (z : Nat) (h : z ≤ 64) : digs 0 (hw (z : Int)) = List.replicate z false := by rw [hw_nat h, digs_zero]
theorem rput_l0 (u : Int) (k : Nat) (hk : k ≤ 30) : ∀ (z : Nat) (l : List Bool), l.length + z < 1099511627776 →
    Ev (fun q => rice_Put.l0 q (k : Int) u (z : Int) (WB l) (l.length : Int)) (0, WB (l ++ (List.replicate z false ++ (true :: digs u k))), ((l ++ (List.replicate z false ++ (true :: digs u k))).length : Int)) := by
  intro z
  induction z using Nat.strongRecOn with
  | _ z ih =>
  intro l hl
  have e64 : digs 0 (hw 64) = List.replicate 64 false := hw_zero_digs 64 (by decide)
  have e1 : digs 1 (hw 1) = [true] := by decide
  have ek : hw (k : Int) = k := hw_nat (by omega)
  have p1 := put_eq l 0 64 (by omega)
  rw [e64] at p1
  by_cases hz : z > 64
  · have c : (z : Int) > 64 := by omega
    have hi := ih (z - 64) (by omega) (l ++ List.replicate 64 false) (by rw [List.length_append, List.length_replicate]; omega)
    have e3 : l ++ List.replicate 64 false ++ (List.replicate (z - 64) false ++ (true :: digs u k)) = l ++ (List.replicate z false ++ (true :: digs u k)) := by
      rw [List.append_assoc, ← List.append_assoc (List.replicate 64 false), List.replicate_append_replicate, show 64 + (z - 64) = z by omega]
    rw [e3] at hi
    have e2 : wrap64 ((z : Int) - 64) = ((z - 64 : Nat) : Int) := by rw [w64 (by omega) (by omega)]; omega
    refine succ ?_
    simp only [rice_Put.l0]
    rw [p1, e2]
    exact pos c hi
  · have c : ¬ (z : Int) > 64 := by omega
    have p2 := put_eq l 0 (z : Int) (by omega)
    rw [hw_zero_digs z (by omega)] at p2
    have p3 := put_eq (l ++ List.replicate z false) 1 1 (by rw [List.length_append, List.length_replicate]; omega)
    rw [e1] at p3
    have p4 := put_eq (l ++ List.replicate z false ++ [true]) u (k : Int) (by rw [List.length_append, List.length_append, List.length_replicate, List.length_singleton]; omega)
    rw [ek] at p4
    have e3 : l ++ List.replicate z false ++ [true] ++ digs u k = l ++ (List.replicate z false ++ (true :: digs u k)) := by simp
    rw [e3] at p4
    refine succ ?_
    simp only [rice_Put.l0]
    refine neg c ?_
    rw [p2]
    simp only [Option.bind_some]
    rw [p3]
    simp only [Option.bind_some]
    rw [p4]
    exact now _
/-- What rice.Put answers. -/
def rputR (l : List Bool) (n : Int) (k : Nat) : Int × List Bool :=
  if ¬ IsNear n then (6, l) else if fold n / 2 ^ k > 65535 then (7, l) else (0, l ++ putB n k)
theorem rput_ev (l : List Bool) (n k : Int) (hn : -9223372036854775808 ≤ n ∧ n < 9223372036854775808) (hl : l.length < 1099511000000) :
    Ev (fun q => rice_Put.f q (WB l) (l.length : Int) n k) ((rputR l n (kk k)).1, WB (rputR l n (kk k)).2, ((rputR l n (kk k)).2.length : Int)) := by
  have hk := kk_le k
  unfold rice_Put.f rice_held.f
  rw [kk_eq, fold_eq n hn, near_eq]
  simp only [Option.bind_some]
  refine pos (by omega) ?_
  by_cases h : IsNear n
  · have hf := fold_near h
    have hd := div_pow_bd (x := fold n) (s := kk k) hf.1
    rw [shr_u64 _ (by omega), w64 (by omega) (by omega)]
    refine pos (by simpa using h) ?_
    by_cases hz : fold n / 2 ^ kk k > 65535
    · have e : rputR l n (kk k) = (7, l) := by unfold rputR; rw [if_neg (by simpa using h), if_pos hz]
      rw [e]
      exact pos hz (now _)
    · have e : rputR l n (kk k) = (0, l ++ putB n (kk k)) := by unfold rputR; rw [if_neg (by simpa using h), if_neg hz]
      rw [e]
      refine neg hz ?_
      have := rput_l0 (fold n) (kk k) hk (fold n / 2 ^ kk k).toNat l (by omega)
      rw [Int.toNat_of_nonneg hd.1] at this
      exact this
  · have e : rputR l n (kk k) = (6, l) := by unfold rputR; rw [if_pos h]
    rw [e]
    exact neg (by simpa using h) (now _)
end Go.Proofs.Ytdologjfcmidlaa.PL
