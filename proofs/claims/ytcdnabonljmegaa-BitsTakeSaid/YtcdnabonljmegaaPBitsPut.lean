/- What bits.Writer and bits.Reader answer, as lists of bits. Condition: fewer than 2^46 bits, widths as held. -/
import Derived.Test.YtcdnabonljmegaaPBits
import Derived.Laws.BitsLemmas
import Derived.Test.YtcdnabonljmegaaPAx3
import Derived.Test.YtcdnabonljmegaaPAx6
import Derived.Test.YtcdnabonljmegaaPAx4
import Derived.Test.YtcdnabonljmegaaPAx1
namespace Go.Proofs.Ytcdnabonljmegaa.PL
open Go Go.RowKit Go.Proofs.Ytcdnabonljmegaa.PA Go.Proofs.YtcdnabonljmegaaW.PrintWords Go.Proofs.YtcdnabonljmegaaW.PrintMore
set_option linter.unusedSimpArgs false
set_option linter.unusedVariables false

/-- A width as it is held. -/
def hw (w : Int) : Nat := if w < 0 then 0 else if w > 64 then 64 else w.toNat
theorem hw_le (w : Int) : hw w ≤ 64 := by unfold hw; split <;> (try split) <;> omega
theorem hw_eq (w : Int) : mx 0 (mn w 64) = (hw w : Int) := by unfold mx mn hw; split <;> split <;> (try split) <;> omega
theorem hw_nat {w : Nat} (h : w ≤ 64) : hw (w : Int) = w := by unfold hw; rw [if_neg (by omega)]; split <;> omega
theorem held_eq (w : Int) : bits_held.f w = some (hw w : Int) := by unfold bits_held.f; rw [hw_eq]
theorem shr_u64' (x : Int) {s : Nat} (h : s ≤ 64) : shr .u64 x (s : Int) = x / 2 ^ s := by
  unfold shr
  rw [Int.toNat_natCast, show min s IntKind.u64.bits = s by simp [IntKind.bits]; omega]
theorem shr_u8' (x : Int) {s : Nat} (h : s ≤ 8) : shr .u8 x (s : Int) = x / 2 ^ s := by
  unfold shr
  rw [Int.toNat_natCast, show min s IntKind.u8.bits = s by simp [IntKind.bits]; omega]
theorem shl_u8' {x : Int} {s : Nat} (h : s ≤ 8) (h0 : 0 ≤ x * 2 ^ s) (h1 : x * 2 ^ s < 256) : shl .u8 x (s : Int) = x * 2 ^ s := by
  unfold shl
  rw [Int.toNat_natCast, show min s IntKind.u8.bits = s by simp [IntKind.bits]; omega]
  exact wraps_u8 _ h0 h1
theorem wrap_u64 (n : Int) : IntKind.u64.wrap n = n % 18446744073709551616 := by simp [IntKind.wrap, IntKind.bits, IntKind.signed]
theorem wraps_u64' (n : Int) (h₀ : 0 ≤ n) (h₁ : n < 18446744073709551616) : IntKind.u64.wrap n = n := by rw [wrap_u64]; omega
theorem pow64 : (2 : Int) ^ 64 = 18446744073709551616 := by decide
theorem wraps_u64 (n : Int) (h₀ : 0 ≤ n) (h₁ : n < 2 ^ 64) : IntKind.u64.wrap n = n := wraps_u64' n h₀ (by rw [← pow64]; exact h₁)
theorem shl_u64' {x : Int} {s : Nat} (h : s ≤ 64) (h0 : 0 ≤ x * 2 ^ s) (h1 : x * 2 ^ s < 18446744073709551616) : shl .u64 x (s : Int) = x * 2 ^ s := by
  unfold shl
  rw [Int.toNat_natCast, show min s IntKind.u64.bits = s by simp [IntKind.bits]; omega]
  exact wraps_u64' _ h0 h1
theorem mask8 {m : Nat} (h1 : 1 ≤ m) (h8 : m ≤ 8) : (shl .u8 1 (m : Int) - 1) % 256 = 2 ^ m - 1 := by
  have : m = 1 ∨ m = 2 ∨ m = 3 ∨ m = 4 ∨ m = 5 ∨ m = 6 ∨ m = 7 ∨ m = 8 := by omega
  rcases this with rfl | rfl | rfl | rfl | rfl | rfl | rfl | rfl <;> decide
theorem pow_le_256 {m : Nat} (h8 : m ≤ 8) : (2 : Int) ^ m ≤ 256 := by
  have : m = 0 ∨ m = 1 ∨ m = 2 ∨ m = 3 ∨ m = 4 ∨ m = 5 ∨ m = 6 ∨ m = 7 ∨ m = 8 := by omega
  rcases this with rfl | rfl | rfl | rfl | rfl | rfl | rfl | rfl | rfl <;> decide
theorem part_eq (x : Int) {m : Nat} (h1 : 1 ≤ m) (h8 : m ≤ 8) : Go.bits .and .u8 (x % 256) ((shl .u8 1 (m : Int) - 1) % 256) = x % 2 ^ m := by
  rw [mask8 h1 h8, bits_mask .u8 8 (by decide) wraps_u8 m h8 (x % 256) (by omega) (by omega)]
  refine Int.emod_emod_of_dvd x ?_
  have : m = 1 ∨ m = 2 ∨ m = 3 ∨ m = 4 ∨ m = 5 ∨ m = 6 ∨ m = 7 ∨ m = 8 := by omega
  rcases this with rfl | rfl | rfl | rfl | rfl | rfl | rfl | rfl <;> decide
theorem put_or (r : List Bool) (x : Int) (m : Nat) (hm : 1 ≤ m) (hr : r.length + m ≤ 8) (hx : 0 ≤ x ∧ x < 2 ^ m) : Go.bits .or .u8 (num (pad8 r)) (shl .u8 x ((8 - r.length - m : Nat) : Int)) = num (pad8 (r ++ digs x m)) := by
  have hl : (r ++ digs x m).length = r.length + m := by simp [digs_len]
  have hb := num_bd r
  have hs := pow2_pos (8 - r.length - m)
  have hm0 := pow2_pos m
  have e1 : (2 : Int) ^ (8 - r.length) = 2 ^ m * 2 ^ (8 - r.length - m) := by rw [← Int.pow_add]; congr 1; omega
  have e2 : (2 : Int) ^ r.length * (2 ^ m * 2 ^ (8 - r.length - m)) = 256 := by rw [← Int.pow_add, ← Int.pow_add, show r.length + (m + (8 - r.length - m)) = 8 by omega]; rfl
  have hx2 : x * 2 ^ (8 - r.length - m) < 2 ^ m * 2 ^ (8 - r.length - m) := Int.mul_lt_mul_of_pos_right hx.2 hs
  have hx0 : 0 ≤ x * 2 ^ (8 - r.length - m) := Int.mul_nonneg hx.1 (Int.le_of_lt hs)
  have h256 : (2 : Int) ^ m * 2 ^ (8 - r.length - m) ≤ 256 := by rw [← e1]; exact pow_le_256 (by omega)
  rw [shl_u8' (by omega) hx0 (by omega), num_pad8 (by omega), num_pad8 (by omega), num_append, num_digs, digs_len, hl, e1]
  have e3 : x % 2 ^ m = x := Int.emod_eq_of_lt hx.1 hx.2
  have hq : num r * (2 ^ m * 2 ^ (8 - r.length - m)) ≤ (2 ^ r.length - 1) * (2 ^ m * 2 ^ (8 - r.length - m)) := Int.mul_le_mul_of_nonneg_right (by omega) (Int.le_of_lt (Int.mul_pos hm0 hs))
  rw [Int.sub_mul, e2, Int.one_mul] at hq
  have hq0 : 0 ≤ num r * (2 ^ m * 2 ^ (8 - r.length - m)) := Int.mul_nonneg hb.1 (Int.le_of_lt (Int.mul_pos hm0 hs))
  have hpos := Int.mul_pos hm0 hs
  rw [bits_join .u8 8 (by decide) wraps_u8 (8 - r.length) _ _ hq0 (by rw [e1]; exact Int.mul_emod_left _ _) (by omega) hx0 (by rw [e1]; exact hx2) (by omega), e3, Int.add_mul, show 8 - (r.length + m) = 8 - r.length - m by omega, Int.mul_assoc]
theorem put_step (k : Nat) (n : Int) (left : Nat) (l : List Bool) (m : Nat) (hm : m = min (8 - l.length % 8) left) (h1 : 1 ≤ left) (h64 : left ≤ 64) (hll : l.length < 70368744177664) :
    bits_Writer_Put.l0 (k + 1) n (left : Int) (toB l) (l.length : Int) = bits_Writer_Put.l0 k n ((left - m : Nat) : Int) (toB (l ++ digs (n / 2 ^ (left - m)) m)) ((l ++ digs (n / 2 ^ (left - m)) m).length : Int) := by
  obtain ⟨f, r, rfl, hfl, hrl⟩ := split8 l
  have hlen : (f ++ r).length = f.length + r.length := by simp
  have hr8 : r.length < 8 := by omega
  have hm1 : 1 ≤ m := by omega
  have hm8 : m ≤ 8 - r.length := by omega
  have hm9 : m ≤ 8 := by omega
  have hrm : r.length + m ≤ 8 := by omega
  have hll2 : left - m ≤ 64 := by omega
  have htm : Int.tmod ((f ++ r).length : Int) 8 = (r.length : Int) := by rw [Int.tmod_eq_emod_of_nonneg (by omega)]; omega
  have htl : (toB f).length < 8796093022208 := by rw [toB_len]; omega
  have hy : bits_Writer_Put.grow (toB (f ++ r)) ((f ++ r).length : Int) = some (toB f ++ [num (pad8 r)]) := by
    unfold bits_Writer_Put.grow
    rw [htm, toB_app _ f r hfl]
    by_cases hr0 : r = []
    · subst hr0
      rw [if_pos (by simp), toB_nil, List.append_nil, if_pos (by omega)]
      rfl
    · have : 0 < r.length := List.length_pos_iff.2 hr0
      rw [if_neg (by omega), toB_short hr0 (by omega)]
  have hroom : wrap64 (8 - Int.tmod ((f ++ r).length : Int) 8) = ((8 - r.length : Nat) : Int) := by rw [htm, w64 (by omega) (by omega)]; omega
  have hmn : mn (wrap64 (8 - Int.tmod ((f ++ r).length : Int) 8)) (left : Int) = (m : Int) := by rw [hroom]; unfold mn; split <;> omega
  have hl1 : wrap64 ((left : Int) - (m : Int)) = ((left - m : Nat) : Int) := by rw [w64 (by omega) (by omega)]; omega
  have hylen : ((toB f ++ [num (pad8 r)]).length : Int) = ((toB f).length : Int) + 1 := by simp
  have hl2 : wrap64 (((toB f ++ [num (pad8 r)]).length : Int) - 1) = ((toB f).length : Int) := by
    rw [hylen, w64 (by omega) (by omega)]; omega
  have hsh : wrap64 (wrap64 (8 - Int.tmod ((f ++ r).length : Int) 8) - (m : Int)) = ((8 - r.length - m : Nat) : Int) := by rw [hroom, w64 (by omega) (by omega)]; omega
  have hp : wrap64 (((f ++ r).length : Int) + (m : Int)) = (((f ++ r).length + m : Nat) : Int) := by rw [w64 (by omega) (by omega)]; omega
  have hrd : rd (toB f ++ [num (pad8 r)]) ((toB f).length : Int) = num (pad8 r) := rd_at _ _ _
  have hset : ∀ z : Int, (toB f ++ [num (pad8 r)]).set (((toB f).length : Int)).toNat z = toB f ++ [z] := fun z => by rw [Int.toNat_natCast]; exact set_at _ _ _ _
  have hlt : ((toB f).length : Int) < ((toB f ++ [num (pad8 r)]).length : Int) := by rw [hylen]; omega
  have hne : ¬ ((left : Int) = 0) := by omega
  have e2 : (((f ++ r).length + m : Nat) : Int) = ((f ++ r ++ digs (n / 2 ^ (left - m)) m).length : Int) := by simp only [List.length_append, digs_len]
  have hne2 : r ++ digs (n / 2 ^ (left - m)) m ≠ [] := by
    intro e
    have h := congrArg List.length e
    rw [List.length_append, digs_len] at h
    exact absurd (Nat.add_eq_zero_iff.1 h).2 (Nat.one_le_iff_ne_zero.1 hm1)
  have hl9 : (r ++ digs (n / 2 ^ (left - m)) m).length ≤ 8 := by rw [List.length_append, digs_len]; exact hrm
  have e1 : toB f ++ [num (pad8 (r ++ digs (n / 2 ^ (left - m)) m))] = toB (f ++ r ++ digs (n / 2 ^ (left - m)) m) := by
    rw [List.append_assoc, toB_app _ f _ hfl, toB_short hne2 hl9]
  have hpart := part_eq (n / 2 ^ (left - m)) (m := m) hm1 hm9
  have hs64 := shr_u64' n (s := left - m) hll2
  have hx : 0 ≤ n / 2 ^ (left - m) % 2 ^ m ∧ n / 2 ^ (left - m) % 2 ^ m < 2 ^ m := ⟨Int.emod_nonneg _ (Int.ne_of_gt (pow2_pos m)), Int.emod_lt_of_pos _ (pow2_pos m)⟩
  simp only [bits_Writer_Put.l0]
  rw [if_neg hne, hy]
  simp only [Option.bind_some]
  rw [hmn, hl1, hl2, hsh, hp]
  rw [if_pos (Int.natCast_nonneg _), if_pos (Int.natCast_nonneg _), if_pos (Int.natCast_nonneg _), if_pos hlt, if_pos (Int.natCast_nonneg _), hrd, hset, hs64, hpart, put_or r _ m hm1 hrm hx, digs_mod, e1, e2]
theorem put_l0 : ∀ (left fuel : Nat) (n : Int) (l : List Bool), left ≤ 64 → left < fuel → l.length + left < 70368744177664 → bits_Writer_Put.l0 fuel n (left : Int) (toB l) (l.length : Int) = some (toB (l ++ digs n left), ((l.length + left : Nat) : Int)) := by
  intro left
  induction left using Nat.strongRecOn with
  | _ left ih =>
  intro fuel n l hl hf hll
  obtain ⟨k, rfl⟩ : ∃ k, fuel = k + 1 := ⟨fuel - 1, by omega⟩
  by_cases h0 : left = 0
  · subst h0
    have e0 : ((0 : Nat) : Int) = 0 := rfl
    simp only [bits_Writer_Put.l0]
    rw [e0, if_pos (rfl : (0 : Int) = 0)]
    simp [digs]
  obtain ⟨m, hm⟩ : ∃ m : Nat, m = min (8 - l.length % 8) left := ⟨_, rfl⟩
  have hm1 : 1 ≤ m := by omega
  have hm2 : m ≤ left := by omega
  have a1 : left - m < left := by omega
  have a2 : left - m ≤ 64 := by omega
  have a3 : left - m < k := by omega
  have a5 : l.length + m + (left - m) < 70368744177664 := by omega
  have a6 : l.length + m + (left - m) = l.length + left := by omega
  have a7 : m + (left - m) = left := by omega
  have hlen : (l ++ digs (n / 2 ^ (left - m)) m).length = l.length + m := by rw [List.length_append, digs_len]
  rw [put_step k n left l m hm (by omega) hl (by omega), ih (left - m) a1 k n _ a2 a3 (by rw [hlen]; exact a5), hlen, a6, List.append_assoc, ← digs_add, a7]

/-- The bytes of bits. -/
def WB (l : List Bool) : ByteArray := ofB (toB l)
theorem bytes_WB (l : List Bool) : bytesOf (WB l) = toB l := bytes_ofB (toB_bd l)
theorem WB_nil : WB [] = ⟨#[]⟩ := rfl
theorem put_eq (l : List Bool) (n w : Int) (hl : l.length < 70368744177600) : bits_Writer_Put.f (WB l) (l.length : Int) n w = some (WB (l ++ digs n (hw w)), ((l ++ digs n (hw w)).length : Int)) := by
  unfold bits_Writer_Put.f
  rw [held_eq, bytes_WB]
  simp only [Option.bind_some]
  rw [put_l0 (hw w) 80 n l (hw_le w) (by have := hw_le w; omega) (by have := hw_le w; omega)]
  simp [WB, digs_len]
theorem new_eq : bits_New.f = some (WB [], ((([] : List Bool).length : Nat) : Int)) := rfl
theorem len_eq (l : List Bool) : bits_Writer_Len.f (WB l) (l.length : Int) = some ((l.length : Int), WB l, (l.length : Int)) := rfl
theorem bytes_eq (l : List Bool) (hl : l.length < 70368744177664) : bits_Writer_Bytes.f (WB l) (l.length : Int) = some (toB l, WB l, (l.length : Int)) := by
  unfold bits_Writer_Bytes.f bytes_Clone.f
  rw [bytes_WB]
  simp only [Option.bind_some, List.length_nil, List.nil_append]
  rw [if_pos (by rw [toB_len]; omega)]
  rfl
/-- With what fills the last byte. -/
def fillB (l : List Bool) : List Bool := l ++ List.replicate ((8 - l.length % 8) % 8) false
theorem fillB_len (l : List Bool) : (fillB l).length = 8 * ((l.length + 7) / 8) := by simp [fillB]; omega
theorem toB_fillB (l : List Bool) : toB (fillB l) = toB l := by
  have e := bitsOf_toB l
  unfold fillB
  rw [← e, toB_bitsOf _ (toB_bd l)]
end Go.Proofs.Ytcdnabonljmegaa.PL
