/- What bits.Reader answers, as lists of bits. Condition: fewer than 2^40 bytes. -/
import Derived.Test.YtcdnabonljmegaaPBitsPut
import Derived.Test.YtcdnabonljmegaaPAx12
import Derived.Test.YtcdnabonljmegaaPAx11
import Derived.Test.YtcdnabonljmegaaPAx11
namespace Go.Proofs.Ytcdnabonljmegaa.PL
open Go Go.RowKit Go.Proofs.Ytcdnabonljmegaa.PA Go.Proofs.YtcdnabonljmegaaW.PrintWords Go.Proofs.YtcdnabonljmegaaW.PrintMore
set_option linter.unusedSimpArgs false
set_option linter.unusedVariables false

/-- Some bits, from a place on. -/
def cutB (b : List Int) (p n : Nat) : List Bool := ((bitsOf b).drop p).take n
theorem cutB_len {b : List Int} {p n : Nat} (h : p + n ≤ 8 * b.length) : (cutB b p n).length = n := by
  unfold cutB; rw [List.length_take, List.length_drop, bitsOf_len]; omega
theorem cutB_add (b : List Int) (p m n : Nat) : cutB b p (m + n) = cutB b p m ++ cutB b (p + m) n := by
  unfold cutB; rw [List.take_add, List.drop_drop]
/-- Some bits of one byte. -/
theorem byte_cut (x : Int) {j m : Nat} (h : j + m ≤ 8) : ((digs x 8).drop j).take m = digs (x / 2 ^ (8 - j - m)) m := by
  have e1 := digs_add x j (8 - j)
  rw [show j + (8 - j) = 8 by omega] at e1
  have e2 := digs_add x m (8 - j - m)
  rw [show m + (8 - j - m) = 8 - j by omega] at e2
  rw [e1, List.drop_left' (digs_len _ _), e2, List.take_left' (digs_len _ _)]
theorem cut_step (b : List Int) (q j m : Nat) (hq : q < b.length) (h : j + m ≤ 8) : cutB b (8 * q + j) m = digs (rd b (q : Int) / 2 ^ (8 - j - m)) m := by
  have hb : b = b.take q ++ rd b (q : Int) :: b.drop (q + 1) := by
    have e := List.drop_eq_getElem_cons hq
    have e2 : rd b (q : Int) = b[q] := rd_lt (by omega) (by omega)
    rw [e2, ← e, List.take_append_drop]
  have hl : (bitsOf (b.take q)).length = 8 * q := by rw [bitsOf_len, List.length_take]; omega
  unfold cutB
  conv => lhs; rw [hb]
  rw [bitsOf_app, bitsOf_cons, ← List.drop_drop, List.drop_left' hl, List.drop_append_of_le_length (by rw [digs_len]; omega), List.take_append_of_le_length (by rw [List.length_drop, digs_len]; omega), byte_cut _ h]
theorem or_join (a x : Int) (m s : Nat) (ha0 : 0 ≤ a) (ha : a < 2 ^ s) (hs : s + m ≤ 64) (hx0 : 0 ≤ x) (hx : x < 2 ^ m) : Go.bits .or .u64 (shl .u64 a (m : Int)) x = a * 2 ^ m + x := by
  have hm0 := pow2_pos m
  have e : (2 : Int) ^ s * 2 ^ m = 2 ^ (s + m) := (Int.pow_add 2 s m).symm
  have h64 : (2 : Int) ^ (s + m) ≤ 2 ^ 64 := by
    have : (2 : Nat) ^ (s + m) ≤ 2 ^ 64 := Nat.pow_le_pow_right (by decide) hs
    have h := Int.ofNat_le.2 this
    simpa using h
  have hlt : a * 2 ^ m + x < 2 ^ s * 2 ^ m := by
    have h1 : (a + 1) * 2 ^ m ≤ 2 ^ s * 2 ^ m := Int.mul_le_mul_of_nonneg_right (by omega) (Int.le_of_lt hm0)
    rw [Int.add_mul, Int.one_mul] at h1
    omega
  have h0 : 0 ≤ a * 2 ^ m := Int.mul_nonneg ha0 (Int.le_of_lt hm0)
  have hb1 : a * 2 ^ m < 2 ^ 64 := by rw [e] at hlt; omega
  have hx1 : x < 2 ^ 64 := by rw [e] at hlt; omega
  have hb2 : a * 2 ^ m < 18446744073709551616 := by rw [← pow64]; exact hb1
  rw [shl_u64' (by omega) h0 hb2]
  exact bits_join .u64 64 (by decide) wraps_u64 m _ _ h0 (Int.mul_emod_left _ _) hb1 hx0 hx hx1
theorem tdiv8 (p : Nat) (h : p < 4611686018427387904) : wrap64 (Int.tdiv (p : Int) 8) = ((p / 8 : Nat) : Int) := by
  rw [Int.tdiv_eq_ediv_of_nonneg (by omega), w64 (by omega) (by omega)]; omega
theorem tmod8 (p : Nat) : Int.tmod (p : Int) 8 = ((p % 8 : Nat) : Int) := by rw [Int.tmod_eq_emod_of_nonneg (by omega)]; omega
theorem wsub {a b : Nat} (h : b ≤ a) (ha : a < 4611686018427387904) : wrap64 ((a : Int) - (b : Int)) = ((a - b : Nat) : Int) := by rw [w64 (by omega) (by omega)]; omega
theorem wadd {a b : Nat} (ha : a + b < 4611686018427387904) : wrap64 ((a : Int) + (b : Int)) = ((a + b : Nat) : Int) := by rw [w64 (by omega) (by omega)]; omega
theorem wsucc {i : Nat} (h : i < 4611686018427387904) : wrap64 ((i : Int) + 1) = ((i + 1 : Nat) : Int) := by rw [w64 (by omega) (by omega)]; omega
theorem room8 (p : Nat) : wrap64 (8 - Int.tmod (p : Int) 8) = ((8 - p % 8 : Nat) : Int) := by rw [tmod8]; exact wsub (a := 8) (by omega) (by omega)
theorem mn_nat (a b : Nat) : mn (a : Int) (b : Int) = ((min a b : Nat) : Int) := by unfold mn; split <;> omega
theorem take_step (k : Nat) (b : List Int) (acc : Int) (left p s : Nat) (fl : Int) (m : Nat) (hm : m = min (8 - p % 8) left) (h1 : 1 ≤ left) (hbl : b.length < 1099511627776) (hpl : p + left ≤ 8 * b.length) (hbd : ∀ x ∈ b, 0 ≤ x ∧ x < 256)
    (ha0 : 0 ≤ acc) (ha : Aside0 (acc < 2 ^ s)) (hs : s + left ≤ 64) :
    bits_Reader_Take.l0 (k + 1) (left : Int) acc b (p : Int) fl = bits_Reader_Take.l0 k ((left - m : Nat) : Int) (acc * 2 ^ m + num (cutB b p m)) b ((p + m : Nat) : Int) fl := by
  obtain ⟨q, hq⟩ : ∃ q, q = p / 8 := ⟨_, rfl⟩
  obtain ⟨j, hj⟩ : ∃ j, j = p % 8 := ⟨_, rfl⟩
  have hp : p = 8 * q + j := by omega
  have hj8 : j < 8 := by omega
  have hm1 : 1 ≤ m := by omega
  have hml : m ≤ left := by omega
  have hjm : j + m ≤ 8 := by omega
  have hm8 : m ≤ 8 := by omega
  have hqb : q < b.length := by omega
  have hsm : s + m ≤ 64 := by omega
  have h8m : 8 - j - m ≤ 8 := by omega
  have hp62 : p < 4611686018427387904 := by omega
  have hl62 : left < 4611686018427387904 := by omega
  have hpm62 : p + m < 4611686018427387904 := by omega
  have hroomm : m ≤ 8 - j := by omega
  have hrl : 8 - j < 4611686018427387904 := by omega
  have hqi : (q : Int) < (b.length : Int) := by omega
  have hne : ¬ ((left : Int) = 0) := by omega
  have hx := hbd (rd b (q : Int)) (rd_mem (by omega) hqi)
  have hcut : num (cutB b p m) = rd b (q : Int) / 2 ^ (8 - j - m) % 2 ^ m := by rw [hp, cut_step b q j m hqb hjm, num_digs]
  have hsr := shr_u8' (rd b (q : Int)) h8m
  have hdb := Int.ediv_nonneg hx.1 (Int.le_of_lt (pow2_pos (8 - j - m)))
  have hdl := Int.ediv_le_self (2 ^ (8 - j - m)) hx.1
  have hpe := part_eq (rd b (q : Int) / 2 ^ (8 - j - m)) hm1 hm8
  have hmod : rd b (q : Int) / 2 ^ (8 - j - m) % 256 = rd b (q : Int) / 2 ^ (8 - j - m) := Int.emod_eq_of_lt hdb (Int.lt_of_le_of_lt hdl hx.2)
  rw [hmod] at hpe
  have hb0 := num_bd (cutB b p m)
  rw [cutB_len (Nat.le_trans (Nat.add_le_add_left hml p) hpl), hcut] at hb0
  have hwr : IntKind.u64.wrap (rd b (q : Int) / 2 ^ (8 - j - m) % 2 ^ m) = rd b (q : Int) / 2 ^ (8 - j - m) % 2 ^ m :=
    wraps_u64' _ hb0.1 (Int.lt_of_lt_of_le (Int.lt_of_lt_of_le hb0.2 (pow_le_256 hm8)) (by decide))
  have hor := or_join acc (rd b (q : Int) / 2 ^ (8 - j - m) % 2 ^ m) m s ha0 ha.out hsm hb0.1 hb0.2
  have htd := tdiv8 p hp62
  rw [← hq] at htd
  have hroom := room8 p
  rw [← hj] at hroom
  have hmn : mn (wrap64 (8 - Int.tmod (p : Int) 8)) (left : Int) = (m : Int) := by rw [hroom, mn_nat, hj, ← hm]
  have hsh : wrap64 (wrap64 (8 - Int.tmod (p : Int) 8) - (m : Int)) = ((8 - j - m : Nat) : Int) := by rw [hroom]; exact wsub hroomm hrl
  have hl1 : wrap64 ((left : Int) - (m : Int)) = ((left - m : Nat) : Int) := wsub hml hl62
  have hp1 : wrap64 ((p : Int) + (m : Int)) = ((p + m : Nat) : Int) := wadd hpm62
  simp only [bits_Reader_Take.l0]
  rw [if_neg hne, htd, hmn, hsh, hl1, hp1, if_pos (Int.natCast_nonneg _), if_pos hqi, if_pos (Int.natCast_nonneg _), if_pos (Int.natCast_nonneg _), hsr, hpe, hwr, hor, hcut]
theorem take_l0 : ∀ (left fuel : Nat) (b : List Int) (acc : Int) (p s : Nat) (fl : Int), left < fuel → b.length < 1099511627776 → p + left ≤ 8 * b.length → (∀ x ∈ b, 0 ≤ x ∧ x < 256) → 0 ≤ acc → Aside0 (acc < 2 ^ s) → s + left ≤ 64 →
    bits_Reader_Take.l0 fuel (left : Int) acc b (p : Int) fl = some (acc * 2 ^ left + num (cutB b p left), ((p + left : Nat) : Int), fl) := by
  intro left
  induction left using Nat.strongRecOn with
  | _ left ih =>
  intro fuel b acc p s fl hf hbl hpl hbd ha0 ha hs
  obtain ⟨k, rfl⟩ : ∃ k, fuel = k + 1 := ⟨fuel - 1, by omega⟩
  by_cases h0 : left = 0
  · subst h0
    have e0 : ((0 : Nat) : Int) = 0 := rfl
    simp only [bits_Reader_Take.l0]
    rw [e0, if_pos (rfl : (0 : Int) = 0)]
    simp [cutB, num_nil]
  obtain ⟨m, hm⟩ : ∃ m : Nat, m = min (8 - p % 8) left := ⟨_, rfl⟩
  have hm1 : 1 ≤ m := by omega
  have hml : m ≤ left := by omega
  have a1 : left - m < left := by omega
  have a3 : left - m < k := by omega
  have a4 : p + m + (left - m) ≤ 8 * b.length := by omega
  have a5 : s + m + (left - m) ≤ 64 := by omega
  have a6 : p + m + (left - m) = p + left := by omega
  have a7 : m + (left - m) = left := by omega
  have hb0 := num_bd (cutB b p m)
  rw [cutB_len (Nat.le_trans (Nat.add_le_add_left hml p) hpl)] at hb0
  have hm0 := pow2_pos m
  have h2 : acc * 2 ^ m + num (cutB b p m) < 2 ^ (s + m) := by
    rw [Int.pow_add]
    have h1 : (acc + 1) * 2 ^ m ≤ 2 ^ s * 2 ^ m := Int.mul_le_mul_of_nonneg_right (Int.add_one_le_of_lt ha.out) (Int.le_of_lt hm0)
    rw [Int.add_mul, Int.one_mul] at h1
    exact Int.lt_of_lt_of_le (Int.add_lt_add_left hb0.2 _) h1
  have h3 : 0 ≤ acc * 2 ^ m + num (cutB b p m) := Int.add_nonneg (Int.mul_nonneg ha0 (Int.le_of_lt hm0)) hb0.1
  rw [take_step k b acc left p s fl m hm (Nat.one_le_iff_ne_zero.2 h0) hbl hpl hbd ha0 ha hs, ih (left - m) a1 k b _ (p + m) (s + m) fl a3 hbl a4 hbd h3 ⟨h2⟩ a5, a6]
  have e : acc * 2 ^ left + num (cutB b p left) = (acc * 2 ^ m + num (cutB b p m)) * 2 ^ (left - m) + num (cutB b (p + m) (left - m)) := by
    have e1 := cutB_add b p m (left - m)
    rw [a7] at e1
    rw [e1, num_append, cutB_len a4, Int.add_mul, Int.mul_assoc, ← Int.pow_add, a7]
    exact Int.add_assoc _ _ _ |>.symm
  rw [e]

/-- What a Reader at a place, with an error, answers to Take. -/
def takeR (b : List Int) (p : Nat) (fl : Int) (w : Nat) : Int × Int × Int :=
  if fl ≠ 0 then (0, (p : Int), fl) else if 8 * b.length < p + w then (0, (p : Int), 2) else (num (cutB b p w), ((p + w : Nat) : Int), 0)
theorem left_eq (b : List Int) (p : Nat) (fl : Int) (hbl : b.length < 1099511627776) (hp : p ≤ 8 * b.length) : bits_Reader_Left.f b (p : Int) fl = some (((8 * b.length - p : Nat) : Int), (p : Int), fl) := by
  unfold bits_Reader_Left.f
  rw [w64 (x := 8 * (b.length : Int)) (by omega) (by omega), w64 (by omega) (by omega)]
  congr 2; omega
theorem take_ev (b : List Int) (p : Nat) (fl w : Int) (hbl : b.length < 1099511627776) (hp : p ≤ 8 * b.length) (hbd : ∀ x ∈ b, 0 ≤ x ∧ x < 256) : Ev (fun k => bits_Reader_Take.f k b (p : Int) fl w) (takeR b p fl (hw w)) := by
  unfold bits_Reader_Take.f
  rw [held_eq]
  simp only [Option.bind_some]
  have h64 := hw_le w
  have j1no : ∀ (fl : Int) (x : Int), fl ≠ 0 → Ev (fun k => bits_Reader_Take.j1 k x b (p : Int) fl) (0, (p : Int), fl) := by
    intro fl x hfl
    refine succ ?_
    simp only [bits_Reader_Take.j1]
    exact neg hfl (now _)
  by_cases hfl : fl = 0
  · subst hfl
    refine pos rfl ?_
    rw [left_eq b p 0 hbl hp]
    simp only [Option.bind_some]
    by_cases hs : 8 * b.length < p + hw w
    · have e : takeR b p 0 (hw w) = (0, (p : Int), 2) := by unfold takeR; rw [if_neg (by simp), if_pos hs]
      rw [e, decide_eq_true (by omega)]
      refine succ ?_
      simp only [bits_Reader_Take.j0]
      exact pos trivial (j1no 2 _ (by decide))
    · have e : takeR b p 0 (hw w) = (num (cutB b p (hw w)), ((p + hw w : Nat) : Int), 0) := by unfold takeR; rw [if_neg (by simp), if_neg hs]
      rw [e, decide_eq_false (by omega)]
      refine succ ?_
      simp only [bits_Reader_Take.j0]
      refine neg (by simp) (succ ?_)
      simp only [bits_Reader_Take.j1]
      refine pos trivial ⟨hw w + 1, fun k hk => ?_⟩
      show bits_Reader_Take.l0 k ((hw w : Nat) : Int) 0 b (p : Int) 0 = _
      rw [take_l0 (hw w) k b 0 p 0 0 (by omega) hbl (by omega) hbd (by omega) ⟨by simp⟩ (by omega)]
      simp
  · have e : takeR b p fl (hw w) = (0, (p : Int), fl) := by unfold takeR; rw [if_pos hfl]
    rw [e]
    refine neg hfl (succ ?_)
    simp only [bits_Reader_Take.j0]
    exact neg (by simp) (j1no fl _ hfl)
theorem open_eq (b : List Int) (hb : b.length < 1099511627776) : bits_Open.f b = some (b, ((0 : Nat) : Int), 0) := by
  unfold bits_Open.f bytes_Clone.f
  simp only [Option.bind_some, List.length_nil, List.nil_append]
  rw [if_pos (by omega)]
  rfl
/-- How many bits fill a byte. -/
def gap (p : Nat) : Nat := (8 - p % 8) % 8
theorem gap_dvd (p : Nat) : (p + gap p) % 8 = 0 := by unfold gap; omega
theorem gap_lt (p : Nat) : gap p < 8 := by unfold gap; omega
/-- What was put stands in the bytes, from its place on. -/
theorem cutB_toB (A B C : List Bool) : cutB (toB (A ++ B ++ C)) A.length B.length = B := by
  unfold cutB
  rw [bitsOf_toB, List.append_assoc, List.append_assoc, List.drop_left, List.take_left]
theorem cutB_pad (L : List Bool) : cutB (toB L) L.length (gap L.length) = List.replicate (gap L.length) false := by
  unfold cutB
  rw [bitsOf_toB, List.drop_left]
  exact List.take_of_length_le (by simp [gap])
theorem takeR_ok {b : List Int} {p w : Nat} (h : p + w ≤ 8 * b.length) : takeR b p 0 w = (num (cutB b p w), ((p + w : Nat) : Int), 0) := by
  unfold takeR; rw [if_neg (by simp), if_neg (by omega)]
theorem toB_len8 (L : List Bool) : L.length ≤ 8 * (toB L).length ∧ 8 * (toB L).length ≤ L.length + 7 := by rw [toB_len]; omega
end Go.Proofs.Ytcdnabonljmegaa.PL
