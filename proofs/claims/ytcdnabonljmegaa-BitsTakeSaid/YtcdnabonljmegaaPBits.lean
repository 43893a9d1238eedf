/- Plain lists of bits: numbers as bits, bits as bytes. No program. No condition. -/
import Derived.Test.YtcdnabonljmegaaPL
namespace Go.Proofs.Ytcdnabonljmegaa.PL
set_option linter.unusedSimpArgs false
set_option linter.unusedVariables false

/-- A number's lowest bits, the highest of these first. -/
def digs (n : Int) : Nat → List Bool
  | 0 => []
  | k + 1 => digs (n / 2) k ++ [decide (n % 2 = 1)]
def numA (a : Int) : List Bool → Int
  | [] => a
  | b :: t => numA (2 * a + (if b then 1 else 0)) t
/-- What bits tell. -/
def num (l : List Bool) : Int := numA 0 l
theorem digs_len : ∀ (k : Nat) (n : Int), (digs n k).length = k
  | 0, _ => rfl
  | k + 1, n => by simp [digs, digs_len k]
theorem numA_eq : ∀ (l : List Bool) (a : Int), numA a l = a * 2 ^ l.length + num l
  | [], a => by simp [numA, num]
  | b :: t, a => by
    have h1 := numA_eq t (2 * a + (if b then 1 else 0))
    have h2 := numA_eq t (2 * 0 + (if b then 1 else 0))
    simp only [num, numA, List.length_cons, Int.pow_succ] at h1 h2 ⊢
    rw [h1, h2, Int.add_mul, Int.add_mul]
    have : 2 * a * 2 ^ t.length = a * (2 ^ t.length * 2) := by rw [Int.mul_comm 2 a, Int.mul_assoc, Int.mul_comm 2]
    omega
theorem numA_append : ∀ (a b : List Bool) (x : Int), numA x (a ++ b) = numA (numA x a) b
  | [], b, x => rfl
  | c :: t, b, x => by simp only [List.cons_append, numA]; exact numA_append t b _
theorem num_append (a b : List Bool) : num (a ++ b) = num a * 2 ^ b.length + num b := by
  unfold num; rw [numA_append, numA_eq b]; rfl
theorem num_one (b : Bool) : num [b] = if b then 1 else 0 := by cases b <;> rfl
theorem num_nil : num [] = 0 := rfl
theorem pow2_pos (k : Nat) : (0 : Int) < 2 ^ k := Int.pow_pos (by decide)
theorem num_bd : ∀ l : List Bool, 0 ≤ num l ∧ num l < 2 ^ l.length
  | [] => by simp [num, numA]
  | b :: t => by
    have h := num_bd t
    have e := num_append [b] t
    rw [List.singleton_append, num_one] at e
    have hp := pow2_pos t.length
    rw [e, List.length_cons, Int.pow_succ]
    cases b <;> simp <;> omega
theorem num_snoc (l : List Bool) (b : Bool) : num (l ++ [b]) = 2 * num l + if b then 1 else 0 := by
  rw [num_append, num_one]; simp; omega
theorem num_digs : ∀ (k : Nat) (n : Int), num (digs n k) = n % 2 ^ k
  | 0, n => by simp [digs, num_nil]
  | k + 1, n => by
    rw [digs, num_snoc, num_digs k, Int.pow_succ]
    have hp := pow2_pos k
    have h1 := Int.mul_ediv_add_emod n 2
    have h2 := Int.mul_ediv_add_emod (n / 2) (2 ^ k)
    have h3 := Int.emod_nonneg (n / 2) (Int.ne_of_gt hp)
    have h4 := Int.emod_lt_of_pos (n / 2) hp
    refine ((Int.ediv_emod_unique (r := 2 * (n / 2 % 2 ^ k) + if decide (n % 2 = 1) then 1 else 0) (q := n / 2 / 2 ^ k) (show (0 : Int) < 2 ^ k * 2 by omega)).2 ⟨?_, ?_, ?_⟩).2.symm
    · have e : 2 ^ k * 2 * (n / 2 / 2 ^ k) = 2 * (2 ^ k * (n / 2 / 2 ^ k)) := by rw [Int.mul_comm (2 ^ k) 2, Int.mul_assoc]
      rw [e]
      by_cases h : n % 2 = 1 <;> simp [h] <;> omega
    · split <;> omega
    · split <;> omega
theorem digs_num : ∀ l : List Bool, digs (num l) l.length = l := by
  intro l
  generalize hn : l.length = n
  induction n generalizing l with
  | zero => rw [List.eq_nil_of_length_eq_zero hn]; rfl
  | succ n ih =>
    obtain ⟨t, b, rfl⟩ : ∃ t b, l = t ++ [b] := ⟨l.dropLast, l.getLast (by intro h; subst h; simp at hn), (List.dropLast_concat_getLast _).symm⟩
    have ht : t.length = n := by simp at hn; omega
    rw [digs, num_snoc]
    have e1 : (2 * num t + if b = true then 1 else 0) / 2 = num t := by cases b <;> simp <;> omega
    have e2 : decide ((2 * num t + if b = true then 1 else 0) % 2 = 1) = b := by cases b <;> simp <;> omega
    rw [e1, e2, ih t ht]
theorem num_inj {a b : List Bool} (hl : a.length = b.length) (h : num a = num b) : a = b := by
  rw [← digs_num a, ← digs_num b, h, hl]
theorem digs_of_num {n : Int} {k : Nat} {l : List Bool} (hl : l.length = k) (h : num l = n % 2 ^ k) : digs n k = l := num_inj (by rw [digs_len, hl]) (by rw [num_digs, h])
theorem digs_mod (n : Int) (k : Nat) : digs (n % 2 ^ k) k = digs n k := digs_of_num (digs_len _ _) (by rw [num_digs, Int.emod_emod])
theorem digs_add (n : Int) (a b : Nat) : digs n (a + b) = digs (n / 2 ^ b) a ++ digs n b := by
  refine digs_of_num (by simp [digs_len]) ?_
  rw [num_append, num_digs, num_digs, digs_len, Int.pow_add]
  have hp := pow2_pos b
  have hq := pow2_pos a
  have h1 := Int.mul_ediv_add_emod n (2 ^ b)
  have h2 := Int.mul_ediv_add_emod (n / 2 ^ b) (2 ^ a)
  have h3 := Int.emod_nonneg (n / 2 ^ b) (Int.ne_of_gt hq)
  have h4 := Int.emod_lt_of_pos (n / 2 ^ b) hq
  have h5 := Int.emod_nonneg n (Int.ne_of_gt hp)
  have h6 := Int.emod_lt_of_pos n hp
  have hpq : (0 : Int) < 2 ^ a * 2 ^ b := Int.mul_pos hq hp
  refine ((Int.ediv_emod_unique (r := n / 2 ^ b % 2 ^ a * 2 ^ b + n % 2 ^ b) (q := n / 2 ^ b / 2 ^ a) hpq).2 ⟨?_, ?_, ?_⟩).2.symm
  · have e : 2 ^ a * 2 ^ b * (n / 2 ^ b / 2 ^ a) = 2 ^ b * (2 ^ a * (n / 2 ^ b / 2 ^ a)) := by rw [Int.mul_comm (2 ^ a) (2 ^ b), Int.mul_assoc]
    have e2 : 2 ^ b * (n / 2 ^ b) = 2 ^ b * (2 ^ a * (n / 2 ^ b / 2 ^ a)) + 2 ^ b * (n / 2 ^ b % 2 ^ a) := by rw [← Int.mul_add, h2]
    have e3 : n / 2 ^ b % 2 ^ a * 2 ^ b = 2 ^ b * (n / 2 ^ b % 2 ^ a) := Int.mul_comm _ _
    omega
  · have : 0 ≤ n / 2 ^ b % 2 ^ a * 2 ^ b := Int.mul_nonneg h3 (Int.le_of_lt hp)
    omega
  · have : (n / 2 ^ b % 2 ^ a + 1) * 2 ^ b ≤ 2 ^ a * 2 ^ b := Int.mul_le_mul_of_nonneg_right (by omega) (Int.le_of_lt hp)
    rw [Int.add_mul] at this
    omega
theorem digs_zero : ∀ k : Nat, digs 0 k = List.replicate k false
  | 0 => rfl
  | k + 1 => by rw [digs, show (0 : Int) / 2 = 0 from rfl, digs_zero k, List.replicate_succ']; rfl
theorem num_replicate (k : Nat) : num (List.replicate k false) = 0 := by rw [← digs_zero, num_digs]; simp

/-- Bits in bytes, with bits 0 behind them. -/
def pad8 (l : List Bool) : List Bool := l ++ List.replicate (8 - l.length) false
def toBN : Nat → List Bool → List Int
  | 0, _ => []
  | q + 1, l => num (pad8 (l.take 8)) :: toBN q (l.drop 8)
def toB (l : List Bool) : List Int := toBN ((l.length + 7) / 8) l
theorem toBN_len : ∀ (q : Nat) (l : List Bool), (toBN q l).length = q
  | 0, _ => rfl
  | q + 1, l => by simp [toBN, toBN_len q]
theorem toB_len (l : List Bool) : (toB l).length = (l.length + 7) / 8 := toBN_len _ _
theorem toB_nil : toB [] = [] := rfl
theorem pad8_full {l : List Bool} (h : l.length = 8) : pad8 l = l := by simp [pad8, h]
theorem toB_cons {a : List Bool} (h : a.length = 8) (b : List Bool) : toB (a ++ b) = num a :: toB b := by
  unfold toB
  rw [show ((a ++ b).length + 7) / 8 = (b.length + 7) / 8 + 1 by simp only [List.length_append]; omega, toBN, List.take_left' h, List.drop_left' h, pad8_full h]
theorem toB_app : ∀ (q : Nat) (a b : List Bool), a.length = 8 * q → toB (a ++ b) = toB a ++ toB b
  | 0, a, b, h => by rw [List.eq_nil_of_length_eq_zero (by omega : a.length = 0)]; rfl
  | q + 1, a, b, h => by
    obtain ⟨c, d, rfl, hc⟩ : ∃ c d, a = c ++ d ∧ c.length = 8 := ⟨a.take 8, a.drop 8, (List.take_append_drop _ _).symm, by simp; omega⟩
    rw [List.append_assoc, toB_cons hc, toB_cons hc, toB_app q d b (by simp at h; omega)]
    rfl
theorem toB_short {r : List Bool} (h0 : r ≠ []) (h8 : r.length ≤ 8) : toB r = [num (pad8 r)] := by
  have : 0 < r.length := List.length_pos_iff.2 h0
  unfold toB
  rw [show (r.length + 7) / 8 = 0 + 1 by omega, toBN, List.take_of_length_le h8]
  rfl
theorem num_pad8 {r : List Bool} (h8 : r.length ≤ 8) : num (pad8 r) = num r * 2 ^ (8 - r.length) := by
  rw [pad8, num_append, num_replicate, List.length_replicate]; omega
/-- A list of bits, in whole bytes and a rest. -/
theorem split8 (l : List Bool) : ∃ f r, l = f ++ r ∧ f.length = 8 * (l.length / 8) ∧ r.length = l.length % 8 :=
  ⟨l.take (8 * (l.length / 8)), l.drop (8 * (l.length / 8)), (List.take_append_drop _ _).symm, by simp; omega, by simp; omega⟩
theorem pad8_len {r : List Bool} (h : r.length ≤ 8) : (pad8 r).length = 8 := by simp [pad8]; omega
theorem toB_bd (l : List Bool) : ∀ x ∈ toB l, 0 ≤ x ∧ x < 256 := by
  have key : ∀ (q : Nat) (l : List Bool), ∀ x ∈ toBN q l, 0 ≤ x ∧ x < 256 := by
    intro q
    induction q with
    | zero => intro l x hx; simp [toBN] at hx
    | succ q ih =>
      intro l x hx
      rcases List.mem_cons.1 hx with rfl | hx
      · have := num_bd (pad8 (l.take 8))
        rw [pad8_len (by simp; omega)] at this
        exact this
      · exact ih _ x hx
  exact key _ l
/-- The bits of bytes. -/
def bitsOf (b : List Int) : List Bool := b.flatMap fun x => digs x 8
theorem bitsOf_len (b : List Int) : (bitsOf b).length = 8 * b.length := by
  induction b with
  | nil => rfl
  | cons x t ih => simp only [bitsOf, List.flatMap_cons, List.length_append, digs_len, List.length_cons] at ih ⊢; omega
theorem bitsOf_app (a b : List Int) : bitsOf (a ++ b) = bitsOf a ++ bitsOf b := by simp [bitsOf]
theorem bitsOf_cons (x : Int) (b : List Int) : bitsOf (x :: b) = digs x 8 ++ bitsOf b := by simp [bitsOf]
theorem toB_bitsOf : ∀ b : List Int, (∀ x ∈ b, 0 ≤ x ∧ x < 256) → toB (bitsOf b) = b
  | [], _ => rfl
  | x :: t, h => by
    have hx := h x (by simp)
    rw [bitsOf_cons, toB_cons (digs_len _ _), num_digs, toB_bitsOf t (fun y hy => h y (by simp [hy]))]
    congr 1; omega
theorem bitsOf_toB (l : List Bool) : bitsOf (toB l) = l ++ List.replicate ((8 - l.length % 8) % 8) false := by
  have key : ∀ (q : Nat) (l : List Bool), (l.length + 7) / 8 = q → bitsOf (toBN q l) = l ++ List.replicate ((8 - l.length % 8) % 8) false := by
    intro q
    induction q with
    | zero =>
      intro l h
      rw [List.eq_nil_of_length_eq_zero (by omega : l.length = 0)]; rfl
    | succ q ih =>
      intro l h
      rw [toBN, bitsOf_cons]
      have e : digs (num (pad8 (l.take 8))) 8 = pad8 (l.take 8) := by
        have := digs_num (pad8 (l.take 8))
        rwa [pad8_len (by simp; omega)] at this
      rw [e, ih (l.drop 8) (by simp; omega)]
      by_cases h8 : 8 ≤ l.length
      · rw [pad8_full (by simp; omega), ← List.append_assoc, List.take_append_drop]
        congr 2
        simp; omega
      · rw [List.take_of_length_le (by omega), List.drop_of_length_le (by omega), pad8]
        simp only [List.length_nil, List.nil_append, List.append_assoc]
        congr 1
        rw [show (8 - 0 % 8) % 8 = 0 from rfl, List.replicate_zero, List.append_nil]
        congr 1; omega
  exact key _ l rfl
end Go.Proofs.Ytcdnabonljmegaa.PL
