/- Sums of whole numbers, and how alike numbers are to those ahead. No condition. -/
import Derived.Test.YthcognclnmcbhaaPL
namespace Go.Proofs.Ythcognclnmcbhaa.PL
open Go.RowKit Go.Proofs.YthcognclnmcbhaaW.PrintWords

def sm : Nat → (Nat → Int) → Int
  | 0, _ => 0
  | n + 1, f => sm n f + f n
theorem sm_congr {f g : Nat → Int} : ∀ n, (∀ i, i < n → f i = g i) → sm n f = sm n g
  | 0, _ => rfl
  | n + 1, h => by rw [sm, sm, sm_congr n (fun i hi => h i (by omega)), h n (by omega)]
theorem sm_zero {f : Nat → Int} : ∀ n, (∀ i, i < n → f i = 0) → sm n f = 0
  | 0, _ => rfl
  | n + 1, h => by rw [sm, sm_zero n (fun i hi => h i (by omega)), h n (by omega)]; rfl
theorem sm_add (f : Nat → Int) (n : Nat) : ∀ m, sm (n + m) f = sm n f + sm m (fun i => f (n + i))
  | 0 => by simp [sm]
  | m + 1 => by rw [← Nat.add_assoc, sm, sm_add f n m, sm]; omega
theorem sm_plus (f g : Nat → Int) : ∀ n, sm n (fun i => f i + g i) = sm n f + sm n g
  | 0 => rfl
  | n + 1 => by rw [sm, sm, sm, sm_plus f g n]; omega
theorem sm_le {f g : Nat → Int} : ∀ n, (∀ i, i < n → f i ≤ g i) → sm n f ≤ sm n g
  | 0, _ => Int.le_refl _
  | n + 1, h => by have := sm_le n (fun i hi => h i (by omega)); have := h n (by omega); rw [sm, sm]; omega
theorem sm_bd {f : Nat → Int} {B : Int} : ∀ n : Nat, (∀ i, i < n → -B ≤ f i ∧ f i ≤ B) → -(n * B) ≤ sm n f ∧ sm n f ≤ n * B
  | 0, _ => by simp [sm]
  | n + 1, h => by
    have h1 := sm_bd n (fun i hi => h i (by omega))
    have h2 := h n (by omega)
    have e : ((n + 1 : Nat) : Int) * B = n * B + B := by rw [Int.natCast_succ, Int.add_mul, Int.one_mul]
    rw [sm, e]; omega
theorem sm_head (f : Nat → Int) : ∀ n, sm (n + 1) f = f 0 + sm n (fun i => f (i + 1))
  | 0 => by simp [sm]
  | n + 1 => by rw [sm, sm_head f n, sm]; omega
theorem sm_rev : ∀ (n : Nat) (f : Nat → Int), sm n f = sm n (fun i => f (n - 1 - i))
  | 0, _ => rfl
  | n + 1, f => by
    rw [sm_head, sm, sm_rev n (fun i => f (i + 1))]
    have : sm n (fun i => f (n - 1 - i + 1)) = sm n (fun i => f (n + 1 - 1 - i)) := sm_congr n (fun i hi => by congr 1; omega)
    rw [this]; simp; omega

/-- How alike numbers are to those k ahead. -/
def ac (y : List Int) (k : Nat) : Int := sm y.length (fun i => y.getD (i + k) 0 * y.getD i 0)
theorem getD_over {y : List Int} {i : Nat} (h : y.length ≤ i) : y.getD i 0 = 0 := by simp [List.getD_eq_getElem?_getD, List.getElem?_eq_none h]
theorem ac_over {y : List Int} {k n : Nat} (h : y.length ≤ n + k) : sm n (fun i => y.getD (i + k) 0 * y.getD i 0) = ac y k := by
  unfold ac
  rcases Nat.le_total y.length n with h1 | h1
  · obtain ⟨d, rfl⟩ : ∃ d, n = y.length + d := ⟨n - y.length, by omega⟩
    rw [sm_add, sm_zero d (fun i _ => by rw [getD_over (y := y) (i := y.length + i) (by omega), Int.mul_zero])]; omega
  · obtain ⟨d, e⟩ : ∃ d, y.length = n + d := ⟨y.length - n, by omega⟩
    rw [e, sm_add, sm_zero d (fun i _ => by rw [getD_over (y := y) (i := n + i + k) (by omega), Int.zero_mul])]; omega
theorem ac_zero {y : List Int} {k : Nat} (h : y.length ≤ k) : ac y k = 0 := by
  have := ac_over (y := y) (k := k) (n := 0) (by omega)
  rw [← this]; rfl
def Small (y : List Int) : Prop := ∀ x ∈ y, -4194304 ≤ x ∧ x < 4194304
theorem small_getD {y : List Int} (h : Small y) (i : Nat) : -4194304 ≤ y.getD i 0 ∧ y.getD i 0 < 4194304 := by
  rcases Nat.lt_or_ge i y.length with h1 | h1
  · rw [List.getD_eq_getElem?_getD, List.getElem?_eq_getElem h1]; exact h _ (List.getElem_mem h1)
  · rw [getD_over h1]; omega
theorem mul_bd {a b : Int} (ha : -4194304 ≤ a ∧ a < 4194304) (hb : -4194304 ≤ b ∧ b < 4194304) : -17592186044416 ≤ a * b ∧ a * b ≤ 17592186044416 := by
  have h1 : 0 ≤ (4194304 - a) * (4194304 - b) := Int.mul_nonneg (by omega) (by omega)
  have h2 : 0 ≤ (4194304 + a) * (4194304 + b) := Int.mul_nonneg (by omega) (by omega)
  have h3 : 0 ≤ (4194304 - a) * (4194304 + b) := Int.mul_nonneg (by omega) (by omega)
  have h4 : 0 ≤ (4194304 + a) * (4194304 - b) := Int.mul_nonneg (by omega) (by omega)
  have e1 : (4194304 - a) * (4194304 - b) = 17592186044416 - 4194304 * a - 4194304 * b + a * b := by grind
  have e2 : (4194304 + a) * (4194304 + b) = 17592186044416 + 4194304 * a + 4194304 * b + a * b := by grind
  have e3 : (4194304 - a) * (4194304 + b) = 17592186044416 - 4194304 * a + 4194304 * b - a * b := by grind
  have e4 : (4194304 + a) * (4194304 - b) = 17592186044416 + 4194304 * a - 4194304 * b - a * b := by grind
  omega
theorem part_bd {y : List Int} (h : Small y) (k n : Nat) (hn : n ≤ 1000) : -17592186044416000 ≤ sm n (fun i => y.getD (i + k) 0 * y.getD i 0) ∧ sm n (fun i => y.getD (i + k) 0 * y.getD i 0) ≤ 17592186044416000 := by
  have := sm_bd (f := fun i => y.getD (i + k) 0 * y.getD i 0) (B := 17592186044416) n (fun i _ => mul_bd (small_getD h _) (small_getD h _))
  omega
theorem ac_bd {y : List Int} (h : Small y) (hl : y.length ≤ 1000) (k : Nat) : -17592186044416000 ≤ ac y k ∧ ac y k ≤ 17592186044416000 := part_bd h k _ hl
end Go.Proofs.Ythcognclnmcbhaa.PL
