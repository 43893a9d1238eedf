/- Plain lists: sums of products, differences and what the fixed factors leave. No program beside fixed.Residual's differences. -/
import Derived.Test.YtjiecencppahhaaPFixRes
import Derived.Test.YtjiecencppahhaaPAx15
namespace Go.Proofs.Ytjiecencppahhaa.PL
open Go.RowKit Go.Proofs.Ytjiecencppahhaa.PA Go.Proofs.YtjiecencppahhaaW.PrintWords
set_option linter.unusedSimpArgs false
set_option linter.unusedVariables false

/-- An order's factors. -/
def F : Nat → List Int
  | 1 => [1]
  | 2 => [2, -1]
  | 3 => [3, -3, 1]
  | 4 => [4, -6, 4, -1]
  | _ => []
def FI (o : Int) : List Int := if o < 0 then [] else F o.toNat
theorem nat4 {n : Nat} (h : n ≤ 4) : n = 0 ∨ n = 1 ∨ n = 2 ∨ n = 3 ∨ n = 4 := by omega
theorem F_len {n : Nat} (h : n ≤ 4) : (F n).length = n := by rcases nat4 h with rfl | rfl | rfl | rfl | rfl <;> rfl
theorem F_big {n : Nat} (h : 4 < n) : F n = [] := by unfold F; split <;> first | rfl | omega
theorem factors_eq (o : Int) : fixed_Factors.f o = some (FI o) := by
  unfold fixed_Factors.f
  simp only [Option.bind_some, List.length_cons, List.length_nil, FI]
  by_cases h : o < 0
  · simp [h]
  · rw [if_neg h, if_neg h]
    by_cases h4 : o ≥ ((0 + 1 + 1 + 1 + 1 + 1 : Nat) : Int)
    · rw [if_pos h4, F_big (by omega)]
    · rw [if_neg h4, if_pos (by omega), if_pos (by omega)]
      obtain ⟨n, rfl⟩ := Int.eq_ofNat_of_zero_le (show 0 ≤ o by omega)
      rcases nat4 (n := n) (by omega) with rfl | rfl | rfl | rfl | rfl <;> rfl
def dot : List Int → List Int → Int
  | f :: fs, r :: rs => f * r + dot fs rs
  | _, _ => 0
theorem dot_nil (r : List Int) : dot [] r = 0 := by cases r <;> rfl
/-- What the reference leaves behind numbers p (the nearest first). -/
def refres (fs p : List Int) : List Int → List Int
  | [] => []
  | a :: t => wrap64 (a - dot fs p) :: refres fs (a :: p) t
theorem refres_len (fs : List Int) : ∀ (t p : List Int), (refres fs p t).length = t.length
  | [], _ => rfl
  | a :: t, p => by simp [refres, refres_len fs t]
theorem diffs_refres (m : Nat) (hm : m ≤ 4) : ∀ (t p : List Int), m ≤ p.length → (∀ a ∈ t, wrap64 a = a) → diffs m ((p.take m).reverse ++ t) = refres (F m) p t := by
  intro t
  induction t with
  | nil =>
    intro p hp _
    apply List.eq_nil_of_length_eq_zero
    rw [diffs_len]; simp; omega
  | cons a t ih =>
    intro p hp hc
    have ha := hc a (by simp)
    have h2 := ih (a :: p) (by simp; omega) (fun b hb => hc b (by simp [hb]))
    rw [refres, ← h2]
    rcases nat4 hm with rfl | rfl | rfl | rfl | rfl
    · simp [diffs, F, dot_nil, ha]
    · obtain ⟨p1, p, rfl⟩ : ∃ a l, p = a :: l := by cases p with | nil => simp at hp | cons a l => exact ⟨a, l, rfl⟩
      simp only [List.take_succ_cons, List.take_zero, List.reverse_cons, List.reverse_nil, List.nil_append, List.cons_append, diffs, diff, F, dot, dot_nil]
      congr 2; omega
    · obtain ⟨p1, p2, p, rfl⟩ : ∃ a b l, p = a :: b :: l := by
        rcases p with _ | ⟨a, _ | ⟨b, l⟩⟩ <;> simp at hp; exact ⟨a, b, l, rfl⟩
      simp only [List.take_succ_cons, List.take_zero, List.reverse_cons, List.reverse_nil, List.nil_append, List.cons_append, diffs, diff, F, dot, dot_nil, w_sub_l, w_sub_r]
      congr 2; omega
    · obtain ⟨p1, p2, p3, p, rfl⟩ : ∃ a b c l, p = a :: b :: c :: l := by
        rcases p with _ | ⟨a, _ | ⟨b, _ | ⟨c, l⟩⟩⟩ <;> simp at hp; exact ⟨a, b, c, l, rfl⟩
      simp only [List.take_succ_cons, List.take_zero, List.reverse_cons, List.reverse_nil, List.nil_append, List.cons_append, diffs, diff, F, dot, dot_nil]
      congr 1; unfold wrap64; omega
    · obtain ⟨p1, p2, p3, p4, p, rfl⟩ : ∃ a b c d l, p = a :: b :: c :: d :: l := by
        rcases p with _ | ⟨a, _ | ⟨b, _ | ⟨c, _ | ⟨d, l⟩⟩⟩⟩ <;> simp at hp; exact ⟨a, b, c, d, l, rfl⟩
      simp only [List.take_succ_cons, List.take_zero, List.reverse_cons, List.reverse_nil, List.nil_append, List.cons_append, diffs, diff, F, dot, dot_nil]
      congr 1; unfold wrap64; omega

theorem diff_c : ∀ l : List Int, ∀ a ∈ diff l, wrap64 a = a
  | [] => by simp [diff]
  | [_] => by simp [diff]
  | a :: b :: t => by
    intro x hx
    simp only [diff, List.mem_cons] at hx
    rcases hx with rfl | hx
    · exact w64_w _
    · exact diff_c (b :: t) x hx
theorem diffs_c : ∀ (n : Nat) (l : List Int), (∀ a ∈ l, wrap64 a = a) → ∀ a ∈ diffs n l, wrap64 a = a
  | 0, _, h => h
  | n + 1, l, _ => by rw [diffs]; exact diffs_c n _ (diff_c l)
end Go.Proofs.Ytjiecencppahhaa.PL
