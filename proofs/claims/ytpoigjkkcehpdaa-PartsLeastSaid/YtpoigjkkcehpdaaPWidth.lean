/- What cost.Width answers; a part's bits, its best way. Condition: at most a thousand numbers of 64 bits. -/
import Derived.Test.YtpoigjkkcehpdaaPRice
import Derived.Test.YtpoigjkkcehpdaaPAx3
namespace Go.Proofs.Ytpoigjkkcehpdaa.PL
open Go.RowKit Go.Proofs.Ytpoigjkkcehpdaa.PA Go.Proofs.YtpoigjkkcehpdaaW.PrintWords Go.Proofs.YtpoigjkkcehpdaaW.PrintMore
set_option linter.unusedVariables false
set_option linter.unusedSimpArgs false
def NearAll (l : List Int) : Prop := ∀ n ∈ l, IsNear n
instance (l : List Int) : Decidable (NearAll l) := by unfold NearAll; infer_instance
theorem nearAll_cons {x : Int} {t : List Int} : NearAll (x :: t) ↔ IsNear x ∧ NearAll t := by simp [NearAll]
theorem nearAll_append {a b : List Int} : NearAll (a ++ b) ↔ NearAll a ∧ NearAll b := by
  simp only [NearAll, List.mem_append]
  exact ⟨fun h => ⟨fun n hn => h n (.inl hn), fun n hn => h n (.inr hn)⟩, fun h n hn => hn.elim (h.1 n) (h.2 n)⟩
theorem anyFar_ev (l : List Int) (hl : l.length ≤ 1000) : Ev (fun k => serinetteshadow_AnyFarCost.f k l) (!decide (NearAll l)) := by
  have key : ∀ (t p : List Int), l = p ++ t → Ev (fun k => serinetteshadow_AnyFarCost.l0 k l (l.length : Int) (p.length : Int)) (!decide (NearAll t)) := by
    intro t
    induction t with
    | nil =>
      intro p hp
      refine succ ?_
      simp only [serinetteshadow_AnyFarCost.l0]
      exact neg (by rw [hp]; simp) (cst (by simp [NearAll]))
    | cons x t ih =>
      intro p hp
      have l1 := congrArg List.length hp
      simp only [List.length_append, List.length_cons] at l1
      refine succ ?_
      simp only [serinetteshadow_AnyFarCost.l0]
      have ra : rd l (p.length : Int) = x := by rw [hp]; exact rd_at _ _ _
      rw [ra, w64 (by omega) (by omega)]
      refine pos (by omega) (pos (by omega) (pos (by omega) ?_))
      by_cases h1 : x < -8589934592
      · exact pos h1 (cst (by rw [decide_eq_false (fun h => by have := (nearAll_cons.1 h).1; unfold IsNear at this; omega)]; rfl))
      · refine neg h1 ?_
        by_cases h2 : x ≥ 8589934592
        · exact pos h2 (cst (by rw [decide_eq_false (fun h => by have := (nearAll_cons.1 h).1; unfold IsNear at this; omega)]; rfl))
        · refine neg h2 ?_
          have e : decide (NearAll (x :: t)) = decide (NearAll t) := decide_eq_decide.2 (nearAll_cons.trans ⟨fun h => h.2, fun h => ⟨by unfold IsNear; omega, h⟩⟩)
          rw [e]
          have := ih (p ++ [x]) (by simp [hp])
          simpa using this
  exact key l [] rfl
/-- How many bits near numbers have by a k. -/
def bitsL (k : Nat) : List Int → Int
  | [] => 0
  | n :: t => sz n k + bitsL k t
theorem bitsL_append (k : Nat) : ∀ (a b : List Int), bitsL k (a ++ b) = bitsL k a + bitsL k b
  | [], b => by simp [bitsL]
  | n :: t, b => by simp only [List.cons_append, bitsL, bitsL_append k t b]; omega
theorem bitsL_bd (k : Nat) (hk : k ≤ 30) : ∀ (l : List Int), NearAll l → (1 + k) * l.length ≤ bitsL k l ∧ bitsL k l ≤ 17179869300 * l.length
  | [], _ => by simp [bitsL]
  | n :: t, h => by
    have h1 := sz_bd (nearAll_cons.1 h).1 hk
    have h2 := bitsL_bd k hk t (nearAll_cons.1 h).2
    simp only [bitsL, List.length_cons]
    have e1 : (1 + (k : Int)) * ((t.length + 1 : Nat) : Int) = (1 + (k : Int)) * t.length + (1 + k) := by rw [Int.natCast_succ, Int.mul_add, Int.mul_one]
    omega
/-- Is a number in a depth? -/
def inn (n : Int) (w : Nat) : Prop := 1 ≤ w ∧ -(2 ^ (w - 1)) ≤ n ∧ n < 2 ^ (w - 1)
instance (n : Int) (w : Nat) : Decidable (inn n w) := by unfold inn; infer_instance
theorem inn_eq (n : Int) (w : Nat) (hw : w ≤ 62) (h : -9223372036854775808 ≤ n ∧ n < 9223372036854775808) : pcm_In.f n (w : Int) = some (decide (inn n w)) := by
  unfold pcm_In.f
  by_cases h1 : (w : Int) < 1
  · rw [if_pos h1]; congr 1; exact (decide_eq_false (fun h => by have := h.1; omega)).symm
  · have e : (w : Int) - 1 = ((w - 1 : Nat) : Int) := by omega
    rw [if_neg h1, if_neg (by omega), e, w64 (by omega) (by omega), if_pos (by omega), shr_eq' n (by omega)]
    have hp : (0 : Int) < 2 ^ (w - 1) := Int.pow_pos (by decide)
    have iff0 : n / 2 ^ (w - 1) = 0 ↔ 0 ≤ n ∧ n < 2 ^ (w - 1) := by
      constructor
      · intro h0
        have := Int.mul_ediv_add_emod n (2 ^ (w - 1))
        rw [h0, Int.mul_zero, Int.zero_add] at this
        have h2 := Int.emod_nonneg n (Int.ne_of_gt hp); have h3 := Int.emod_lt_of_pos n hp
        omega
      · intro h0; exact Int.ediv_eq_zero_of_lt h0.1 h0.2
    have iff1 : n / 2 ^ (w - 1) = -1 ↔ -(2 ^ (w - 1)) ≤ n ∧ n < 0 := by
      constructor
      · intro h0
        have := Int.mul_ediv_add_emod n (2 ^ (w - 1))
        rw [h0] at this
        have h2 := Int.emod_nonneg n (Int.ne_of_gt hp); have h3 := Int.emod_lt_of_pos n hp
        omega
      · intro h0
        refine ((Int.ediv_emod_unique (r := n + 2 ^ (w - 1)) (q := -1) hp).2 ⟨by omega, by omega, by omega⟩).1
    by_cases h0 : n / 2 ^ (w - 1) = 0
    · rw [if_pos h0]
      congr 1
      exact (decide_eq_true (by have := iff0.1 h0; exact ⟨by omega, by omega, by omega⟩)).symm
    · rw [if_neg h0]
      congr 1
      by_cases h2 : n / 2 ^ (w - 1) = -1
      · rw [h2]
        exact (decide_eq_true (by have := iff1.1 h2; exact ⟨by omega, by omega, by omega⟩)).symm
      · rw [beq_eq_false_iff_ne.2 h2]
        refine (decide_eq_false (fun hi => ?_)).symm
        rcases Int.lt_or_le n 0 with h3 | h3
        · exact h2 (iff1.2 ⟨hi.2.1, h3⟩)
        · exact h0 (iff0.2 ⟨h3, hi.2.2⟩)
theorem inn_succ {n : Int} {w : Nat} (h : inn n w) : inn n (w + 1) := by
  obtain ⟨h1, h2, h3⟩ := h
  have e : (2 : Int) ^ (w + 1 - 1) = 2 ^ (w - 1) * 2 := by rw [show w + 1 - 1 = (w - 1) + 1 by omega, Int.pow_succ]
  have hp : (0 : Int) < 2 ^ (w - 1) := Int.pow_pos (by decide)
  exact ⟨by omega, by rw [e]; omega, by rw [e]; omega⟩
/-- Do numbers fit, each in so many bits? -/
def fitsW (l : List Int) (w : Nat) : Prop := ∀ n ∈ l, n = 0 ∨ inn n w
instance (l : List Int) (w : Nat) : Decidable (fitsW l w) := by unfold fitsW; infer_instance
theorem fitsW_succ {l : List Int} {w : Nat} (h : fitsW l w) : fitsW l (w + 1) := fun n hn => (h n hn).imp id inn_succ
theorem fitsW_mono {l : List Int} {v w : Nat} (h : fitsW l v) (hvw : v ≤ w) : fitsW l w := by
  obtain ⟨d, rfl⟩ : ∃ d, w = v + d := ⟨w - v, by omega⟩
  clear hvw
  induction d with
  | zero => exact h
  | succ d ih => exact fitsW_succ ih
theorem fitsW_34 {l : List Int} (h : NearAll l) : fitsW l 34 := fun n hn => by
  have := h n hn
  unfold IsNear at this
  exact .inr ⟨by omega, by simpa using this.1, by simpa using this.2⟩
def widGo (l : List Int) : Nat → Nat → Nat
  | 0, w => w
  | d + 1, w => if fitsW l w then w else widGo l d (w + 1)
/-- How many bits each number has. -/
def wid (l : List Int) : Nat := widGo l 34 0
theorem widGo_spec {l : List Int} (h : fitsW l 34) : ∀ d w, w + d = 34 → fitsW l (widGo l d w) ∧ widGo l d w ≤ 34 ∧ ∀ v, w ≤ v → v < widGo l d w → ¬ fitsW l v
  | 0, w, e => by
    obtain rfl : w = 34 := by omega
    exact ⟨h, Nat.le_refl _, fun v h1 h2 => by simp only [widGo] at h2; omega⟩
  | d + 1, w, e => by
    simp only [widGo]
    split
    · rename_i hf
      exact ⟨hf, by omega, fun v h1 h2 => by omega⟩
    · rename_i hf
      obtain ⟨h1, h2, h3⟩ := widGo_spec h d (w + 1) (by omega)
      refine ⟨h1, h2, fun v hv1 hv2 => ?_⟩
      rcases Nat.lt_or_ge w v with h5 | h5
      · exact h3 v h5 hv2
      · obtain rfl : v = w := by omega
        exact hf
theorem wid_spec {l : List Int} (h : NearAll l) : fitsW l (wid l) ∧ wid l ≤ 34 ∧ ∀ v, v < wid l → ¬ fitsW l v := by
  obtain ⟨h1, h2, h3⟩ := widGo_spec (fitsW_34 h) 34 0 rfl
  exact ⟨h1, h2, fun v hv => h3 v (Nat.zero_le _) hv⟩
theorem wid_eq {l : List Int} (h : NearAll l) {w : Nat} (h1 : fitsW l w) (h2 : ∀ v, v < w → ¬ fitsW l v) : wid l = w := by
  obtain ⟨g1, _, g2⟩ := wid_spec h
  rcases Nat.lt_trichotomy (wid l) w with h3 | h3 | h3
  · exact absurd g1 (h2 _ h3)
  · exact h3
  · exact absurd h1 (g2 _ h3)
theorem fitsW_append {a b : List Int} {w : Nat} : fitsW (a ++ b) w ↔ fitsW a w ∧ fitsW b w := by
  simp only [fitsW, List.mem_append]
  exact ⟨fun h => ⟨fun n hn => h n (.inl hn), fun n hn => h n (.inr hn)⟩, fun h n hn => hn.elim (h.1 n) (h.2 n)⟩
theorem width_ev (l : List Int) (hl : l.length ≤ 1000) : Ev (fun q => cost_Width.f q l) (if NearAll l then (wid l : Int) else -1) := by
  unfold cost_Width.f
  refine bnd (anyFar_ev l hl) ?_
  by_cases hn : NearAll l
  · rw [if_pos hn]
    refine neg (by simp [hn]) ?_
    have key : ∀ (t p : List Int) (W : Nat), l = p ++ t → W ≤ 34 → fitsW p W → (∀ v, v < W → ¬ fitsW p v) → Ev (fun q => cost_Width.l0 q (W : Int) l (l.length : Int) (p.length : Int)) (wid l : Int) := by
      intro t
      induction t with
      | nil =>
        intro p W hp hW h1 h2
        rw [List.append_nil] at hp
        subst hp
        refine succ ?_
        simp only [cost_Width.l0]
        exact neg (by omega) (cst (by rw [wid_eq hn h1 h2]))
      | cons x t ih =>
        intro p W hp hW h1 h2
        have l1 := congrArg List.length hp
        simp only [List.length_append, List.length_cons] at l1
        refine succ ?_
        simp only [cost_Width.l0]
        have ra : rd l (p.length : Int) = x := by rw [hp]; exact rd_at _ _ _
        have hx : IsNear x := hn x (by rw [hp]; simp)
        rw [ra]
        refine pos (by omega) (pos (by omega) (pos (by omega) ?_))
        have nxt : ∀ W : Nat, W ≤ 34 → fitsW (p ++ [x]) W → (∀ v, v < W → ¬ fitsW (p ++ [x]) v) → Ev (fun q => cost_Width.l0 q (W : Int) l (l.length : Int) (wrap64 ((p.length : Int) + 1))) (wid l : Int) := fun W hW g1 g2 => by
          rw [w64 (by omega) (by omega)]
          have := ih (p ++ [x]) W (by simp [hp]) hW g1 g2
          simpa using this
        have inner : ∀ (d W : Nat), W + d = 34 → fitsW p W → (∀ v, v < W → ¬ fitsW (p ++ [x]) v) → Ev (fun q => cost_Width.l1 q (W : Int) x l (l.length : Int) (p.length : Int)) (wid l : Int) := by
          intro d
          induction d with
          | zero =>
            intro W hWd g1 g2
            obtain rfl : W = 34 := by omega
            have hi : fitsW (p ++ [x]) 34 := fitsW_34 (nearAll_append.2 ⟨fun n h => hn n (by rw [hp]; simp [h]), fun n h => by simp at h; rw [h]; exact hx⟩)
            refine succ ?_
            simp only [cost_Width.l1]
            by_cases h0 : x = 0
            · exact pos h0 (nxt 34 (by omega) hi g2)
            · refine neg h0 ?_
              rw [inn_eq x 34 (by omega) (near_64 hx)]
              simp only [Option.bind_some]
              have := (hi x (by simp)).resolve_left h0
              exact pos (by simpa using this) (nxt 34 (by omega) hi g2)
          | succ d ihd =>
            intro W hWd g1 g2
            refine succ ?_
            simp only [cost_Width.l1]
            by_cases h0 : x = 0
            · exact pos h0 (nxt W (by omega) (fitsW_append.2 ⟨g1, fun n h => by simp at h; exact .inl (h.trans h0)⟩) g2)
            · refine neg h0 ?_
              rw [inn_eq x W (by omega) (near_64 hx)]
              simp only [Option.bind_some]
              by_cases hi : inn x W
              · exact pos (by simpa using hi) (nxt W (by omega) (fitsW_append.2 ⟨g1, fun n h => by simp at h; rw [h]; exact .inr hi⟩) g2)
              · refine neg (by simpa using hi) ?_
                rw [w64 (x := (W : Int) + 1) (by omega) (by omega)]
                refine ihd (W + 1) (by omega) (fitsW_succ g1) (fun v hv => ?_)
                rcases Nat.lt_or_ge v W with h5 | h5
                · exact g2 v h5
                · obtain rfl : v = W := by omega
                  exact fun hf => ((fitsW_append.1 hf).2 x (by simp)).elim h0 hi
        exact inner (34 - W) W (by omega) h1 (fun v hv hf => h2 v hv (fitsW_append.1 hf).1)
    exact key l [] 0 rfl (by omega) (fun n h => by simp at h) (fun v hv => by omega)
  · rw [if_neg hn]
    exact pos (by simp [hn]) (cst rfl)
/-- The first place of the least of f 0, .., f m. -/
def amin (f : Nat → Int) : Nat → Nat
  | 0 => 0
  | m + 1 => if f (m + 1) < f (amin f m) then m + 1 else amin f m
theorem amin_le (f : Nat → Int) : ∀ m, amin f m ≤ m
  | 0 => Nat.le_refl _
  | m + 1 => by have := amin_le f m; simp only [amin]; split <;> omega
theorem amin_min (f : Nat → Int) : ∀ m j, j ≤ m → f (amin f m) ≤ f j
  | 0, j, h => by obtain rfl : j = 0 := by omega
                  exact Int.le_refl _
  | m + 1, j, h => by
    simp only [amin]
    rcases Nat.lt_or_ge m j with h1 | h1
    · obtain rfl : j = m + 1 := by omega
      split <;> omega
    · have := amin_min f m j h1
      split <;> omega
theorem amin_first (f : Nat → Int) : ∀ m j, j < amin f m → f (amin f m) < f j
  | 0, j, h => by simp only [amin] at h; omega
  | m + 1, j, h => by
    simp only [amin] at h ⊢
    split
    · rename_i hc
      rw [if_pos hc] at h
      have := amin_min f m j (by omega)
      omega
    · rename_i hc
      rw [if_neg hc] at h
      exact amin_first f m j h
theorem amin_stay (f : Nat → Int) (j : Nat) : ∀ d, (∀ i, j < i → i ≤ j + d → f (amin f j) ≤ f i) → amin f (j + d) = amin f j
  | 0, _ => rfl
  | d + 1, h => by
    have ih := amin_stay f j d (fun i h1 h2 => h i h1 (by omega))
    show (if f (j + d + 1) < f (amin f (j + d)) then j + d + 1 else amin f (j + d)) = _
    rw [ih, if_neg (by have := h (j + d + 1) (by omega) (by omega); omega)]
def rawL (l : List Int) : Int := 5 + (wid l : Int) * l.length
/-- The way with fewest bits, by the greatest k. -/
def bestL (l : List Int) (m : Nat) : Int × Bool × Int × Int :=
  if wid l ≤ 31 ∧ rawL l < bitsL (amin (fun k => bitsL k l) m) l then ((wid l : Int), true, rawL l, 0) else ((amin (fun k => bitsL k l) m : Int), false, bitsL (amin (fun k => bitsL k l) m) l, 0)
theorem raw_bd (l : List Int) (hl : l.length ≤ 1000) (h : wid l ≤ 34) : 0 ≤ (wid l : Int) * l.length ∧ (wid l : Int) * l.length ≤ 34000 := by
  refine ⟨Int.mul_nonneg (by omega) (by omega), ?_⟩
  have : (wid l : Int) * l.length ≤ 34 * 1000 := Int.mul_le_mul (by omega) (by omega) (by omega) (by omega)
  omega
end Go.Proofs.Ytpoigjkkcehpdaa.PL
