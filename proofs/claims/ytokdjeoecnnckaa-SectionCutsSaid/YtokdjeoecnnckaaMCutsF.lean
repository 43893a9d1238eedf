/- What the law SectionCuts needs, part 6: texts of this claim, merged; the row itself stands in the last part. Conditions: as each theorem says. -/
import Derived.ScopeJumps
import Derived.WalkMore
import Derived.Deep.LoopGhost
import Derived.Laws.BitsLemmas
import Derived.Test.YtokdjeoecnnckaaMCutsE
section
namespace Go.Proofs.Ytokdjeoecnnckaa.PL
open Go.RowKit Go.Proofs.Ytokdjeoecnnckaa.PA Go.Proofs.YtokdjeoecnnckaaW.PrintWords Go.Proofs.YtokdjeoecnnckaaW.PrintMore
set_option linter.unusedVariables false
set_option linter.unusedSimpArgs false
def NearAll (l : List Int) : Prop := ∀ n ∈ l, IsNear n
instance (l : List Int) : Decidable (NearAll l) := by unfold NearAll; infer_instance
theorem nearAll_cons {x : Int} {t : List Int} : NearAll (x :: t) ↔ IsNear x ∧ NearAll t := by simp [NearAll]
theorem nearAll_append {a b : List Int} : NearAll (a ++ b) ↔ NearAll a ∧ NearAll b := by
  simp only [NearAll, List.mem_append]
  exact ⟨fun h => ⟨fun n hn => h n (.inl hn), fun n hn => h n (.inr hn)⟩, fun h n hn => hn.elim (h.1 n) (h.2 n)⟩
theorem anyFar_ev (l : List Int) (hl : l.length ≤ 1000) : Ev (fun k => serinetteshadow_AnyFarCost.f k l) (!decide (NearAll l)) := by
  have key : ∀ (t p : List Int), l = p ++ t → Ev (fun k => serinetteshadow_AnyFarCost.l0 k l (l.length : Int) (p.length : Int)) (!decide (NearAll t)) := by
    intro t
    induction t with
    | nil =>
      intro p hp
      refine succ ?_
      simp only [serinetteshadow_AnyFarCost.l0]
      exact neg (by rw [hp]; simp) (cst (by simp [NearAll]))
    | cons x t ih =>
      intro p hp
      have l1 := congrArg List.length hp
      simp only [List.length_append, List.length_cons] at l1
      refine succ ?_
      simp only [serinetteshadow_AnyFarCost.l0]
      have ra : rd l (p.length : Int) = x := by rw [hp]; exact rd_at _ _ _
      rw [ra, w64 (by omega) (by omega)]
      refine pos (by omega) (pos (by omega) (pos (by omega) ?_))
      by_cases h1 : x < -8589934592
      · exact pos h1 (cst (by rw [decide_eq_false (fun h => by have := (nearAll_cons.1 h).1; unfold IsNear at this; omega)]; rfl))
      · refine neg h1 ?_
        by_cases h2 : x ≥ 8589934592
        · exact pos h2 (cst (by rw [decide_eq_false (fun h => by have := (nearAll_cons.1 h).1; unfold IsNear at this; omega)]; rfl))
        · refine neg h2 ?_
          have e : decide (NearAll (x :: t)) = decide (NearAll t) := decide_eq_decide.2 (nearAll_cons.trans ⟨fun h => h.2, fun h => ⟨by unfold IsNear; omega, h⟩⟩)
          rw [e]
          have := ih (p ++ [x]) (by simp [hp])
          simpa using this
  exact key l [] rfl
/-- How many bits near numbers have by a k. -/
def bitsL (k : Nat) : List Int → Int
  | [] => 0
  | n :: t => sz n k + bitsL k t
theorem bitsL_append (k : Nat) : ∀ (a b : List Int), bitsL k (a ++ b) = bitsL k a + bitsL k b
  | [], b => by simp [bitsL]
  | n :: t, b => by simp only [List.cons_append, bitsL, bitsL_append k t b]; omega
theorem bitsL_bd (k : Nat) (hk : k ≤ 30) : ∀ (l : List Int), NearAll l → (1 + k) * l.length ≤ bitsL k l ∧ bitsL k l ≤ 17179869300 * l.length
  | [], _ => by simp [bitsL]
  | n :: t, h => by
    have h1 := sz_bd (nearAll_cons.1 h).1 hk
    have h2 := bitsL_bd k hk t (nearAll_cons.1 h).2
    simp only [bitsL, List.length_cons]
    have e1 : (1 + (k : Int)) * ((t.length + 1 : Nat) : Int) = (1 + (k : Int)) * t.length + (1 + k) := by rw [Int.natCast_succ, Int.mul_add, Int.mul_one]
    omega
/-- Is a number in a depth? -/
def inn (n : Int) (w : Nat) : Prop := 1 ≤ w ∧ -(2 ^ (w - 1)) ≤ n ∧ n < 2 ^ (w - 1)
instance (n : Int) (w : Nat) : Decidable (inn n w) := by unfold inn; infer_instance
theorem inn_eq (n : Int) (w : Nat) (hw : w ≤ 62) (h : -9223372036854775808 ≤ n ∧ n < 9223372036854775808) : pcm_In.f n (w : Int) = some (decide (inn n w)) := by
  unfold pcm_In.f
  by_cases h1 : (w : Int) < 1
  · rw [if_pos h1]; congr 1; exact (decide_eq_false (fun h => by have := h.1; omega)).symm
  · have e : (w : Int) - 1 = ((w - 1 : Nat) : Int) := by omega
    rw [if_neg h1, if_neg (by omega), e, w64 (by omega) (by omega), if_pos (by omega), shr_eq' n (by omega)]
    have hp : (0 : Int) < 2 ^ (w - 1) := Int.pow_pos (by decide)
    have iff0 : n / 2 ^ (w - 1) = 0 ↔ 0 ≤ n ∧ n < 2 ^ (w - 1) := by
      constructor
      · intro h0
        have := Int.mul_ediv_add_emod n (2 ^ (w - 1))
        rw [h0, Int.mul_zero, Int.zero_add] at this
        have h2 := Int.emod_nonneg n (Int.ne_of_gt hp); have h3 := Int.emod_lt_of_pos n hp
        omega
      · intro h0; exact Int.ediv_eq_zero_of_lt h0.1 h0.2
    have iff1 : n / 2 ^ (w - 1) = -1 ↔ -(2 ^ (w - 1)) ≤ n ∧ n < 0 := by
      constructor
      · intro h0
        have := Int.mul_ediv_add_emod n (2 ^ (w - 1))
        rw [h0] at this
        have h2 := Int.emod_nonneg n (Int.ne_of_gt hp); have h3 := Int.emod_lt_of_pos n hp
        omega
      · intro h0
        refine ((Int.ediv_emod_unique (r := n + 2 ^ (w - 1)) (q := -1) hp).2 ⟨by omega, by omega, by omega⟩).1
    by_cases h0 : n / 2 ^ (w - 1) = 0
    · rw [if_pos h0]
      congr 1
      exact (decide_eq_true (by have := iff0.1 h0; exact ⟨by omega, by omega, by omega⟩)).symm
    · rw [if_neg h0]
      congr 1
      by_cases h2 : n / 2 ^ (w - 1) = -1
      · rw [h2]
        exact (decide_eq_true (by have := iff1.1 h2; exact ⟨by omega, by omega, by omega⟩)).symm
      · rw [beq_eq_false_iff_ne.2 h2]
        refine (decide_eq_false (fun hi => ?_)).symm
        rcases Int.lt_or_le n 0 with h3 | h3
        · exact h2 (iff1.2 ⟨hi.2.1, h3⟩)
        · exact h0 (iff0.2 ⟨h3, hi.2.2⟩)
theorem inn_succ {n : Int} {w : Nat} (h : inn n w) : inn n (w + 1) := by
  obtain ⟨h1, h2, h3⟩ := h
  have e : (2 : Int) ^ (w + 1 - 1) = 2 ^ (w - 1) * 2 := by rw [show w + 1 - 1 = (w - 1) + 1 by omega, Int.pow_succ]
  have hp : (0 : Int) < 2 ^ (w - 1) := Int.pow_pos (by decide)
  exact ⟨by omega, by rw [e]; omega, by rw [e]; omega⟩
/-- Do numbers fit, each in so many bits? -/
def fitsW (l : List Int) (w : Nat) : Prop := ∀ n ∈ l, n = 0 ∨ inn n w
instance (l : List Int) (w : Nat) : Decidable (fitsW l w) := by unfold fitsW; infer_instance
theorem fitsW_succ {l : List Int} {w : Nat} (h : fitsW l w) : fitsW l (w + 1) := fun n hn => (h n hn).imp id inn_succ
theorem fitsW_mono {l : List Int} {v w : Nat} (h : fitsW l v) (hvw : v ≤ w) : fitsW l w := by
  obtain ⟨d, rfl⟩ : ∃ d, w = v + d := ⟨w - v, by omega⟩
  clear hvw
  induction d with
  | zero => exact h
  | succ d ih => exact fitsW_succ ih
theorem fitsW_34 {l : List Int} (h : NearAll l) : fitsW l 34 := fun n hn => by
  have := h n hn
  unfold IsNear at this
  exact .inr ⟨by omega, by simpa using this.1, by simpa using this.2⟩
def widGo (l : List Int) : Nat → Nat → Nat
  | 0, w => w
  | d + 1, w => if fitsW l w then w else widGo l d (w + 1)
/-- How many bits each number has. -/
def wid (l : List Int) : Nat := widGo l 34 0
theorem widGo_spec {l : List Int} (h : fitsW l 34) : ∀ d w, w + d = 34 → fitsW l (widGo l d w) ∧ widGo l d w ≤ 34 ∧ ∀ v, w ≤ v → v < widGo l d w → ¬ fitsW l v
  | 0, w, e => by
    obtain rfl : w = 34 := by omega
    exact ⟨h, Nat.le_refl _, fun v h1 h2 => by simp only [widGo] at h2; omega⟩
  | d + 1, w, e => by
    simp only [widGo]
    split
    · rename_i hf
      exact ⟨hf, by omega, fun v h1 h2 => by omega⟩
    · rename_i hf
      obtain ⟨h1, h2, h3⟩ := widGo_spec h d (w + 1) (by omega)
      refine ⟨h1, h2, fun v hv1 hv2 => ?_⟩
      rcases Nat.lt_or_ge w v with h5 | h5
      · exact h3 v h5 hv2
      · obtain rfl : v = w := by omega
        exact hf
theorem wid_spec {l : List Int} (h : NearAll l) : fitsW l (wid l) ∧ wid l ≤ 34 ∧ ∀ v, v < wid l → ¬ fitsW l v := by
  obtain ⟨h1, h2, h3⟩ := widGo_spec (fitsW_34 h) 34 0 rfl
  exact ⟨h1, h2, fun v hv => h3 v (Nat.zero_le _) hv⟩
theorem wid_eq {l : List Int} (h : NearAll l) {w : Nat} (h1 : fitsW l w) (h2 : ∀ v, v < w → ¬ fitsW l v) : wid l = w := by
  obtain ⟨g1, _, g2⟩ := wid_spec h
  rcases Nat.lt_trichotomy (wid l) w with h3 | h3 | h3
  · exact absurd g1 (h2 _ h3)
  · exact h3
  · exact absurd h1 (g2 _ h3)
theorem fitsW_append {a b : List Int} {w : Nat} : fitsW (a ++ b) w ↔ fitsW a w ∧ fitsW b w := by
  simp only [fitsW, List.mem_append]
  exact ⟨fun h => ⟨fun n hn => h n (.inl hn), fun n hn => h n (.inr hn)⟩, fun h n hn => hn.elim (h.1 n) (h.2 n)⟩
theorem width_ev (l : List Int) (hl : l.length ≤ 1000) : Ev (fun q => cost_Width.f q l) (if NearAll l then (wid l : Int) else -1) := by
  unfold cost_Width.f
  refine bnd (anyFar_ev l hl) ?_
  by_cases hn : NearAll l
  · rw [if_pos hn]
    refine neg (by simp [hn]) ?_
    have key : ∀ (t p : List Int) (W : Nat), l = p ++ t → W ≤ 34 → fitsW p W → (∀ v, v < W → ¬ fitsW p v) → Ev (fun q => cost_Width.l0 q (W : Int) l (l.length : Int) (p.length : Int)) (wid l : Int) := by
      intro t
      induction t with
      | nil =>
        intro p W hp hW h1 h2
        rw [List.append_nil] at hp
        subst hp
        refine succ ?_
        simp only [cost_Width.l0]
        exact neg (by omega) (cst (by rw [wid_eq hn h1 h2]))
      | cons x t ih =>
        intro p W hp hW h1 h2
        have l1 := congrArg List.length hp
        simp only [List.length_append, List.length_cons] at l1
        refine succ ?_
        simp only [cost_Width.l0]
        have ra : rd l (p.length : Int) = x := by rw [hp]; exact rd_at _ _ _
        have hx : IsNear x := hn x (by rw [hp]; simp)
        rw [ra]
        refine pos (by omega) (pos (by omega) (pos (by omega) ?_))
        have nxt : ∀ W : Nat, W ≤ 34 → fitsW (p ++ [x]) W → (∀ v, v < W → ¬ fitsW (p ++ [x]) v) → Ev (fun q => cost_Width.l0 q (W : Int) l (l.length : Int) (wrap64 ((p.length : Int) + 1))) (wid l : Int) := fun W hW g1 g2 => by
          rw [w64 (by omega) (by omega)]
          have := ih (p ++ [x]) W (by simp [hp]) hW g1 g2
          simpa using this
        have inner : ∀ (d W : Nat), W + d = 34 → fitsW p W → (∀ v, v < W → ¬ fitsW (p ++ [x]) v) → Ev (fun q => cost_Width.l1 q (W : Int) x l (l.length : Int) (p.length : Int)) (wid l : Int) := by
          intro d
          induction d with
          | zero =>
            intro W hWd g1 g2
            obtain rfl : W = 34 := by omega
            have hi : fitsW (p ++ [x]) 34 := fitsW_34 (nearAll_append.2 ⟨fun n h => hn n (by rw [hp]; simp [h]), fun n h => by simp at h; rw [h]; exact hx⟩)
            refine succ ?_
            simp only [cost_Width.l1]
            by_cases h0 : x = 0
            · exact pos h0 (nxt 34 (by omega) hi g2)
            · refine neg h0 ?_
              rw [inn_eq x 34 (by omega) (near_64 hx)]
              simp only [Option.bind_some]
              have := (hi x (by simp)).resolve_left h0
              exact pos (by simpa using this) (nxt 34 (by omega) hi g2)
          | succ d ihd =>
            intro W hWd g1 g2
            refine succ ?_
            simp only [cost_Width.l1]
            by_cases h0 : x = 0
            · exact pos h0 (nxt W (by omega) (fitsW_append.2 ⟨g1, fun n h => by simp at h; exact .inl (h.trans h0)⟩) g2)
            · refine neg h0 ?_
              rw [inn_eq x W (by omega) (near_64 hx)]
              simp only [Option.bind_some]
              by_cases hi : inn x W
              · exact pos (by simpa using hi) (nxt W (by omega) (fitsW_append.2 ⟨g1, fun n h => by simp at h; rw [h]; exact .inr hi⟩) g2)
              · refine neg (by simpa using hi) ?_
                rw [w64 (x := (W : Int) + 1) (by omega) (by omega)]
                refine ihd (W + 1) (by omega) (fitsW_succ g1) (fun v hv => ?_)
                rcases Nat.lt_or_ge v W with h5 | h5
                · exact g2 v h5
                · obtain rfl : v = W := by omega
                  exact fun hf => ((fitsW_append.1 hf).2 x (by simp)).elim h0 hi
        exact inner (34 - W) W (by omega) h1 (fun v hv hf => h2 v hv (fitsW_append.1 hf).1)
    exact key l [] 0 rfl (by omega) (fun n h => by simp at h) (fun v hv => by omega)
  · rw [if_neg hn]
    exact pos (by simp [hn]) (cst rfl)
/-- The first place of the least of f 0, .., f m. -/
def amin (f : Nat → Int) : Nat → Nat
  | 0 => 0
  | m + 1 => if f (m + 1) < f (amin f m) then m + 1 else amin f m
theorem amin_le (f : Nat → Int) : ∀ m, amin f m ≤ m
  | 0 => Nat.le_refl _
  | m + 1 => by have := amin_le f m; simp only [amin]; split <;> omega
theorem amin_min (f : Nat → Int) : ∀ m j, j ≤ m → f (amin f m) ≤ f j
  | 0, j, h => by obtain rfl : j = 0 := by omega
                  exact Int.le_refl _
  | m + 1, j, h => by
    simp only [amin]
    rcases Nat.lt_or_ge m j with h1 | h1
    · obtain rfl : j = m + 1 := by omega
      split <;> omega
    · have := amin_min f m j h1
      split <;> omega
def rawL (l : List Int) : Int := 5 + (wid l : Int) * l.length
/-- The way with fewest bits, by the greatest k. -/
def bestL (l : List Int) (m : Nat) : Int × Bool × Int × Int :=
  if wid l ≤ 31 ∧ rawL l < bitsL (amin (fun k => bitsL k l) m) l then ((wid l : Int), true, rawL l, 0) else ((amin (fun k => bitsL k l) m : Int), false, bitsL (amin (fun k => bitsL k l) m) l, 0)
theorem raw_bd (l : List Int) (hl : l.length ≤ 1000) (h : wid l ≤ 34) : 0 ≤ (wid l : Int) * l.length ∧ (wid l : Int) * l.length ≤ 34000 := by
  refine ⟨Int.mul_nonneg (by omega) (by omega), ?_⟩
  have : (wid l : Int) * l.length ≤ 34 * 1000 := Int.mul_le_mul (by omega) (by omega) (by omega) (by omega)
  omega
end Go.Proofs.Ytokdjeoecnnckaa.PL
end
section
namespace Go.Proofs.Ytokdjeoecnnckaa.PL
open Go.RowKit Go.Proofs.Ytokdjeoecnnckaa.PA Go.Proofs.YtokdjeoecnnckaaW.PrintWords Go.Proofs.YtokdjeoecnnckaaW.PrintLast Go.Proofs.YtokdjeoecnnckaaW.PrintMore
set_option linter.unusedVariables false
set_option linter.unusedSimpArgs false
/-- How many numbers each part has. -/
def cutsP (n order : Int) (o : Nat) : List Int :=
  if (n + order) % 2 ^ o = 0 ∧ order < (n + order) / 2 ^ o then ((n + order) / 2 ^ o - order) :: List.replicate (2 ^ o - 1) ((n + order) / 2 ^ o) else []
theorem shl_i64' {x : Int} {s : Nat} (h : s ≤ 64) (h0 : -9223372036854775808 ≤ x * 2 ^ s) (h1 : x * 2 ^ s < 9223372036854775808) : shl .i64 x (s : Int) = x * 2 ^ s := by
  unfold shl
  rw [Int.toNat_natCast, show min s IntKind.i64.bits = s by simp [IntKind.bits]; omega]
  exact (i64_w _).trans (w64 h0 h1)
theorem pow15 {o : Nat} (ho : o ≤ 15) : (1 : Int) ≤ 2 ^ o ∧ (2 : Int) ^ o ≤ 32768 := by
  have h1 : (2 : Nat) ^ o ≤ 2 ^ 15 := Nat.pow_le_pow_right (by decide) ho
  have h2 : 0 < (2 : Nat) ^ o := Nat.pow_pos (by decide)
  have h3 : ((2 ^ o : Nat) : Int) = (2 : Int) ^ o := by simp
  have h4 : (2 : Nat) ^ 15 = 32768 := by decide
  omega
theorem cuts_l0 (order share : Int) (N : Nat) (hN : 0 < N) (hN2 : N ≤ 40000) (hs : 0 ≤ share - order) (hs2 : share - order < 9223372036854775808) :
    ∀ (d i : Nat), i + d = N → Ev (fun k => parts_Cuts.l0 k order share (List.replicate i share ++ List.replicate d 0) (N : Int) (i : Int)) ((share - order) :: List.replicate (N - 1) share) := by
  intro d
  induction d with
  | zero =>
    intro i hi
    obtain rfl : i = N := by omega
    refine succ ?_
    simp only [parts_Cuts.l0]
    refine neg (by omega) (pos (by simp; omega) (cst ?_))
    obtain ⟨m, rfl⟩ : ∃ m, i = m + 1 := ⟨i - 1, by omega⟩
    have e1 : List.replicate (m + 1) share ++ List.replicate 0 0 = share :: List.replicate m share := by simp [List.replicate_succ]
    rw [e1]
    have e2 : rd (share :: List.replicate m share) 0 = share := by simp [rd]
    rw [e2, w64 (by omega) (by omega)]
    simp
  | succ d ih =>
    intro i hi
    refine succ ?_
    simp only [parts_Cuts.l0]
    refine pos (by omega) (pos (by omega) (pos (by simp; omega) ?_))
    rw [w64 (by omega) (by omega)]
    have e1 : (List.replicate i share ++ List.replicate (d + 1) 0).set ((i : Int)).toNat share = List.replicate (i + 1) share ++ List.replicate d 0 := by
      rw [Int.toNat_natCast, List.replicate_succ, List.set_append_right _ _ (by simp)]
      simp [List.replicate_succ', List.append_assoc]
    rw [e1]
    have := ih (i + 1) (by omega)
    simpa using this
theorem cuts_ev (n order : Int) (o : Nat) (hn0 : 0 ≤ n) (hn : n ≤ 100000) (ho0 : 0 ≤ order) (ho1 : order ≤ 100000) (ho : o ≤ 15) : Ev (fun k => parts_Cuts.f k n order (o : Int)) (cutsP n order o) := by
  obtain ⟨p1, p2⟩ := pow15 ho
  have hd0 : 0 ≤ (n + order) / 2 ^ o := Int.ediv_nonneg (by omega) (by omega)
  have hd1 : (n + order) / 2 ^ o ≤ n + order := Int.ediv_le_self _ (by omega)
  have hme := Int.mul_ediv_add_emod (n + order) (2 ^ o)
  have hm0 := Int.emod_nonneg (n + order) (show (2 : Int) ^ o ≠ 0 by omega)
  have hm1 := Int.emod_lt_of_pos (n + order) (show (0 : Int) < 2 ^ o by omega)
  unfold parts_Cuts.f
  refine neg (by omega) (neg (by omega) (neg (by omega) ?_))
  rw [decide_eq_false (by omega)]
  refine succ ?_
  simp only [parts_Cuts.j0]
  rw [w64 (x := n + order) (by omega) (by omega), shr_eq' _ (by omega)]
  have esh : shl .i64 ((n + order) / 2 ^ o) (o : Int) = 2 ^ o * ((n + order) / 2 ^ o) := by
    rw [Int.mul_comm] at hme
    rw [shl_i64' (by omega) (by omega) (by omega), Int.mul_comm]
  rw [esh]
  refine neg (by decide) (pos (by omega) ?_)
  have j1 : ∀ b : Bool, ((n + order) % 2 ^ o = 0) → b = decide ((n + order) / 2 ^ o ≤ order) → Ev (fun k => parts_Cuts.j1 k order (o : Int) ((n + order) / 2 ^ o) b) (cutsP n order o) := by
    intro b h0 hb
    refine succ ?_
    simp only [parts_Cuts.j1]
    by_cases hs : (n + order) / 2 ^ o ≤ order
    · refine pos (by rw [hb]; exact decide_eq_true hs) (cst ?_)
      rw [cutsP, if_neg (fun h => by omega)]
    · refine neg (by rw [hb]; simpa using hs) (pos (by omega) ?_)
      have es1 : shl .i64 1 (o : Int) = 2 ^ o := by rw [shl_i64' (by omega) (by omega) (by omega)]; omega
      rw [es1]
      have et : ((2 : Int) ^ o).toNat = 2 ^ o := by
        have h3 : ((2 ^ o : Nat) : Int) = (2 : Int) ^ o := by simp
        rw [← h3, Int.toNat_natCast]
      rw [et]
      have h3 : ((2 ^ o : Nat) : Int) = (2 : Int) ^ o := by simp
      refine pos (by omega) (pos (by omega) ?_)
      simp only [Option.bind_some]
      rw [cutsP, if_pos ⟨h0, by omega⟩]
      have := cuts_l0 order ((n + order) / 2 ^ o) (2 ^ o) (by omega) (by omega) (by omega) (by omega) (2 ^ o) 0 (by omega)
      simpa using this
  by_cases h0 : (n + order) % 2 ^ o = 0
  · exact pos (by omega) (j1 _ h0 rfl)
  · refine neg (by omega) ?_
    refine succ ?_
    simp only [parts_Cuts.j1]
    refine pos trivial (cst ?_)
    rw [cutsP, if_neg (fun h => h0 h.1)]
theorem cutsP_len {n order : Int} {o : Nat} (h : cutsP n order o ≠ []) : (cutsP n order o).length = 2 ^ o := by
  unfold cutsP at h ⊢
  split at h
  · rename_i hc
    rw [if_pos hc]
    have : 0 < 2 ^ o := Nat.pow_pos (by decide)
    rw [List.length_cons, List.length_replicate]
    omega
  · exact absurd rfl h
theorem cutsP_0 {n order : Int} (h : 0 < n) : cutsP n order 0 = [n] := by
  unfold cutsP
  rw [if_pos ⟨by simp, by simp; omega⟩]
  simp
end Go.Proofs.Ytokdjeoecnnckaa.PL
end
section
namespace Go.Proofs.Ytokdjeoecnnckaa.PA
open Go Go.RowKit Go.Proofs.YtokdjeoecnnckaaW.PrintWords Go.Proofs.YtokdjeoecnnckaaW.PrintLast Go.Proofs.YtokdjeoecnnckaaW.PrintMore
attribute [local go_sem] max2_int min2_int max_two min_two max_three min_three max_four min_four
set_option linter.unusedSimpArgs false
set_option linter.unusedVariables false
/-- What is known of some numbers. -/
def smOf (wf : List Int → Int) (l : List Int) : Sm := ⟨(l.length : Int), ysAt l 31, wf l⟩
def sumsOf (wf : List Int → Int) : List Int → List Int → List Sm
  | [], _ => []
  | n :: cs, l => smOf wf (l.take n.toNat) :: sumsOf wf cs (l.drop n.toNat)
def Fits : List Int → Nat → Prop
  | [], _ => True
  | n :: cs, r => 0 ≤ n ∧ n ≤ (r : Int) ∧ Fits cs (r - n.toNat)
/-- The parts' widths are known. -/
def WFits (k : Nat) (wf : List Int → Int) : List Int → List Int → Prop
  | [], _ => True
  | n :: cs, l => cost_Width.f k (l.take n.toNat) = some (wf (l.take n.toNat)) ∧ WFits k wf cs (l.drop n.toNat)
theorem info55 : (Try.prog.info? 87).map (fun i => (i.zero, i.size, i.bytes)) = some (some (.agg (iA (sumL 0 zs31 0))), 33, 264) := by kernel_rfl
theorem fold_zipL : ∀ (xs : List Value) (k : Nat) (Z : Array Value), k + xs.length = Z.size → (xs.zipIdx k).foldl (fun (cs : Array Value) (x : Value × Nat) => cs.setIfInBounds x.2 x.1) Z = (Z.toList.take k ++ xs).toArray
  | [], k, Z, h => by
    have : Z.toList.take k = Z.toList := List.take_of_length_le (by simp at h ⊢; omega)
    simp [this]
  | x :: xs, k, Z, h => by
    rw [List.zipIdx_cons, List.foldl_cons, fold_zipL xs (k + 1) (Z.setIfInBounds k x) (by simp at h ⊢; omega)]
    have hk : k < Z.toList.length := by simp at h ⊢; omega
    congr 1
    have h2 : (Z.setIfInBounds k x).toList = Z.toList.set k x := by simp
    rw [h2, List.take_add_one, List.getElem?_set_self hk, List.take_set_of_le (Nat.le_refl k)]
    simp
theorem fold_zip (X Z : Array Value) (n : Nat) (h : Z.size = X.size) (hn : n = X.size) : Array.foldl (fun (cs : Array Value) (x : Value × Nat) => cs.setIfInBounds x.2 x.1) Z X.zipIdx 0 n = X := by
  subst hn
  have h1 : X.size = X.zipIdx.size := by simp
  conv => lhs; rw [h1]
  rw [← Array.foldl_toList, Array.toList_zipIdx, fold_zipL _ 0 Z (by simp [h])]
  simp
set_option maxHeartbeats 8000000 in
set_option maxRecDepth 100000 in
theorem parts_finest.calls (k : Nat) (A : Option Addr) (c : Nat) (l : List Int) (order : Int) (most o : Nat) (cutsF : Nat → List Int) (wf : List Int → Int) (w : World)
    (hr : Kd.C (Kd.int .i64) w A l.length l) (hc : l.length ≤ c) (hW : WFits k wf (cutsF o) l)
    (hm : most < 100) (hC : ∀ j, j ≤ most → parts_Cuts.f k (l.length : Int) order (j : Int) = some (cutsF j)) (ho : o ≤ most) (hne : cutsF o ≠ []) (hmax : ∀ j, o < j → j ≤ most → cutsF j = []) (hfit : Fits (cutsF o) l.length) (hlen : (cutsF o).length < 400000) :
    Calls Try.prog 37 #[.slice A l.length c, .int .i64 order, .int .i64 (most : Int)] w fun e w' => ∃ v : Value, e = .returned (.tuple #[v, .int .i64 (o : Int)]) ∧ Kd.R kS 87 w' w.heap.size (fun _ => True) v (sumsOf wf (cutsF o) l) ∧ Below w.heap.size w w' := by
  have HR := zG.mk hr
  have HCc := zG.mk hc
  have HW := zG.mk hW
  have HM := zG.mk hm
  have HCu := zG.mk hC
  have HO_ := zG.mk ho
  have HNE := zG.mk hne
  have HMX := zG.mk hmax
  have HF := zG.mk hfit
  have HLEN := zG.mk hlen
  have HB := zG.mk (Below.refl w.heap.size w)
  clear hr hc hW hm hC ho hne hmax hfit hlen
  go_enter Try.func37, Try.ntmps37
  go_upto_region 1 with (fail)
  go_loopg [2] (most - o) (fun kq v2 w' => ∃ (j : Nat), v2 = .int .i64 (j : Int) ∧ zG (o + kq = j) ∧ zG (j ≤ most) ∧ zG (Below w.heap.size w w'))
  case atStart => exact ⟨most, rfl, ⟨by have := HO_.out; omega⟩, ⟨Nat.le_refl _⟩, HB⟩
  case round =>
    clear HB
    obtain ⟨j, rfl, HK, HJ, HB⟩ := hrel
    by_cases hj : j = o
    · subst hj
      obtain ⟨cs, hcs⟩ : ∃ cs, cutsF j = cs := ⟨_, rfl⟩
      have HCS := zG.mk (show parts_Cuts.f k (l.length : Int) order (j : Int) = some cs by rw [HCu.out j HJ.out, hcs])
      have hne := HNE.out
      have hq0 : ¬ (cs.length : Int) = 0 := by rw [hcs] at hne; have := List.length_pos_iff.2 hne; omega
      have hq : decide ((cs.length : Int) = 0) = false := decide_eq_false hq0
      have hq2 : ((cs.length : Int) == 0) = false := beq_eq_false_iff_ne.2 hq0
      clear hq0
      have HCS0 := zG.mk hcs
      clear hne hcs
      go_upto_region 3 with (go_at_call 28; (refine (parts_Cuts.calls k _ _ _ cs _ HCS.out).mono ?_); rintro e w9 ⟨v0_, rfl, hR, hb⟩; obtain ⟨A1, c1, rfl⟩ := Kd.R_slice hR; clear hR; have n_ := zG.mk (below_step HB.out hb); clear HB hb; have HB := n_; clear n_)
      clear hq hq2
      have hlo := HB.out.size
      go_upto_region 5 with (go_at_call 28; (refine (parts_Cuts.calls k _ _ _ cs _ HCS.out).mono ?_); rintro e w4 ⟨v0_, rfl, hR, hb⟩; obtain ⟨A2, c2, hv2, hc2, hCr⟩ := Kd.R_reads hR; subst hv2; have n_ := zG.mk (below_step HB.out hb); clear HB hb hR; have HB := n_; clear n_; have HC2 := zG.mk hc2; clear hc2)
      have hs4 := HB.out.size
      have HL := zG.mk (Kd.C_below HR.out HB.out)
      have HCR := zG.mk hCr
      have hFt := HF.out
      rw [HCS0.out] at hFt
      have HFt := zG.mk hFt
      have hWt := HW.out
      rw [HCS0.out] at hWt
      have HWt := zG.mk hWt
      clear hWt
      have hLN := HLEN.out
      rw [HCS0.out] at hLN
      have HLN := zG.mk hLN
      clear hCr hFt HF hLN
      have hO := Kd.R_nil kS 87 w4 w4.heap.size (fun _ => True)
      have HO := zG.mk hO
      have HB4 := zG.mk (Below.refl w4.heap.size w4)
      clear hO
      go_loopg [0, 8, 26] cs.length (fun kq v0 v8 v26 w' => ∃ (i : Nat) (A' : Option Addr) (c' : Nat) (l' : List Int) (acc : List Sm), v0 = .slice A' l'.length c' ∧ v26 = .int .i64 (i : Int) ∧ zG (i + kq = cs.length) ∧ zG (Kd.C (Kd.int .i64) w4 A' l'.length l') ∧ zG (l'.length ≤ c') ∧ zG (l'.length ≤ l.length) ∧ zG (Fits (cs.drop i) l'.length) ∧ zG (WFits k wf (cs.drop i) l') ∧ zG (acc ++ sumsOf wf (cs.drop i) l' = sumsOf wf cs l) ∧ zG (acc.length = i) ∧ zG (Kd.R kS 87 w' w4.heap.size (fun _ => True) v8 acc) ∧ zG (Below w4.heap.size w4 w'))
      case atStart => exact ⟨0, A, c, l, [], rfl, rfl, ⟨by omega⟩, HL, HCc, ⟨Nat.le_refl _⟩, HFt, HWt, ⟨rfl⟩, ⟨rfl⟩, HO, HB4⟩
      case round =>
        clear HO HB4 HL HFt HWt
        obtain ⟨i, A', c', l', acc, rfl, rfl, HK, HL, HLc, HLl, HFt, HWt, HAcc, HAl, HO, HB4⟩ := hrel
        by_cases hi : i < cs.length
        · have hq : decide ((i : Int) < (cs.length : Int)) = true := decide_eq_true (by omega)
          obtain ⟨ad, rfl, hcell⟩ := Kd.at_int (Kd.C_below HCR.out HB4.out) (i : Int) (by omega) (by omega)
          have hrd : rd cs (i : Int) = cs.getD i 0 := by unfold rd; simp
          rw [hrd] at hcell
          have hdr : cs.drop i = cs.getD i 0 :: cs.drop (i + 1) := by rw [List.drop_eq_getElem_cons hi, List.getD_eq_getElem?_getD, List.getElem?_eq_getElem hi]; rfl
          have hft := HFt.out
          have hacc := HAcc.out
          have hwt := HWt.out
          rw [hdr] at hft hacc hwt
          obtain ⟨n, hn⟩ : ∃ n, cs.getD i 0 = n := ⟨_, rfl⟩
          rw [hn] at hcell hft hacc hwt
          obtain ⟨hn0, hn1, hft⟩ := hft
          obtain ⟨hwt0, hwt1⟩ := hwt
          obtain ⟨m, rfl⟩ : ∃ m : Nat, n = (m : Int) := ⟨n.toNat, by omega⟩
          simp only [Int.toNat_natCast] at hft hcell hacc hwt0 hwt1
          have HWn0 := zG.mk hwt0
          have HWn1 := zG.mk hwt1
          clear hwt0 hwt1
          have HFn := zG.mk hft
          have HAn := zG.mk hacc
          have hmc : m ≤ c' := by have := HLc.out; omega
          have hml : m ≤ l'.length := by omega
          have hk1 : decide ((m : Int) ≤ (c' : Int)) = true := decide_eq_true (by omega)
          have hk2 : decide ((m : Int) ≤ (l'.length : Int)) = true := decide_eq_true (by omega)
          have hlc := HLc.out
          clear hft hacc hdr hrd HFt HAcc hn hn0 HWt
          go_upto_region 7 with (fail)
          have hlt : (l'.take m).length = m := by rw [List.length_take]; omega
          have hcall := parts_of.calls k A' c' (l'.take m) (wf (l'.take m)) wr (Kd.C_take (Kd.C_below HL.out HB4.out) hml) (by omega) HWn0.out
          rw [hlt] at hcall
          have HCALL := zG.mk hcall
          obtain ⟨s, hs⟩ : ∃ s, smOf wf (l'.take m) = s := ⟨_, rfl⟩
          have hsum : sumL (m : Int) (ysAt (l'.take m) 31) (wf (l'.take m)) = sumL s.n s.ys s.wd := by rw [← hs]; simp only [smOf, hlt]
          have HSUM := zG.mk hsum
          have H31 := zG.mk (show s.ys.length = 31 by rw [← hs]; exact ysAt_len _ _)
          have HS := zG.mk hs
          have HI := zG.mk hi
          have HHL := zG.mk hlt
          have hsz : (iA (sumL s.n s.ys s.wd)).size = 33 := by rw [iA_size]; simp [sumL, H31.out]
          clear hcall hs hsum hlt
          go_wp2_with (first
            | (go_at_call 56; (refine (HCALL.out).mono ?_); rintro e w5 ⟨rfl, hb5⟩; rw [HSUM.out]; have n_ := zG.mk (below_step HB4.out hb5); have m_ := zG.mk (Kd.R_below HO.out hb5); clear HB4 HO hb5; have HB4 := n_; have HO := m_; clear n_ m_)
            | ((with_reducible refine gate_builtin (b := .append) (xs := #[.tmp 30, .tmp 35]) rfl ?_); at_builtin; rw [fold_zip (iA (sumL s.n s.ys s.wd)) _ _ ?hz ?hn]; rotate_left; (case hz => rw [iA_size]; simp [sumL, H31.out]); (case hn => first | rfl | exact hsz.symm); refine Kd.R_append kS (w0 := w4) w4.heap.size rfl (.tmp 30) (.tmp 35) 77 87 (.agg (iA (sumL 0 zs31 0))) 264 rfl Try.underlying77 info55 rfl (by decide) (by omega) u8 acc s s.c (fun _ => True) (fun _ => False) rfl rfl ⟨rfl, H31.out⟩ (fun _ hk => hk.elim) (fun _ _ => trivial) HO.out HB4.out (below_size HB4.out) ?aL ?_; (case aL => (have := HI.out; have := HLN.out; have := HAl.out; omega)); intro v9 w9 ho hb hg hat; obtain ⟨A9, c9, rfl⟩ := Kd.R_slice ho; clear HB4 HO; have HB4 := zG.mk hb; have HO := zG.mk ho; clear hb ho hg hat; skip))
          all_goals
            go_roundg (cs.length - (i + 1))
            case measure => have := HK.out; omega
            case rel =>
              have hd := Kd.C_drop (c := c') HL.out hml hlc
              have ha : (acc ++ [s]) ++ sumsOf wf (cs.drop (i + 1)) (l'.drop m) = sumsOf wf cs l := by rw [← HAn.out, ← HS.out]; simp [sumsOf]
              have hlx := HLN.out
              have hO := HO.out
              rw [List.length_append, List.length_singleton] at hO
              first
                | (rw [if_pos h] at hd; refine ⟨i + 1, A', 0, l'.drop m, acc ++ [s], by rw [List.length_drop], by rw [wrapn (by omega)]; rfl, ⟨by omega⟩, ⟨hd⟩, ⟨by rw [List.length_drop]; omega⟩, ⟨by rw [List.length_drop]; have := HLl.out; omega⟩, ⟨by rw [List.length_drop]; exact HFn.out⟩, HWn1, ⟨ha⟩, ⟨by simp [HAl.out]⟩, ⟨hO⟩, HB4⟩)
                | (rw [if_neg h] at hd; refine ⟨i + 1, A'.map (·.add m), c' - m, l'.drop m, acc ++ [s], by rw [List.length_drop], by rw [wrapn (by omega)]; rfl, ⟨by omega⟩, ⟨by simpa [show (Kd.int IntKind.i64).sz = 1 from rfl] using hd⟩, ⟨by rw [List.length_drop]; omega⟩, ⟨by rw [List.length_drop]; have := HLl.out; omega⟩, ⟨by rw [List.length_drop]; exact HFn.out⟩, HWn1, ⟨ha⟩, ⟨by simp [HAl.out]⟩, ⟨hO⟩, HB4⟩)
        · have hq : decide ((i : Int) < (cs.length : Int)) = false := decide_eq_false (by omega)
          obtain rfl : i = cs.length := by have := HK.out; omega
          have ha : acc = sumsOf wf cs l := by have h_ := HAcc.out; rw [List.drop_length] at h_; simpa [sumsOf] using h_
          obtain ⟨Av, cv, rfl⟩ := Kd.R_slice HO.out
          go_wp2
          go_ret2
          rw [HCS0.out, ← ha]
          exact ⟨_, rfl, Kd.R_lower HO.out hs4, below_step HB.out HB4.out⟩
    · have hjo : o < j := by have := HK.out; omega
      have HCS := zG.mk (show parts_Cuts.f k (l.length : Int) order (j : Int) = some [] by rw [HCu.out j HJ.out, HMX.out j hjo HJ.out])
      have hq : decide ((([] : List Int).length : Int) = 0) = true := by decide
      have hm := HM.out
      have hj2 := HJ.out
      have hw1 : wrap64 ((j : Int) - 1) = ((j - 1 : Nat) : Int) := by unfold wrap64; omega
      go_wp2_with (go_at_call 28; (refine (parts_Cuts.calls k _ _ _ [] _ HCS.out).mono ?_); rintro e w9 ⟨v0_, rfl, hR, hb⟩; obtain ⟨A1, c1, rfl⟩ := Kd.R_slice hR; clear hR; have n_ := zG.mk (below_step HB.out hb); clear HB hb; have HB := n_; clear n_)
      go_roundg (j - 1 - o)
      case measure => have := HK.out; omega
      case rel => exact ⟨j - 1, by first | rfl | rw [hw1] | (congr 1; omega), ⟨by omega⟩, ⟨by omega⟩, HB⟩
set_option linter.unusedSimpArgs false
set_option linter.unusedVariables false
theorem wp_scope_ghost_k {P : Program} {Q : Exit → Act → World → Prop} {a : Act} {w : World} {c B : Code} (l : Nat) (hf : findLabel c l = some (Code.seq .skip B)) (I : Nat → Act → World → Prop)
    (round : ∀ n a w, I n a w → ∀ (J : Nat → Act → World → Prop) (K : Act → World → Prop), (∀ k a' w', I k a' w' → J k a' w') → (∀ a' w', Handed J n a' w' → K a' w') → B.wp P (Exit.jump l K Q) a w)
    (first : ∀ K : Act → World → Prop, (∀ n a w, I n a w → B.wp P (Exit.jump l K Q) a w) → c.wp P (Exit.jump l K Q) a w) : (Code.scope c).wp P Q a w := by
  have key : ∀ n a w, I n a w → B.wp P (Exit.jump l (fun a' w' => (∃ n, I n a' w') ∧ leastOf (fun n => I n a' w') < leastOf (fun n => I n a w)) Q) a w := by
    intro n a w hI
    refine wp_mono (round _ a w (leastOf_spec (p := fun n => I n a w) ⟨n, hI⟩).1 I (fun a' w' => Handed I (leastOf fun n => I n a w) a' w') (fun _ _ _ q => q) (fun _ _ q => q)) ?_
    intro e a' w' hq
    cases e with
    | goto l' =>
      obtain ⟨rfl, n', hlt, hI'⟩ := hq
      exact ⟨rfl, ⟨n', hI'⟩, Nat.lt_of_le_of_lt ((leastOf_spec (p := fun n => I n a' w') ⟨n', hI'⟩).2 n' hI') hlt⟩
    | normal => exact hq
    | exit id => exact hq
    | ret => exact hq
    | panic ch => exact hq
    | outgrown => exact hq
  refine wp_scope_jumps (rest := Code.seq .skip B) l (fun a w => ∃ n, I n a w) (fun a w => leastOf (fun n => I n a w)) hf ?_ ?_
  · refine first _ fun n a w hI => wp_mono (key n a w hI) ?_
    intro e a' w' hq
    cases e with
    | goto l' => exact ⟨hq.1, hq.2.1⟩
    | normal => exact hq
    | exit id => exact hq
    | ret => exact hq
    | panic ch => exact hq
    | outgrown => exact hq
  · rintro a w ⟨n, hI⟩
    exact wp_seq (wp_skip (key n a w hI))
/-- Two parts as one. -/
def withS (a b : Sm) : Sm := ⟨wrap64 (a.n + b.n), zAt a.ys b.ys 31, mx a.wd b.wd⟩
def pairUp : List Sm → List Sm
  | a :: b :: r => withS a b :: pairUp r
  | _ => []
/-- A plan so far: whether it is wide, its order, its parts, its bits. -/
structure Cur where
  f : Bool
  o : Int
  ps : List S50
  n : Int
def zCur : Cur := ⟨false, 0, [], 0⟩
def mkCur (w : Bool) (o : Int) (s : List Sm) : Cur := ⟨w, o, planParts s w, planBits s w⟩
def stepCur (first w : Bool) (c : Cur) (x : Nat × List Sm) : Cur := if first = true ∨ planBits x.2 w ≤ c.n then mkCur w (x.1 : Int) x.2 else c
def levels : Nat → List Sm → List (Nat × List Sm)
  | 0, s => [(0, s)]
  | o + 1, s => (o + 1, s) :: levels o (pairUp s)
def finCur (first w : Bool) (c : Cur) : List (Nat × List Sm) → Cur
  | [] => c
  | x :: xs => finCur false w (stepCur first w c x) xs
def bestCur (wide : Bool) (o : Nat) (s : List Sm) : Cur :=
  if wide = true ∧ (finCur true true zCur (levels o s)).n < (finCur true false zCur (levels o s)).n then finCur true true zCur (levels o s) else finCur true false zCur (levels o s)
def Evens : Nat → List Sm → Prop
  | 0, _ => True
  | o + 1, s => s.length % 2 = 0 ∧ Evens o (pairUp s)
theorem kS_reads {W : World} {b A n c} {s : List Sm} (h : Kd.R kS 87 W b (fun _ => True) (.slice A n c) s) : n = s.length ∧ n ≤ c ∧ Kd.C kS W A s.length s := Kd.R_reads' h
theorem R_put4 {W : World} {b : Nat} {α : Type} {d : Kd α} {e : TypeId} {v : Value} {xs : List α} {g13 g14 : Nat} {c13 c14 : Array Value} (h : Kd.R d e W b (fun _ => True) v xs)
    (h13 : W.heap[g13]? = some (.cells c13 80 (0, 0))) (h14 : W.heap[g14]? = some (.cells c14 81 (0, 0))) (hn : g14 ≠ g13) (hd1 : ∀ q, q ∈ e :: d.E → q ≠ 80) (hd2 : ∀ q, q ∈ e :: d.E → q ≠ 81) (i j k m : Nat) (u1 u2 u3 u4 : Value) :
    Kd.R d e ((((W.setCell ⟨g13, i, none⟩ u1).setCell ⟨g13, j, none⟩ u2).setCell ⟨g13, k, none⟩ u3).setCell ⟨g14, m, none⟩ u4) b (fun _ => True) v xs :=
  Kd.R_set (Kd.R_set (Kd.R_set (Kd.R_set h h13 hd1 i u1) (blk_set h13 i u1) hd1 j u2) (blk_set (blk_set h13 i u1) j u2) hd1 k u3) (zP (zP (zP h14 hn u1) hn u2) hn u3) hd2 m u4
theorem sumsOf_len (wf : List Int → Int) : ∀ (cs l : List Int), (sumsOf wf cs l).length = cs.length
  | [], _ => rfl
  | _ :: cs, l => by simp [sumsOf, sumsOf_len wf cs]
theorem pairUp_len : ∀ (n : Nat) (s : List Sm), s.length = 2 * n → (pairUp s).length = n
  | 0, [], _ => rfl
  | 0, _ :: _, h => by simp at h
  | n + 1, [], h => by simp at h
  | n + 1, [_], h => by simp at h; omega
  | n + 1, a :: b :: r, h => by simp [pairUp]; exact pairUp_len n r (by simp at h; omega)
theorem Evens_pow : ∀ (o : Nat) (s : List Sm), s.length = 2 ^ o → Evens o s
  | 0, _, _ => trivial
  | o + 1, s, h => ⟨by rw [h, Nat.pow_succ]; omega, Evens_pow o _ (pairUp_len (2 ^ o) s (by rw [h, Nat.pow_succ]; omega))⟩
theorem below_put4 {W w : World} {b g13 g14 : Nat} (h : Below b w W) (h13 : b ≤ g13) (h14 : b ≤ g14) (i j k m : Nat) (u1 u2 u3 u4 : Value) :
    Below b w ((((W.setCell ⟨g13, i, none⟩ u1).setCell ⟨g13, j, none⟩ u2).setCell ⟨g13, k, none⟩ u3).setCell ⟨g14, m, none⟩ u4) := by
  exact (((h.setCell h13 _).setCell h13 _).setCell h13 _).setCell h14 _
theorem pairUp_drop {s : List Sm} {j : Nat} (h : 2 * j + 1 < s.length) : pairUp (s.drop (2 * j)) = withS (s.getD (2 * j) zSm) (s.getD (2 * j + 1) zSm) :: pairUp (s.drop (2 * (j + 1))) := by
  have h1 : s.drop (2 * j) = s.getD (2 * j) zSm :: s.getD (2 * j + 1) zSm :: s.drop (2 * (j + 1)) := by
    rw [List.drop_eq_getElem_cons (by omega), List.drop_eq_getElem_cons h, List.getD_eq_getElem?_getD, List.getD_eq_getElem?_getD, List.getElem?_eq_getElem (by omega), List.getElem?_eq_getElem h]
    rfl
  rw [h1]
  rfl
theorem load_at_yields {P : Program} {op : Oper} {a : Act} {w : World} (ty : TypeId) (x : Operand) (N : Option Tmp) (ho : op.op = .load ty x) (ad : Addr) (hx : a.eval x = .pointer (some ad)) (cs : List Value) (C : Array Value) (hC : cs.toArray = C) (d : TypeDesc) (hc : ∀ j v, cs[j]? = some v → w.cell? (ad.add j) = some v)
    (hu : P.underlying ty = some d) (hd : d.isRow = true) (hi : (P.info? ty).map (·.size) = some cs.length) : (execOp a.eval op).run P w = .ok (.value (.agg C)) w := by
  subst hC
  have hl : (loadCells ad cs.length).run P w = .ok cs.toArray w := run_loadCells_list (P := P) w ad cs hc
  have hv : (loadVar ty ad).run P w = .ok (.agg cs.toArray) w := by
    cases hq : P.info? ty with
    | none => simp [hq] at hi
    | some i =>
      have hs : i.size = cs.length := by simpa [hq] using hi
      have hagg : (isAgg ty).run P w = .ok true w := by
        unfold isAgg
        rw [Sem.run_bind, run_underlying hu w]
        cases d <;> simp_all
      simp [loadVar, Sem.run_bind, hagg, sizeOf, typeInfo, hq, hs, hl]
  unfold execOp
  simp only [ho, hx, Instr.loadAt, Instr.sureAddr, Sem.run_bind, Sem.run_pure, Result.andThen_ok, hv]
set_option maxHeartbeats 8000000 in
set_option maxRecDepth 100000 in
theorem parts_Best.goes (k : Nat) (A : Option Addr) (c : Nat) (l : List Int) (order : Int) (most o : Nat) (wide : Bool) (cutsF : Nat → List Int) (wf : List Int → Int) (w : World)
    (hr : Kd.C (Kd.int .i64) w A l.length l) (hc : l.length ≤ c) (hW0 : cost_Width.f k l = some (wf l)) (hW : WFits k wf (cutsF o) l)
    (ho1 : 0 ≤ order) (ho2 : order ≤ 32) (hl0 : l.length ≠ 0) (hw0 : 0 ≤ wf l) (hm : most ≤ 8) (hC : ∀ j, j ≤ most → parts_Cuts.f k (l.length : Int) order (j : Int) = some (cutsF j)) (ho : o ≤ most) (hne : cutsF o ≠ []) (hmax : ∀ j, o < j → j ≤ most → cutsF j = []) (hfit : Fits (cutsF o) l.length) (hlen : (cutsF o).length = 2 ^ o) :
    Calls Try.prog 18 #[.slice A l.length c, .int .i64 order, .int .i64 (most : Int), .bool wide] w fun e w' => ∃ v : Value, e = .returned (.tuple #[.agg #[.bool (bestCur wide o (sumsOf wf (cutsF o) l)).f, .int .i64 (bestCur wide o (sumsOf wf (cutsF o) l)).o, v], .int .i64 (bestCur wide o (sumsOf wf (cutsF o) l)).n, .int .i64 0]) ∧ Kd.R k50 50 w' w.heap.size (fun _ => True) v (bestCur wide o (sumsOf wf (cutsF o) l)).ps ∧ Below w.heap.size w w' := by
  have hlen4 : (cutsF o).length < 400000 := by
    rw [hlen]
    have : 2 ^ o ≤ 2 ^ 8 := Nat.pow_le_pow_right (by decide) (by omega)
    have : (2 : Nat) ^ 8 = 256 := by decide
    omega
  have hEv := Evens_pow o (sumsOf wf (cutsF o) l) (by rw [sumsOf_len, hlen])
  have hsl : (sumsOf wf (cutsF o) l).length ≤ 400000 := by rw [sumsOf_len]; omega
  have d1 : decide (order < 0) = false := decide_eq_false (by omega)
  have d2 : decide ((32 : Int) < order) = false := decide_eq_false (by omega)
  have d3 : decide ((most : Int) < 0) = false := decide_eq_false (by omega)
  have d4 : decide ((8 : Int) < (most : Int)) = false := decide_eq_false (by omega)
  have d5 : ((l.length : Int) == 0) = false := beq_eq_false_iff_ne.2 (by omega)
  have d5' : decide ((l.length : Int) = 0) = false := decide_eq_false (by omega)
  have d6 : decide (wf l < 0) = false := decide_eq_false (by omega)
  obtain ⟨bc, hbc_⟩ : ∃ bc, bestCur wide o (sumsOf wf (cutsF o) l) = bc := ⟨_, rfl⟩
  rw [hbc_]
  have HBC := zG.mk hbc_
  clear hbc_
  have HR := zG.mk hr
  have HCc := zG.mk hc
  have HWf := zG.mk hW0
  have HFIN := zG.mk (fun (W : World) (hr' : Kd.C (Kd.int .i64) W A l.length l) => parts_finest.calls k A c l order most o cutsF wf W hr' hc hW (by omega) hC ho hne hmax hfit hlen4)
  have HEV := zG.mk hEv
  have HSL := zG.mk hsl
  have HO8 := zG.mk (show o ≤ 8 by omega)
  clear hr hc hW hW0 hm hC ho hne hmax hfit hlen hlen4 hEv hsl ho1 ho2 hl0 hw0
  go_enter Try.func18, Try.ntmps18
  go_wp2_with (first | ((with_reducible refine gate_dst (N := 8) rfl ?_); refine box_event ?hg (N := 8) ?hd (cs := #[.bool false, .int .i64 0, .slice none 0 0]) (t := 25) ?hr ?_; (case hd => rfl); (case hg => rfl); (case hr => go_loud (first | (go_simp; done) | (go_simp; rfl))); intro g8 hg8_ w8 hbox8 hb8; have G8 := zG.mk hg8_; clear hg8_; have X8 := zG.mk hbox8; have B8 := zG.mk hb8; clear hbox8 hb8))
  have L8 := zG.mk (show w.heap.size ≤ g8 from G8.out ▸ Nat.le_refl _)
  refine wp_scope_ghost_k 0 rfl (fun kq a_ w' => ∃ (g13 g14 : Nat) (v11 : Value) (fst_ : Bool) (u4 u5 u6 u7 u16 u17 u18 u19 u20 u21 u22 u23 u24 u25 u26 u27 u28 u29 u30 u31 u32 u33 u34 u35 u36 u37 u38 u39 u40 u41 u42 u43 u44 u45 u46 u47 u48 u49 u50 u51 u52 u53 u54 u55 u56 u57 u58 u59 u60 u61 u62 u63 u64 u65 u66 u67 u68 u69 u70 u71 u72 u73 u74 u75 u76 u77 u78 u79 u80 u81 u82 u83 u84 u85 u86 u87 u88 u89 u90 u91 u92 u93 u94 u95 u96 u97 u98 u99 u100 u101 u102 u103 u104 u105 u106 u107 u108 u109 u110 u111 u112 u113 u114 u115 u116 u117 u118 u119 u120 u121 u122 u123 : Value), (∃ s c0 c1 v0 v1, zG (finCur fst_ false c0 (levels kq s) = finCur true false zCur (levels o (sumsOf wf (cutsF o) l))) ∧ zG (finCur fst_ true c1 (levels kq s) = finCur true true zCur (levels o (sumsOf wf (cutsF o) l))) ∧ zG (Evens kq s) ∧ zG (s.length ≤ 400000) ∧ zG (kq ≤ 8) ∧ zG (Kd.R kS 87 w' w.heap.size (fun _ => True) v11 s)
      ∧ zG (w'.heap[g8]? = some (.cells #[.bool false, .int .i64 0, .slice none 0 0] 25 (0, 0))) ∧ zG (w'.heap[g13]? = some (.cells #[.bool c0.f, .int .i64 c0.o, v0, .bool c1.f, .int .i64 c1.o, v1] 80 (0, 0))) ∧ zG (w'.heap[g14]? = some (.cells #[.int .i64 c0.n, .int .i64 c1.n] 81 (0, 0)))
      ∧ zG (Kd.R k50 50 w' w.heap.size (fun _ => True) v0 c0.ps) ∧ zG (Kd.R k50 50 w' w.heap.size (fun _ => True) v1 c1.ps) ∧ zG (Below w.heap.size w w') ∧ zG (g13 ≠ g14) ∧ zG (g8 ≠ g13) ∧ zG (g8 ≠ g14) ∧ zG (w.heap.size ≤ g13) ∧ zG (w.heap.size ≤ g14)) ∧ a_ = { tmps := #[.slice A l.length c, .int .i64 order, .int .i64 (most : Int), .bool wide, u4, u5, u6, u7, .pointer (some ⟨g8, 0, none⟩), .int .i64 0, .int .i64 0, v11, .int .i64 (kq : Int), .pointer (some ⟨g13, 0, none⟩), .pointer (some ⟨g14, 0, none⟩), .bool fst_, u16, u17, u18, u19, u20, u21, u22, u23, u24, u25, u26, u27, u28, u29, u30, u31, u32, u33, u34, u35, u36, u37, u38, u39, u40, u41, u42, u43, u44, u45, u46, u47, u48, u49, u50, u51, u52, u53, u54, u55, u56, u57, u58, u59, u60, u61, u62, u63, u64, u65, u66, u67, u68, u69, u70, u71, u72, u73, u74, u75, u76, u77, u78, u79, u80, u81, u82, u83, u84, u85, u86, u87, u88, u89, u90, u91, u92, u93, u94, u95, u96, u97, u98, u99, u100, u101, u102, u103, u104, u105, u106, u107, u108, u109, u110, u111, u112, u113, u114, u115, u116, u117, u118, u119, u120, u121, u122, u123], defers := [] }) ?round ?first
  case first =>
    intro K_ hR_
    go_wp2_with (first
      | (go_at_call 36; (refine (cost_Width.calls k A c l (wf l) _ (Kd.C_below HR.out B8.out) HCc.out HWf.out).mono ?_); rintro e w5 ⟨rfl, ⟨nd, rfl⟩⟩)
      | (go_at_call 37; (refine (HFIN.out _ (Kd.C_below HR.out (zC B8.out nd))).mono ?_); rintro e w6 ⟨v17, rfl, hO17, hB17⟩; have O17 := zG.mk hO17; have B17 := zG.mk hB17; clear hO17 hB17)
      | ((with_reducible refine gate_dst (N := 13) rfl ?_); refine box_event ?hg (N := 13) ?hd (cs := #[.bool false, .int .i64 0, .slice none 0 0, .bool false, .int .i64 0, .slice none 0 0]) (t := 80) ?hr ?_; (case hd => rfl); (case hg => rfl); (case hr => go_loud (first | (go_simp; done) | (go_simp; rfl))); intro g13 hg13_ w13 hbox13 hb13; have G13 := zG.mk hg13_; clear hg13_; have X13 := zG.mk hbox13; have B13 := zG.mk hb13; clear hbox13 hb13)
      | ((with_reducible refine gate_dst (N := 14) rfl ?_); refine box_event ?hg (N := 14) ?hd (cs := #[.int .i64 0, .int .i64 0]) (t := 81) ?hr ?_; (case hd => rfl); (case hg => rfl); (case hr => go_loud (first | (go_simp; done) | (go_simp; rfl))); intro g14 hg14_ w14 hbox14 hb14; have G14 := zG.mk hg14_; clear hg14_; have X14 := zG.mk hbox14; have B14 := zG.mk hb14; clear hbox14 hb14))
    have hB6 : Below w.heap.size w w6 := below_step (zC B8.out nd) B17.out
    have hB13 : Below w.heap.size w w13 := below_step hB6 B13.out
    have hB14 : Below w.heap.size w w14 := below_step hB13 B14.out
    have hO14 := Kd.R_below (Kd.R_below O17.out B13.out) B14.out
    have hX8 := blk_below (blk_below (blk_below (zL X8.out nd) B17.out) B13.out) B14.out
    have hX13 := blk_below X13.out B14.out
    have z0 := (zC B8.out nd).size
    have z6 := hB6.size
    have z13 := hB13.size
    have e8 := blk_lt (blk_below (zL X8.out nd) B17.out)
    have g13e := G13.out
    have g14e := G14.out
    have z613 := B13.out.size
    have e13 := blk_lt X13.out
    have hO14 := Kd.R_lower hO14 z0
    go_step3
    go_step
    go_step
    refine hR_ o _ _ ?_
    refine ⟨g13, g14, v17, true, ?_⟩
    repeat apply Exists.intro
    refine ⟨?_, rfl⟩
    exact ⟨sumsOf wf (cutsF o) l, zCur, zCur, _, _, ⟨rfl⟩, ⟨rfl⟩, HEV, HSL, HO8, ⟨hO14⟩, ⟨hX8⟩, ⟨hX13⟩, X14, ⟨Kd.R_nil k50 50 w14 w.heap.size (fun _ => True)⟩, ⟨Kd.R_nil k50 50 w14 w.heap.size (fun _ => True)⟩, ⟨hB14⟩, ⟨by omega⟩, ⟨by omega⟩, ⟨by omega⟩, ⟨by omega⟩, ⟨by omega⟩⟩
  case round =>
    intro lv a_ wr h_ J_ K_ hJ_ hK_
    obtain ⟨g13, g14, v11, fst_, h_⟩ := h_
    iterate 112 (obtain ⟨_, h_⟩ := h_)
    obtain ⟨⟨s, c0, c1, v0, v1, HF0, HF1, HEVs, HSl, HLV, HS, HX8, HX13, HX14, HR0, HR1, HB, N1314, N813, N814, L13, L14⟩, ha_⟩ := h_
    subst ha_
    clear HFIN HEV HSL HO8 G8 X8 B8 HWf d1 d2 d3 d4 d5 d5' d6
    obtain ⟨A11, c11, rfl⟩ := Kd.R_slice HS.out
    have hSC := kS_reads HS.out
    have HSc := zG.mk hSC.2.1
    clear hSC
    go_wp2
    have hX8 := zK HX8.out (Obj.cells #[Value.bool false, Value.bool true] 4)
    have hX13 := zK HX13.out (Obj.cells #[Value.bool false, Value.bool true] 4)
    have hX14 := zK HX14.out (Obj.cells #[Value.bool false, Value.bool true] 4)
    have hXB := blk_new wr (Obj.cells #[Value.bool false, Value.bool true] 4)
    have hB1 := zF (Below.refl wr.heap.size wr) (Obj.cells #[Value.bool false, Value.bool true] 4)
    have hB := below_step HB.out hB1
    have hS := Kd.R_below HS.out hB1
    have hR0 := Kd.R_below HR0.out hB1
    have hR1 := Kd.R_below HR1.out hB1
    have hzB := HB.out.size
    have e8 := blk_lt HX8.out
    have e13 := blk_lt HX13.out
    have e14 := blk_lt HX14.out
    obtain ⟨W1, hW1⟩ : ∃ W1, wr.alloc (Obj.cells #[Value.bool false, Value.bool true] 4) = W1 := ⟨_, rfl⟩
    obtain ⟨gB, hgB⟩ : ∃ gB, wr.heap.size = gB := ⟨_, rfl⟩
    rw [hW1] at hX8 hX13 hX14 hXB hB hS hR0 hR1 ⊢
    rw [hgB] at hXB hzB e8 e13 e14 ⊢
    clear HX8 HX13 HX14 HB HS HR0 HR1 hB1 hW1 hgB
    have HX8 := zG.mk hX8
    have HX13 := zG.mk hX13
    have HX14 := zG.mk hX14
    have HXB := zG.mk hXB
    have HB := zG.mk hB
    have HS := zG.mk hS
    have HR0 := zG.mk hR0
    have HR1 := zG.mk hR1
    have NB8 := zG.mk (show gB ≠ g8 by omega)
    have NB13 := zG.mk (show gB ≠ g13 by omega)
    have NB14 := zG.mk (show gB ≠ g14 by omega)
    clear hX8 hX13 hX14 hXB hB hS hR0 hR1 hzB e8 e13 e14
    go_loopg [57] 2 (fun kq v57 w' => ∃ (i : Nat) (c0_ c1_ : Cur) (v0_ v1_ : Value), v57 = .int .i64 (i : Int) ∧ zG (i + kq = 2) ∧ zG (c0_ = if i = 0 then c0 else stepCur fst_ false c0 (lv, s)) ∧ zG (c1_ = if i ≤ 1 then c1 else stepCur fst_ true c1 (lv, s)) ∧ zG (w'.heap[g8]? = some (.cells #[.bool false, .int .i64 0, .slice none 0 0] 25 (0, 0))) ∧ zG (w'.heap[g13]? = some (.cells #[.bool c0_.f, .int .i64 c0_.o, v0_, .bool c1_.f, .int .i64 c1_.o, v1_] 80 (0, 0))) ∧ zG (w'.heap[g14]? = some (.cells #[.int .i64 c0_.n, .int .i64 c1_.n] 81 (0, 0))) ∧ zG (w'.heap[gB]? = some (.cells #[.bool false, .bool true] 4 (0, 0))) ∧ zG (Kd.R kS 87 w' w.heap.size (fun _ => True) (.slice A11 s.length c11) s) ∧ zG (Kd.R k50 50 w' w.heap.size (fun _ => True) v0_ c0_.ps) ∧ zG (Kd.R k50 50 w' w.heap.size (fun _ => True) v1_ c1_.ps) ∧ zG (Below w.heap.size w w'))
    case atStart => exact ⟨0, c0, c1, v0, v1, rfl, ⟨rfl⟩, ⟨rfl⟩, ⟨rfl⟩, HX8, HX13, HX14, HXB, HS, HR0, HR1, HB⟩
    case round =>
      clear HX8 HX13 HX14 HXB HB HS HR0 HR1
      obtain ⟨i, c0_, c1_, v0_, v1_, rfl, HK, HD0, HD1, HX8, HX13, HX14, HXB, HS, HR0, HR1, HB⟩ := hrel
      have hi : i = 0 ∨ i = 1 ∨ i = 2 := by have := HK.out; omega
      rcases hi with rfl | rfl | rfl
      case inl =>
        have hSR := kS_reads HS.out
        have hcB : wr.cell? ⟨gB, 0, none⟩ = some (.bool false) := (zN HXB.out 0).trans rfl
        have hcall := parts_plan.calls A11 c11 s (lv : Int) false wr hSR.2.2 hSR.2.1 (by have := HSl.out; omega)
        obtain ⟨nP, hnP⟩ : ∃ nP, planBits s false = nP := ⟨_, rfl⟩
        rw [hnP] at hcall
        have HCALL := zG.mk hcall
        have HNP := zG.mk hnP
        clear hcall hSR hnP
        go_upto_region 15 with (first | (go_at_call 38; (refine (HCALL.out).mono ?_); rintro e w2 ⟨vQ_, rfl, hP, hb2⟩; obtain ⟨Ap, cp, rfl⟩ := Kd.R_slice hP; have HP := zG.mk hP; have B2 := zG.mk hb2; clear hP hb2) | ((with_reducible refine gate_dst (N := 18) rfl ?_); refine box_event ?hg (N := 18) ?hd (cs := #[.bool false, .int .i64 0, .slice none 0 0]) (t := 25) ?hr ?_; (case hd => rfl); (case hg => rfl); (case hr => go_loud (first | (go_simp; done) | (go_simp; rfl))); intro g18 hg18_ w3 hbox18 hb3; have G18 := zG.mk hg18_; clear hg18_; have X18 := zG.mk hbox18; have B3 := zG.mk hb3; clear hbox18 hb3) | ((with_reducible refine gate_store (t := 25) (p := 18) rfl ?_); refine wpList_store_row rfl 25 _ _ rfl g18 #[.bool false, .int .i64 (lv : Int), (.slice Ap (planParts s false).length cp)] rfl rfl 25 _ X18.out sz26 rfl (by simp [Value.oneCell']) ?_))
        have hX18 := setRow_heap w3 g18 _ #[.bool false, .int .i64 (lv : Int), (.slice Ap (planParts s false).length cp)] _ _ X18.out
        have hg18 := G18.out
        have zb := HB.out.size
        have zb2 := B2.out.size
        have z8 := blk_lt HX8.out
        have z13 := blk_lt HX13.out
        have z14 := blk_lt HX14.out
        have zB := blk_lt HXB.out
        have l18 : w.heap.size ≤ g18 := by omega
        have hb4 := below_setRow (below_step B2.out B3.out) (by omega : wr.heap.size ≤ g18) #[.bool false, .int .i64 (lv : Int), (.slice Ap (planParts s false).length cp)]
        have hP := Kd.R_mono (Kd.R_step (Kd.R_types (Kd.R_below HP.out B3.out) X18.out (by decide)) (fun k hk _ => setRow_other w3 g18 k #[.bool false, .int .i64 (lv : Int), (.slice Ap (planParts s false).length cp)] hk.2)) (ok' := fun _ => True) (fun _ _ => trivial)
        have hP := Kd.R_lower hP zb
        have hX8 := blk_below HX8.out hb4
        have hX13 := blk_below HX13.out hb4
        have hX14 := blk_below HX14.out hb4
        have hXB := blk_below HXB.out hb4
        have hS := Kd.R_below HS.out hb4
        have hR0 := Kd.R_below HR0.out hb4
        have hR1 := Kd.R_below HR1.out hb4
        have hB := below_step HB.out hb4
        obtain ⟨W4, hW4⟩ : ∃ W4, w3.setRow g18 #[.bool false, .int .i64 (lv : Int), (.slice Ap (planParts s false).length cp)] = W4 := ⟨_, rfl⟩
        rw [hW4] at hX18 hP hX8 hX13 hX14 hXB hS hR0 hR1 hB ⊢
        have n1 := N1314.out
        have n2 := NB13.out
        have n3 := NB14.out
        have n4 := N813.out
        have n5 := N814.out
        have hc130 : W4.cell? ⟨g13, 0, none⟩ = some (.bool c0_.f) := (zN hX13 0).trans rfl
        have hf130 := zO hX13 0
        have hc131 : W4.cell? ⟨g13, 1, none⟩ = some (.int .i64 c0_.o) := (zN hX13 1).trans rfl
        have hf131 := zO hX13 1
        have hc132 : W4.cell? ⟨g13, 2, none⟩ = some (v0_) := (zN hX13 2).trans rfl
        have hf132 := zO hX13 2
        have hc14 : W4.cell? ⟨g14, 0, none⟩ = some (.int .i64 c0_.n) := (zN hX14 0).trans rfl
        have hf14 := zO hX14 0
        have hc180 : W4.cell? ⟨g18, 0, none⟩ = some (.bool false) := (zN hX18 0).trans rfl
        have hc181 : W4.cell? ⟨g18, 1, none⟩ = some (.int .i64 (lv : Int)) := (zN hX18 1).trans rfl
        have hc182 : W4.cell? ⟨g18, 2, none⟩ = some (.slice Ap (planParts s false).length cp) := (zN hX18 2).trans rfl
        clear X18 HP G18 HCALL B2 B3 HX8 HX13 HX14 HXB HS HR0 HR1 HB hW4 hb4 zb zb2 hg18 z8 z13 z14 zB l18
        have HX18 := zG.mk hX18
        have HP := zG.mk hP
        have HX8 := zG.mk hX8
        have HX13 := zG.mk hX13
        have HX14 := zG.mk hX14
        have HXB := zG.mk hXB
        have HS := zG.mk hS
        have HR0 := zG.mk hR0
        have HR1 := zG.mk hR1
        have HB := zG.mk hB
        clear hX18 hP hX8 hX13 hX14 hXB hS hR0 hR1 hB
        have hdec : (fst_ = true ∨ nP ≤ c0_.n) ∨ (fst_ = false ∧ ¬ nP ≤ c0_.n) := by
          cases fst_ with
          | true => exact Or.inl (Or.inl rfl)
          | false => by_cases hq : nP ≤ c0_.n; exact Or.inl (Or.inr hq); exact Or.inr ⟨rfl, hq⟩
        rcases hdec with hT | ⟨rfl, hT⟩
        · have HT_ := zG.mk hT
          have hTT : fst_ = true ∨ (fst_ = false ∧ nP ≤ c0_.n) := by
            cases fst_ with
            | true => exact Or.inl rfl
            | false => exact Or.inr ⟨rfl, hT.resolve_left (by decide)⟩
          clear hT
          rcases hTT with rfl | ⟨rfl, hle⟩
          · go_wp2
            go_roundg 1
            case measure => have := HK.out; omega
            case rel =>
              have hT := HT_.out
              clear hc180 hc181 hc182
              have tX8 := zP (zP (zP (zP HX8.out N813.out (p := ⟨g13, 0, none⟩) (.bool false)) N813.out (p := ⟨g13, 1, none⟩) (.int .i64 (lv : Int))) N813.out (p := ⟨g13, 2, none⟩) (.slice Ap (planParts s false).length cp)) N814.out (p := ⟨g14, 0, none⟩) (.int .i64 nP)
              have tXB := zP (zP (zP (zP HXB.out NB13.out (p := ⟨g13, 0, none⟩) (.bool false)) NB13.out (p := ⟨g13, 1, none⟩) (.int .i64 (lv : Int))) NB13.out (p := ⟨g13, 2, none⟩) (.slice Ap (planParts s false).length cp)) NB14.out (p := ⟨g14, 0, none⟩) (.int .i64 nP)
              have tX13 := zP (blk_set (blk_set (blk_set HX13.out 0 (.bool false)) 1 (.int .i64 (lv : Int))) 2 (.slice Ap (planParts s false).length cp)) N1314.out (p := ⟨g14, 0, none⟩) (.int .i64 nP)
              have tX14 := blk_set (zP (zP (zP HX14.out (Ne.symm N1314.out) (p := ⟨g13, 0, none⟩) (.bool false)) (Ne.symm N1314.out) (p := ⟨g13, 1, none⟩) (.int .i64 (lv : Int))) (Ne.symm N1314.out) (p := ⟨g13, 2, none⟩) (.slice Ap (planParts s false).length cp)) 0 (.int .i64 nP)
              have tS := R_put4 HS.out HX13.out HX14.out (Ne.symm N1314.out) (by decide) (by decide) 0 1 2 0 (.bool false) (.int .i64 (lv : Int)) (.slice Ap (planParts s false).length cp) (.int .i64 nP)
              have tP := R_put4 HP.out HX13.out HX14.out (Ne.symm N1314.out) (by decide) (by decide) 0 1 2 0 (.bool false) (.int .i64 (lv : Int)) (.slice Ap (planParts s false).length cp) (.int .i64 nP)
              have tR := R_put4 HR1.out HX13.out HX14.out (Ne.symm N1314.out) (by decide) (by decide) 0 1 2 0 (.bool false) (.int .i64 (lv : Int)) (.slice Ap (planParts s false).length cp) (.int .i64 nP)
              have tB := below_put4 HB.out L13.out L14.out 0 1 2 0 (.bool false) (.int .i64 (lv : Int)) (.slice Ap (planParts s false).length cp) (.int .i64 nP)
              have hst : stepCur true false c0 (lv, s) = ⟨false, (lv : Int), planParts s false, nP⟩ := by
                have hcc : c0_ = c0 := HD0.out
                rw [← hcc, stepCur, if_pos (by first | exact Or.inl rfl | (rw [← HNP.out] at hT; exact hT)), mkCur, HNP.out]
              exact ⟨1, ⟨false, (lv : Int), planParts s false, nP⟩, c1_, (.slice Ap (planParts s false).length cp), v1_, rfl, ⟨rfl⟩, ⟨hst.symm⟩, ⟨HD1.out⟩, ⟨tX8⟩, ⟨tX13⟩, ⟨tX14⟩, ⟨tXB⟩, ⟨tS⟩, ⟨tP⟩, ⟨tR⟩, ⟨tB⟩⟩
          · have hdd : decide (nP ≤ c0_.n) = true := decide_eq_true hle
            clear hle
            go_wp2
            go_roundg 1
            case measure => have := HK.out; omega
            case rel =>
              have hT := HT_.out
              clear hc180 hc181 hc182
              have tX8 := zP (zP (zP (zP HX8.out N813.out (p := ⟨g13, 0, none⟩) (.bool false)) N813.out (p := ⟨g13, 1, none⟩) (.int .i64 (lv : Int))) N813.out (p := ⟨g13, 2, none⟩) (.slice Ap (planParts s false).length cp)) N814.out (p := ⟨g14, 0, none⟩) (.int .i64 nP)
              have tXB := zP (zP (zP (zP HXB.out NB13.out (p := ⟨g13, 0, none⟩) (.bool false)) NB13.out (p := ⟨g13, 1, none⟩) (.int .i64 (lv : Int))) NB13.out (p := ⟨g13, 2, none⟩) (.slice Ap (planParts s false).length cp)) NB14.out (p := ⟨g14, 0, none⟩) (.int .i64 nP)
              have tX13 := zP (blk_set (blk_set (blk_set HX13.out 0 (.bool false)) 1 (.int .i64 (lv : Int))) 2 (.slice Ap (planParts s false).length cp)) N1314.out (p := ⟨g14, 0, none⟩) (.int .i64 nP)
              have tX14 := blk_set (zP (zP (zP HX14.out (Ne.symm N1314.out) (p := ⟨g13, 0, none⟩) (.bool false)) (Ne.symm N1314.out) (p := ⟨g13, 1, none⟩) (.int .i64 (lv : Int))) (Ne.symm N1314.out) (p := ⟨g13, 2, none⟩) (.slice Ap (planParts s false).length cp)) 0 (.int .i64 nP)
              have tS := R_put4 HS.out HX13.out HX14.out (Ne.symm N1314.out) (by decide) (by decide) 0 1 2 0 (.bool false) (.int .i64 (lv : Int)) (.slice Ap (planParts s false).length cp) (.int .i64 nP)
              have tP := R_put4 HP.out HX13.out HX14.out (Ne.symm N1314.out) (by decide) (by decide) 0 1 2 0 (.bool false) (.int .i64 (lv : Int)) (.slice Ap (planParts s false).length cp) (.int .i64 nP)
              have tR := R_put4 HR1.out HX13.out HX14.out (Ne.symm N1314.out) (by decide) (by decide) 0 1 2 0 (.bool false) (.int .i64 (lv : Int)) (.slice Ap (planParts s false).length cp) (.int .i64 nP)
              have tB := below_put4 HB.out L13.out L14.out 0 1 2 0 (.bool false) (.int .i64 (lv : Int)) (.slice Ap (planParts s false).length cp) (.int .i64 nP)
              have hst : stepCur false false c0 (lv, s) = ⟨false, (lv : Int), planParts s false, nP⟩ := by
                have hcc : c0_ = c0 := HD0.out
                rw [← hcc, stepCur, if_pos (by first | exact Or.inl rfl | (rw [← HNP.out] at hT; exact hT)), mkCur, HNP.out]
              exact ⟨1, ⟨false, (lv : Int), planParts s false, nP⟩, c1_, (.slice Ap (planParts s false).length cp), v1_, rfl, ⟨rfl⟩, ⟨hst.symm⟩, ⟨HD1.out⟩, ⟨tX8⟩, ⟨tX13⟩, ⟨tX14⟩, ⟨tXB⟩, ⟨tS⟩, ⟨tP⟩, ⟨tR⟩, ⟨tB⟩⟩
        · have hdd : decide (nP ≤ c0_.n) = false := decide_eq_false hT
          have HT_ := zG.mk hT
          clear hT
          go_wp2
          go_roundg 1
          case measure => have := HK.out; omega
          case rel =>
            have hT := HT_.out
            have hst : stepCur false false c0 (lv, s) = c0_ := by
              have hcc : c0_ = c0 := HD0.out
              rw [← hcc, stepCur, if_neg (by rw [HNP.out]; rintro (h_ | h_); exact absurd h_ (by decide); first | exact hT h_ | exact absurd h_ (Int.not_le.2 hT))]
            exact ⟨1, c0_, c1_, v0_, v1_, rfl, ⟨rfl⟩, ⟨hst.symm⟩, ⟨HD1.out⟩, HX8, HX13, HX14, HXB, HS, HR0, HR1, HB⟩
      case inr.inl =>
        have hSR := kS_reads HS.out
        have hcB : wr.cell? ⟨gB, 1, none⟩ = some (.bool true) := (zN HXB.out 1).trans rfl
        have hcall := parts_plan.calls A11 c11 s (lv : Int) true wr hSR.2.2 hSR.2.1 (by have := HSl.out; omega)
        obtain ⟨nP, hnP⟩ : ∃ nP, planBits s true = nP := ⟨_, rfl⟩
        rw [hnP] at hcall
        have HCALL := zG.mk hcall
        have HNP := zG.mk hnP
        clear hcall hSR hnP
        go_upto_region 15 with (first | (go_at_call 38; (refine (HCALL.out).mono ?_); rintro e w2 ⟨vQ_, rfl, hP, hb2⟩; obtain ⟨Ap, cp, rfl⟩ := Kd.R_slice hP; have HP := zG.mk hP; have B2 := zG.mk hb2; clear hP hb2) | ((with_reducible refine gate_dst (N := 18) rfl ?_); refine box_event ?hg (N := 18) ?hd (cs := #[.bool false, .int .i64 0, .slice none 0 0]) (t := 25) ?hr ?_; (case hd => rfl); (case hg => rfl); (case hr => go_loud (first | (go_simp; done) | (go_simp; rfl))); intro g18 hg18_ w3 hbox18 hb3; have G18 := zG.mk hg18_; clear hg18_; have X18 := zG.mk hbox18; have B3 := zG.mk hb3; clear hbox18 hb3) | ((with_reducible refine gate_store (t := 25) (p := 18) rfl ?_); refine wpList_store_row rfl 25 _ _ rfl g18 #[.bool true, .int .i64 (lv : Int), (.slice Ap (planParts s true).length cp)] rfl rfl 25 _ X18.out sz26 rfl (by simp [Value.oneCell']) ?_))
        have hX18 := setRow_heap w3 g18 _ #[.bool true, .int .i64 (lv : Int), (.slice Ap (planParts s true).length cp)] _ _ X18.out
        have hg18 := G18.out
        have zb := HB.out.size
        have zb2 := B2.out.size
        have z8 := blk_lt HX8.out
        have z13 := blk_lt HX13.out
        have z14 := blk_lt HX14.out
        have zB := blk_lt HXB.out
        have l18 : w.heap.size ≤ g18 := by omega
        have hb4 := below_setRow (below_step B2.out B3.out) (by omega : wr.heap.size ≤ g18) #[.bool true, .int .i64 (lv : Int), (.slice Ap (planParts s true).length cp)]
        have hP := Kd.R_mono (Kd.R_step (Kd.R_types (Kd.R_below HP.out B3.out) X18.out (by decide)) (fun k hk _ => setRow_other w3 g18 k #[.bool true, .int .i64 (lv : Int), (.slice Ap (planParts s true).length cp)] hk.2)) (ok' := fun _ => True) (fun _ _ => trivial)
        have hP := Kd.R_lower hP zb
        have hX8 := blk_below HX8.out hb4
        have hX13 := blk_below HX13.out hb4
        have hX14 := blk_below HX14.out hb4
        have hXB := blk_below HXB.out hb4
        have hS := Kd.R_below HS.out hb4
        have hR0 := Kd.R_below HR0.out hb4
        have hR1 := Kd.R_below HR1.out hb4
        have hB := below_step HB.out hb4
        obtain ⟨W4, hW4⟩ : ∃ W4, w3.setRow g18 #[.bool true, .int .i64 (lv : Int), (.slice Ap (planParts s true).length cp)] = W4 := ⟨_, rfl⟩
        rw [hW4] at hX18 hP hX8 hX13 hX14 hXB hS hR0 hR1 hB ⊢
        have n1 := N1314.out
        have n2 := NB13.out
        have n3 := NB14.out
        have n4 := N813.out
        have n5 := N814.out
        have hc133 : W4.cell? ⟨g13, 3, none⟩ = some (.bool c1_.f) := (zN hX13 3).trans rfl
        have hf133 := zO hX13 3
        have hc134 : W4.cell? ⟨g13, 4, none⟩ = some (.int .i64 c1_.o) := (zN hX13 4).trans rfl
        have hf134 := zO hX13 4
        have hc135 : W4.cell? ⟨g13, 5, none⟩ = some (v1_) := (zN hX13 5).trans rfl
        have hf135 := zO hX13 5
        have hc14 : W4.cell? ⟨g14, 1, none⟩ = some (.int .i64 c1_.n) := (zN hX14 1).trans rfl
        have hf14 := zO hX14 1
        have hc180 : W4.cell? ⟨g18, 0, none⟩ = some (.bool true) := (zN hX18 0).trans rfl
        have hc181 : W4.cell? ⟨g18, 1, none⟩ = some (.int .i64 (lv : Int)) := (zN hX18 1).trans rfl
        have hc182 : W4.cell? ⟨g18, 2, none⟩ = some (.slice Ap (planParts s true).length cp) := (zN hX18 2).trans rfl
        clear X18 HP G18 HCALL B2 B3 HX8 HX13 HX14 HXB HS HR0 HR1 HB hW4 hb4 zb zb2 hg18 z8 z13 z14 zB l18
        have HX18 := zG.mk hX18
        have HP := zG.mk hP
        have HX8 := zG.mk hX8
        have HX13 := zG.mk hX13
        have HX14 := zG.mk hX14
        have HXB := zG.mk hXB
        have HS := zG.mk hS
        have HR0 := zG.mk hR0
        have HR1 := zG.mk hR1
        have HB := zG.mk hB
        clear hX18 hP hX8 hX13 hX14 hXB hS hR0 hR1 hB
        have hdec : (fst_ = true ∨ nP ≤ c1_.n) ∨ (fst_ = false ∧ ¬ nP ≤ c1_.n) := by
          cases fst_ with
          | true => exact Or.inl (Or.inl rfl)
          | false => by_cases hq : nP ≤ c1_.n; exact Or.inl (Or.inr hq); exact Or.inr ⟨rfl, hq⟩
        rcases hdec with hT | ⟨rfl, hT⟩
        · have HT_ := zG.mk hT
          have hTT : fst_ = true ∨ (fst_ = false ∧ nP ≤ c1_.n) := by
            cases fst_ with
            | true => exact Or.inl rfl
            | false => exact Or.inr ⟨rfl, hT.resolve_left (by decide)⟩
          clear hT
          rcases hTT with rfl | ⟨rfl, hle⟩
          · go_wp2
            go_roundg 0
            case measure => have := HK.out; omega
            case rel =>
              have hT := HT_.out
              clear hc180 hc181 hc182
              have tX8 := zP (zP (zP (zP HX8.out N813.out (p := ⟨g13, 3, none⟩) (.bool true)) N813.out (p := ⟨g13, 4, none⟩) (.int .i64 (lv : Int))) N813.out (p := ⟨g13, 5, none⟩) (.slice Ap (planParts s true).length cp)) N814.out (p := ⟨g14, 1, none⟩) (.int .i64 nP)
              have tXB := zP (zP (zP (zP HXB.out NB13.out (p := ⟨g13, 3, none⟩) (.bool true)) NB13.out (p := ⟨g13, 4, none⟩) (.int .i64 (lv : Int))) NB13.out (p := ⟨g13, 5, none⟩) (.slice Ap (planParts s true).length cp)) NB14.out (p := ⟨g14, 1, none⟩) (.int .i64 nP)
              have tX13 := zP (blk_set (blk_set (blk_set HX13.out 3 (.bool true)) 4 (.int .i64 (lv : Int))) 5 (.slice Ap (planParts s true).length cp)) N1314.out (p := ⟨g14, 1, none⟩) (.int .i64 nP)
              have tX14 := blk_set (zP (zP (zP HX14.out (Ne.symm N1314.out) (p := ⟨g13, 3, none⟩) (.bool true)) (Ne.symm N1314.out) (p := ⟨g13, 4, none⟩) (.int .i64 (lv : Int))) (Ne.symm N1314.out) (p := ⟨g13, 5, none⟩) (.slice Ap (planParts s true).length cp)) 1 (.int .i64 nP)
              have tS := R_put4 HS.out HX13.out HX14.out (Ne.symm N1314.out) (by decide) (by decide) 3 4 5 1 (.bool true) (.int .i64 (lv : Int)) (.slice Ap (planParts s true).length cp) (.int .i64 nP)
              have tP := R_put4 HP.out HX13.out HX14.out (Ne.symm N1314.out) (by decide) (by decide) 3 4 5 1 (.bool true) (.int .i64 (lv : Int)) (.slice Ap (planParts s true).length cp) (.int .i64 nP)
              have tR := R_put4 HR0.out HX13.out HX14.out (Ne.symm N1314.out) (by decide) (by decide) 3 4 5 1 (.bool true) (.int .i64 (lv : Int)) (.slice Ap (planParts s true).length cp) (.int .i64 nP)
              have tB := below_put4 HB.out L13.out L14.out 3 4 5 1 (.bool true) (.int .i64 (lv : Int)) (.slice Ap (planParts s true).length cp) (.int .i64 nP)
              have hst : stepCur true true c1 (lv, s) = ⟨true, (lv : Int), planParts s true, nP⟩ := by
                have hcc : c1_ = c1 := HD1.out
                rw [← hcc, stepCur, if_pos (by first | exact Or.inl rfl | (rw [← HNP.out] at hT; exact hT)), mkCur, HNP.out]
              exact ⟨2, c0_, ⟨true, (lv : Int), planParts s true, nP⟩, v0_, (.slice Ap (planParts s true).length cp), rfl, ⟨rfl⟩, ⟨HD0.out⟩, ⟨hst.symm⟩, ⟨tX8⟩, ⟨tX13⟩, ⟨tX14⟩, ⟨tXB⟩, ⟨tS⟩, ⟨tR⟩, ⟨tP⟩, ⟨tB⟩⟩
          · have hdd : decide (nP ≤ c1_.n) = true := decide_eq_true hle
            clear hle
            go_wp2
            go_roundg 0
            case measure => have := HK.out; omega
            case rel =>
              have hT := HT_.out
              clear hc180 hc181 hc182
              have tX8 := zP (zP (zP (zP HX8.out N813.out (p := ⟨g13, 3, none⟩) (.bool true)) N813.out (p := ⟨g13, 4, none⟩) (.int .i64 (lv : Int))) N813.out (p := ⟨g13, 5, none⟩) (.slice Ap (planParts s true).length cp)) N814.out (p := ⟨g14, 1, none⟩) (.int .i64 nP)
              have tXB := zP (zP (zP (zP HXB.out NB13.out (p := ⟨g13, 3, none⟩) (.bool true)) NB13.out (p := ⟨g13, 4, none⟩) (.int .i64 (lv : Int))) NB13.out (p := ⟨g13, 5, none⟩) (.slice Ap (planParts s true).length cp)) NB14.out (p := ⟨g14, 1, none⟩) (.int .i64 nP)
              have tX13 := zP (blk_set (blk_set (blk_set HX13.out 3 (.bool true)) 4 (.int .i64 (lv : Int))) 5 (.slice Ap (planParts s true).length cp)) N1314.out (p := ⟨g14, 1, none⟩) (.int .i64 nP)
              have tX14 := blk_set (zP (zP (zP HX14.out (Ne.symm N1314.out) (p := ⟨g13, 3, none⟩) (.bool true)) (Ne.symm N1314.out) (p := ⟨g13, 4, none⟩) (.int .i64 (lv : Int))) (Ne.symm N1314.out) (p := ⟨g13, 5, none⟩) (.slice Ap (planParts s true).length cp)) 1 (.int .i64 nP)
              have tS := R_put4 HS.out HX13.out HX14.out (Ne.symm N1314.out) (by decide) (by decide) 3 4 5 1 (.bool true) (.int .i64 (lv : Int)) (.slice Ap (planParts s true).length cp) (.int .i64 nP)
              have tP := R_put4 HP.out HX13.out HX14.out (Ne.symm N1314.out) (by decide) (by decide) 3 4 5 1 (.bool true) (.int .i64 (lv : Int)) (.slice Ap (planParts s true).length cp) (.int .i64 nP)
              have tR := R_put4 HR0.out HX13.out HX14.out (Ne.symm N1314.out) (by decide) (by decide) 3 4 5 1 (.bool true) (.int .i64 (lv : Int)) (.slice Ap (planParts s true).length cp) (.int .i64 nP)
              have tB := below_put4 HB.out L13.out L14.out 3 4 5 1 (.bool true) (.int .i64 (lv : Int)) (.slice Ap (planParts s true).length cp) (.int .i64 nP)
              have hst : stepCur false true c1 (lv, s) = ⟨true, (lv : Int), planParts s true, nP⟩ := by
                have hcc : c1_ = c1 := HD1.out
                rw [← hcc, stepCur, if_pos (by first | exact Or.inl rfl | (rw [← HNP.out] at hT; exact hT)), mkCur, HNP.out]
              exact ⟨2, c0_, ⟨true, (lv : Int), planParts s true, nP⟩, v0_, (.slice Ap (planParts s true).length cp), rfl, ⟨rfl⟩, ⟨HD0.out⟩, ⟨hst.symm⟩, ⟨tX8⟩, ⟨tX13⟩, ⟨tX14⟩, ⟨tXB⟩, ⟨tS⟩, ⟨tR⟩, ⟨tP⟩, ⟨tB⟩⟩
        · have hdd : decide (nP ≤ c1_.n) = false := decide_eq_false hT
          have HT_ := zG.mk hT
          clear hT
          go_wp2
          go_roundg 0
          case measure => have := HK.out; omega
          case rel =>
            have hT := HT_.out
            have hst : stepCur false true c1 (lv, s) = c1_ := by
              have hcc : c1_ = c1 := HD1.out
              rw [← hcc, stepCur, if_neg (by rw [HNP.out]; rintro (h_ | h_); exact absurd h_ (by decide); first | exact hT h_ | exact absurd h_ (Int.not_le.2 hT))]
            exact ⟨2, c0_, c1_, v0_, v1_, rfl, ⟨rfl⟩, ⟨HD0.out⟩, ⟨hst.symm⟩, HX8, HX13, HX14, HXB, HS, HR0, HR1, HB⟩
      case inr.inr =>
        have hf0 : finCur fst_ false c0 (levels lv s) = finCur false false c0_ (levels lv s).tail := by
          rw [HD0.out]; cases lv <;> rfl
        have hf1 : finCur fst_ true c1 (levels lv s) = finCur false true c1_ (levels lv s).tail := by
          rw [HD1.out]; cases lv <;> rfl
        have HF0 := zG.mk (hf0.symm.trans HF0.out)
        have HF1 := zG.mk (hf1.symm.trans HF1.out)
        clear hf0 hf1 HD0 HD1
        have hc130 : wr.cell? ⟨g13, 0, none⟩ = some (.bool c0_.f) := (zN HX13.out 0).trans rfl
        have hc131 : wr.cell? ⟨g13, 1, none⟩ = some (.int .i64 c0_.o) := (zN HX13.out 1).trans rfl
        have hc132 : wr.cell? ⟨g13, 2, none⟩ = some v0_ := (zN HX13.out 2).trans rfl
        have hc133 : wr.cell? ⟨g13, 3, none⟩ = some (.bool c1_.f) := (zN HX13.out 3).trans rfl
        have hc134 : wr.cell? ⟨g13, 4, none⟩ = some (.int .i64 c1_.o) := (zN HX13.out 4).trans rfl
        have hc135 : wr.cell? ⟨g13, 5, none⟩ = some v1_ := (zN HX13.out 5).trans rfl
        have hc140 : wr.cell? ⟨g14, 0, none⟩ = some (.int .i64 c0_.n) := (zN HX14.out 0).trans rfl
        have hc141 : wr.cell? ⟨g14, 1, none⟩ = some (.int .i64 c1_.n) := (zN HX14.out 1).trans rfl
        obtain ⟨Aa, ca, rfl⟩ := Kd.R_slice HR0.out
        obtain ⟨Ab, cb, rfl⟩ := Kd.R_slice HR1.out
        clear HXB NB8 NB13 NB14
        cases lv with
        | zero =>
          have hz : decide ((0 : Int) < ((0 : Nat) : Int)) = false := by decide
          have hz2 : ((0 : Nat) : Int) = 0 := rfl
          have hE0 : c0_ = finCur true false zCur (levels o (sumsOf wf (cutsF o) l)) := HF0.out
          have hE1 : c1_ = finCur true true zCur (levels o (sumsOf wf (cutsF o) l)) := HF1.out
          have hbc : bestCur wide o (sumsOf wf (cutsF o) l) = if wide = true ∧ c1_.n < c0_.n then c1_ else c0_ := by rw [bestCur, ← hE0, ← hE1]
          rw [HBC.out] at hbc
          clear HBC
          have HBC := zG.mk hbc
          have hc80 : wr.cell? ⟨g8, 0, none⟩ = some (.bool false) := (zN HX8.out 0).trans rfl
          have hc81 : wr.cell? ⟨g8, 1, none⟩ = some (.int .i64 0) := (zN HX8.out 1).trans rfl
          have hc82 : wr.cell? ⟨g8, 2, none⟩ = some (.slice none 0 0) := (zN HX8.out 2).trans rfl
          have n4 := N813.out
          have n5 := N814.out
          have n4s := n4.symm
          have n5s := n5.symm
          have hf80 := zO HX8.out 0
          have hf81 := zO HX8.out 1
          have hf82 := zO HX8.out 2
          clear hE0 hE1 hbc HF0 HF1 HEVs HLV HSl HR HCc hJ_ hK_
          go_upto_region 27 with (fail)
          have hdec : (wide = true ∧ c1_.n < c0_.n) ∨ (wide = true ∧ ¬ c1_.n < c0_.n) ∨ wide = false := by
            cases wide with
            | false => exact Or.inr (Or.inr rfl)
            | true => by_cases hq : c1_.n < c0_.n; exact Or.inl ⟨rfl, hq⟩; exact Or.inr (Or.inl ⟨rfl, hq⟩)
          rcases hdec with ⟨rfl, hq⟩ | ⟨rfl, hq⟩ | rfl
          · have hdd : decide (c1_.n < c0_.n) = true := decide_eq_true hq
            have hE : bc = c1_ := by rw [HBC.out, if_pos ⟨rfl, hq⟩]
            subst hE
            clear hq HBC
            have hB9 : Below w.heap.size w ((((wr.setCell ⟨g8, 0, none⟩ (.bool bc.f)).setCell ⟨g8, 1, none⟩ (.int .i64 bc.o)).setCell ⟨g8, 2, none⟩ (.slice Ab bc.ps.length cb)).drew) := zD (((HB.out.setCell L8.out _).setCell L8.out _).setCell L8.out _)
            have hX9 : (((wr.setCell ⟨g8, 0, none⟩ (.bool bc.f)).setCell ⟨g8, 1, none⟩ (.int .i64 bc.o)).setCell ⟨g8, 2, none⟩ (.slice Ab bc.ps.length cb)).drew.heap[g8]? = some (.cells #[.bool bc.f, .int .i64 bc.o, .slice Ab bc.ps.length cb] 25 (0, 0)) := zM (blk_set (blk_set (blk_set HX8.out 0 (.bool bc.f)) 1 (.int .i64 bc.o)) 2 (.slice Ab bc.ps.length cb))
            have hR9 := Kd.R_set (Kd.R_set (Kd.R_set HR1.out HX8.out (by decide) 0 (.bool bc.f)) (blk_set HX8.out 0 (.bool bc.f)) (by decide) 1 (.int .i64 bc.o)) (blk_set (blk_set HX8.out 0 (.bool bc.f)) 1 (.int .i64 bc.o)) (by decide) 2 (.slice Ab bc.ps.length cb)
            have HB9 := zG.mk hB9
            have HX9 := zG.mk hX9
            have HR9 := zG.mk hR9
            clear hB9 hX9 hR9
            go_wp2
            go_region
            go_wp2
            (try simp only [Exit.jump])
            refine bodyPost_ret (results_cell_row_tmp2 rfl _ _ g8 25 _ _ _ rfl HX9.out Try.underlying25 rfl sz26) rfl ?_
            exact ⟨_, rfl, Kd.R_drew HR9.out, HB9.out⟩
          · have hdd : decide (c1_.n < c0_.n) = false := decide_eq_false hq
            have hE : bc = c0_ := by rw [HBC.out, if_neg (fun h_ => hq h_.2)]
            subst hE
            clear hq HBC
            have hB9 : Below w.heap.size w ((((wr.setCell ⟨g8, 0, none⟩ (.bool bc.f)).setCell ⟨g8, 1, none⟩ (.int .i64 bc.o)).setCell ⟨g8, 2, none⟩ (.slice Aa bc.ps.length ca)).drew) := zD (((HB.out.setCell L8.out _).setCell L8.out _).setCell L8.out _)
            have hX9 : (((wr.setCell ⟨g8, 0, none⟩ (.bool bc.f)).setCell ⟨g8, 1, none⟩ (.int .i64 bc.o)).setCell ⟨g8, 2, none⟩ (.slice Aa bc.ps.length ca)).drew.heap[g8]? = some (.cells #[.bool bc.f, .int .i64 bc.o, .slice Aa bc.ps.length ca] 25 (0, 0)) := zM (blk_set (blk_set (blk_set HX8.out 0 (.bool bc.f)) 1 (.int .i64 bc.o)) 2 (.slice Aa bc.ps.length ca))
            have hR9 := Kd.R_set (Kd.R_set (Kd.R_set HR0.out HX8.out (by decide) 0 (.bool bc.f)) (blk_set HX8.out 0 (.bool bc.f)) (by decide) 1 (.int .i64 bc.o)) (blk_set (blk_set HX8.out 0 (.bool bc.f)) 1 (.int .i64 bc.o)) (by decide) 2 (.slice Aa bc.ps.length ca)
            have HB9 := zG.mk hB9
            have HX9 := zG.mk hX9
            have HR9 := zG.mk hR9
            clear hB9 hX9 hR9
            go_wp2
            go_region
            go_wp2
            (try simp only [Exit.jump])
            refine bodyPost_ret (results_cell_row_tmp2 rfl _ _ g8 25 _ _ _ rfl HX9.out Try.underlying25 rfl sz26) rfl ?_
            exact ⟨_, rfl, Kd.R_drew HR9.out, HB9.out⟩
          · have hE : bc = c0_ := by rw [HBC.out, if_neg (fun h_ => absurd h_.1 (by decide))]
            subst hE
            clear HBC
            have hB9 : Below w.heap.size w ((((wr.setCell ⟨g8, 0, none⟩ (.bool bc.f)).setCell ⟨g8, 1, none⟩ (.int .i64 bc.o)).setCell ⟨g8, 2, none⟩ (.slice Aa bc.ps.length ca)).drew) := zD (((HB.out.setCell L8.out _).setCell L8.out _).setCell L8.out _)
            have hX9 : (((wr.setCell ⟨g8, 0, none⟩ (.bool bc.f)).setCell ⟨g8, 1, none⟩ (.int .i64 bc.o)).setCell ⟨g8, 2, none⟩ (.slice Aa bc.ps.length ca)).drew.heap[g8]? = some (.cells #[.bool bc.f, .int .i64 bc.o, .slice Aa bc.ps.length ca] 25 (0, 0)) := zM (blk_set (blk_set (blk_set HX8.out 0 (.bool bc.f)) 1 (.int .i64 bc.o)) 2 (.slice Aa bc.ps.length ca))
            have hR9 := Kd.R_set (Kd.R_set (Kd.R_set HR0.out HX8.out (by decide) 0 (.bool bc.f)) (blk_set HX8.out 0 (.bool bc.f)) (by decide) 1 (.int .i64 bc.o)) (blk_set (blk_set HX8.out 0 (.bool bc.f)) 1 (.int .i64 bc.o)) (by decide) 2 (.slice Aa bc.ps.length ca)
            have HB9 := zG.mk hB9
            have HX9 := zG.mk hX9
            have HR9 := zG.mk hR9
            clear hB9 hX9 hR9
            go_wp2
            go_region
            go_wp2
            (try simp only [Exit.jump])
            refine bodyPost_ret (results_cell_row_tmp2 rfl _ _ g8 25 _ _ _ rfl HX9.out Try.underlying25 rfl sz26) rfl ?_
            exact ⟨_, rfl, Kd.R_drew HR9.out, HB9.out⟩
        | succ lv =>
          have hz : decide ((0 : Int) < ((lv + 1 : Nat) : Int)) = true := decide_eq_true (by omega)
          have hev := HEVs.out
          obtain ⟨hev1, hev2⟩ := hev
          obtain ⟨n2, hn2⟩ : ∃ n2, s.length = 2 * n2 := ⟨s.length / 2, by omega⟩
          have HN2 := zG.mk hn2
          have HEV2 := zG.mk hev2
          have HSl2 := HSl.out
          obtain ⟨W2, hW2⟩ : ∃ W2, W2 = wr := ⟨wr, rfl⟩
          subst hW2
          have HO := zG.mk (Kd.R_nil kS 87 W2 W2.heap.size (fun _ => True))
          have HBW := zG.mk (Below.refl W2.heap.size W2)
          clear hev1 hev2 hn2 hc130 hc131 hc132 hc133 hc134 hc135 hc140 hc141 HBC HSl2
          go_upto_region 22 with (fail)
          go_loopg [20, 21] n2 (fun kq v20 v21 w' => ∃ (j : Nat) (acc : List Sm), v21 = .int .i64 (2 * (j : Int)) ∧ zG (j + kq = n2) ∧ zG (acc ++ pairUp (s.drop (2 * j)) = pairUp s) ∧ zG (acc.length = j) ∧ zG (Kd.R kS 87 w' W2.heap.size (fun _ => True) v20 acc) ∧ zG (Below W2.heap.size W2 w'))
          case atStart => exact ⟨0, [], rfl, ⟨by omega⟩, ⟨rfl⟩, ⟨rfl⟩, HO, HBW⟩
          case round =>
            clear HO HBW
            obtain ⟨j, acc, rfl, HK, HAcc, HAl, HO, HBW⟩ := hrel
            by_cases hj : j < n2
            · have hq : decide (2 * (j : Int) < (s.length : Int)) = true := decide_eq_true (by have := HN2.out; omega)
              have HJ := zG.mk hj
              clear hj
              have hn2_ := HN2.out
              have hj_ := HJ.out
              have hsl_ := HSl.out
              obtain ⟨ad, hA, h31a, hca⟩ := kS_at (Kd.C_below (kS_reads HS.out).2.2 HBW.out) (2 * j) (by omega)
              obtain ⟨ad2, hA2, h31b, hcb⟩ := kS_at (Kd.C_below (kS_reads HS.out).2.2 HBW.out) (2 * j + 1) (by omega)
              subst hA
              obtain rfl : ad = ad2 := Option.some.inj hA2
              clear hA2
              obtain ⟨sA, hsA⟩ : ∃ sA, s.getD (2 * j) zSm = sA := ⟨_, rfl⟩
              obtain ⟨sB, hsB⟩ : ∃ sB, s.getD (2 * j + 1) zSm = sB := ⟨_, rfl⟩
              rw [hsA] at h31a hca
              rw [hsB] at h31b hcb
              have HsA := zG.mk hsA
              have HsB := zG.mk hsB
              have H31a := zG.mk h31a
              have H31b := zG.mk h31b
              have HCa := zG.mk (show ∀ j_ u_, sA.c[j_]? = some u_ → wr.drew.cell? ((ad.add (2 * j * 33)).add j_) = some u_ from fun j_ u_ h_ => by rw [Addr.add_add]; exact hca j_ u_ h_)
              have HCb := zG.mk (show ∀ j_ u_, sB.c[j_]? = some u_ → wr.drew.cell? ((ad.add ((2 * j + 1) * 33)).add j_) = some u_ from fun j_ u_ h_ => by rw [Addr.add_add]; exact hcb j_ u_ h_)
              have hw1 : wrap64 (2 * (j : Int) + 1) = 2 * (j : Int) + 1 := by unfold wrap64; omega
              have hk0 : (2 * (j : Int) < (s.length : Int)) = True := eq_true (by omega)
              have hk1 : (0 ≤ 2 * (j : Int)) = True := eq_true (by omega)
              have hk2 : (0 ≤ 2 * (j : Int) + 1) = True := eq_true (by omega)
              have hk3 : (2 * (j : Int) + 1 < (s.length : Int)) = True := eq_true (by omega)
              have ht1 : (2 * (j : Int)).toNat = 2 * j := by omega
              have ht2 : (2 * (j : Int) + 1).toNat = 2 * j + 1 := by omega
              clear hsA hsB h31a h31b hca hcb hn2_ hj_ hsl_
              go_upto_region 24 with (fail)
              refine start_ (n := 14) (S := fun w' => (∀ j_ u_, sA.c[j_]? = some u_ → w'.cell? ((ad.add (2 * j * 33)).add j_) = some u_) ∧ (∀ j_ u_, sB.c[j_]? = some u_ → w'.cell? ((ad.add ((2 * j + 1) * 33)).add j_) = some u_)) (ds := [10, 11, 12]) #[false, false, false, false, false, false, false, false, false, false, false, false, false, false] (by kernel_rfl) rfl rfl ⟨HCa.out, HCb.out⟩ (fun hHeld => ?_)
              refine pure_ (i := 0) (N := some 92) (v := ?_) (a' := ?_) #[true, false, false, false, false, false, false, false, false, false, false, false, false, false] rfl rfl (by kernel_rfl) (fun _ _ _ h => h) (Or.inl ⟨by rfl, ?_⟩) ?_ ?_
              rotate_left
              · intro w'
                go_simp
                with_reducible rfl
              rotate_left
              · simp only [Act.put, List.setIfInBounds_toArray, List.set_cons_zero, List.set_cons_succ, i64_w, i32_w]
                rfl
              refine pure_ (i := 1) (N := some 93) (v := ?_) (a' := ?_) #[true, true, false, false, false, false, false, false, false, false, false, false, false, false] rfl rfl (by kernel_rfl) (fun _ _ _ h => h) (Or.inl ⟨by rfl, ?_⟩) ?_ ?_
              rotate_left
              · intro w'
                go_simp
                with_reducible rfl
              rotate_left
              · simp only [Act.put, List.setIfInBounds_toArray, List.set_cons_zero, List.set_cons_succ, i64_w, i32_w]
                rfl
              refine pure_ (i := 2) (N := some 94) (v := ?_) (a' := ?_) #[true, true, true, false, false, false, false, false, false, false, false, false, false, false] rfl rfl (by kernel_rfl) (fun _ _ _ h => h) (Or.inl ⟨by rfl, ?_⟩) ?_ ?_
              rotate_left
              · intro w'
                go_simp
                with_reducible rfl
              rotate_left
              · simp only [Act.put, List.setIfInBounds_toArray, List.set_cons_zero, List.set_cons_succ, i64_w, i32_w]
                rfl
              refine pure_ (i := 5) (N := some 97) (v := ?_) (a' := ?_) #[true, true, true, false, false, true, false, false, false, false, false, false, false, false] rfl rfl (by kernel_rfl) (fun _ _ _ h => h) (Or.inl ⟨by rfl, ?_⟩) ?_ ?_
              rotate_left
              · intro w'
                go_simp
                with_reducible rfl
              rotate_left
              · simp only [Act.put, List.setIfInBounds_toArray, List.set_cons_zero, List.set_cons_succ, i64_w, i32_w]
                rfl
              refine pure_ (i := 6) (N := some 98) (v := ?_) (a' := ?_) #[true, true, true, false, false, true, true, false, false, false, false, false, false, false] rfl rfl (by kernel_rfl) (fun _ _ _ h => h) (Or.inl ⟨by rfl, ?_⟩) ?_ ?_
              rotate_left
              · intro w'
                go_simp
                with_reducible rfl
              rotate_left
              · simp only [Act.put, List.setIfInBounds_toArray, List.set_cons_zero, List.set_cons_succ, i64_w, i32_w]
                rfl
              refine pure_ (i := 7) (N := some 99) (v := ?_) (a' := ?_) #[true, true, true, false, false, true, true, true, false, false, false, false, false, false] rfl rfl (by kernel_rfl) (fun _ _ _ h => h) (Or.inl ⟨by rfl, ?_⟩) ?_ ?_
              rotate_left
              · intro w'
                go_simp
                with_reducible rfl
              rotate_left
              · simp only [Act.put, List.setIfInBounds_toArray, List.set_cons_zero, List.set_cons_succ, i64_w, i32_w]
                rfl
              refine pure_ (i := 3) (N := some 95) (v := ?_) (a' := ?_) #[true, true, true, true, false, true, true, true, false, false, false, false, false, false] rfl rfl (by kernel_rfl) (fun _ _ _ h => h) (Or.inl ⟨by rfl, ?_⟩) ?_ ?_
              rotate_left
              · intro w'
                go_simp
                with_reducible rfl
              rotate_left
              · simp only [Act.put, List.setIfInBounds_toArray, List.set_cons_zero, List.set_cons_succ, i64_w, i32_w]
                rfl
              refine pure_ (i := 8) (N := some 100) (v := ?_) (a' := ?_) #[true, true, true, true, false, true, true, true, true, false, false, false, false, false] rfl rfl (by kernel_rfl) (fun _ _ _ h => h) (Or.inl ⟨by rfl, ?_⟩) ?_ ?_
              rotate_left
              · intro w'
                go_simp
                with_reducible rfl
              rotate_left
              · simp only [Act.put, List.setIfInBounds_toArray, List.set_cons_zero, List.set_cons_succ, i64_w, i32_w]
                rfl
              refine take_ (i := 4) (N := some 96) (v := .agg (iA (sumL sA.n sA.ys sA.wd))) (a' := ?aa4) #[true, true, true, true, true, true, true, true, true, false, false, false, false, false] rfl rfl (by kernel_rfl) (fun _ _ _ h => h) (Or.inl ⟨by rfl, ?yy4⟩) hHeld ?ha4 ?hh4
              case yy4 =>
                rintro w' ⟨s0, s1⟩
                apply load_at_yields (ty := 87) (N := none) (cs := sA.c) (C := iA (sumL sA.n sA.ys sA.wd)) (hC := rfl) (hc := s0) (hu := Try.underlying87)
                · rfl
                · rfl
                · rfl
                · rw [Sm.c_len H31a.out]; exact sz55
              case ha4 =>
                simp only [Act.put, List.setIfInBounds_toArray, List.set_cons_zero, List.set_cons_succ, i64_w, i32_w]
                rfl
              refine take_ (i := 9) (N := some 101) (v := .agg (iA (sumL sB.n sB.ys sB.wd))) (a' := ?aa9) #[true, true, true, true, true, true, true, true, true, true, false, false, false, false] rfl rfl (by kernel_rfl) (fun _ _ _ h => h) (Or.inl ⟨by rfl, ?yy9⟩) hHeld ?ha9 ?hh9
              case yy9 =>
                rintro w' ⟨s0, s1⟩
                apply load_at_yields (ty := 87) (N := none) (cs := sB.c) (C := iA (sumL sB.n sB.ys sB.wd)) (hC := rfl) (hc := s1) (hu := Try.underlying87)
                · rfl
                · rfl
                · rfl
                · rw [Sm.c_len H31b.out]; exact sz55
              case ha9 =>
                simp only [Act.put, List.setIfInBounds_toArray, List.set_cons_zero, List.set_cons_succ, i64_w, i32_w]
                rfl
              refine last_ (i := 10) (N := some 102) #[true, true, true, true, true, true, true, true, true, true, true, false, false, false] rfl rfl (by kernel_rfl) (by decide) (fun K hK => ?_)
              refine goes_ Try.func39 (by kernel_rfl) rfl #[.agg (iA (sumL sA.n sA.ys sA.wd)), .agg (iA (sumL sB.n sB.ys sB.wd))] (by rfl) rfl rfl (by first | rfl | ((try simp only [List.map_toArray, List.map_cons, List.map_nil]); rfl)) ?_
              refine (parts_with.calls sA.n sA.wd sB.n sB.wd sA.ys sB.ys H31a.out H31b.out _).mono ?_
              rintro e w5 ⟨rfl, hb5⟩
              refine ⟨_, rfl, ?_⟩
              have hBW5 := below_step (zD HBW.out) hb5
              have hO5 := Kd.R_below (Kd.R_drew HO.out) hb5
              have hsS : (.agg (iA (sumL (wrap64 (sA.n + sB.n)) (zAt sA.ys sB.ys 31) (mx sA.wd sB.wd))) : Value) = .agg (iA (sumL (withS sA sB).n (withS sA sB).ys (withS sA sB).wd)) := rfl
              rw [hsS]
              have hs31 : (withS sA sB).ys.length = 31 := zAt_len _ _ _
              obtain ⟨sC, hsC⟩ : ∃ sC, withS sA sB = sC := ⟨_, rfl⟩
              rw [hsC] at hs31 ⊢
              have H31c := zG.mk hs31
              have HSC := zG.mk hsC
              have HBW5 := zG.mk hBW5
              have HO5 := zG.mk hO5
              clear hBW5 hO5 hsS hs31 hsC hb5
              refine hK.out _ _ ?_
              clear hK K
              refine norm_ (a' := ?_) ?_ ?_
              rotate_left
              · show Act.put _ (some 102) _ = _
                simp only [Act.put, List.setIfInBounds_toArray, List.set_cons_zero, List.set_cons_succ, i64_w, i32_w]
                rfl
              refine last_ (i := 11) (N := some 103) #[true, true, true, true, true, true, true, true, true, true, true, true, false, false] rfl rfl (by kernel_rfl) (by decide) (fun K hK => ?_)
              refine event_step (v := .slice (some ⟨w5.heap.size, 0, none⟩) 1 1) (w1 := w5.alloc (.cells sC.c.toArray 87)) (by rfl) ?hrun ?_
              case hrun =>
                have hsz : (iA (sumL sC.n sC.ys sC.wd)).size = 33 := by rw [iA_size]; simp [sumL, H31c.out]
                go_simp
                rw [fold_zip (iA (sumL sC.n sC.ys sC.wd)) _ _ (by rw [hsz]; rfl) (by first | rfl | exact hsz.symm)]
                rfl
              refine hK.out _ _ ?_
              clear hK K
              refine norm_ (a' := ?_) ?_ ?_
              rotate_left
              · show Act.put _ (some 103) _ = _
                simp only [Act.put, List.setIfInBounds_toArray, List.set_cons_zero, List.set_cons_succ, i64_w, i32_w]
                rfl
              refine last_ (i := 12) (N := some 104) #[true, true, true, true, true, true, true, true, true, true, true, true, true, false] rfl rfl (by kernel_rfl) (by decide) (fun K hK => ?_)
              refine Kd.R_append_step kS (w0 := W2) W2.heap.size (by rfl) (.tmp 92) (.tmp 103) 77 87 (.agg (iA (sumL 0 zs31 0))) 264 rfl Try.underlying77 info55 rfl (by decide) (by omega) u20 acc sC sC.c (fun _ => True) (fun _ => False) rfl rfl ⟨rfl, H31c.out⟩ (fun _ hk => hk.elim) (fun _ _ => trivial) HO5.out HBW5.out (below_size HBW5.out) (by have := HJ.out; have := HAl.out; have := HN2.out; have := HSl.out; omega) ?_
              intro v9 w9 ho hb hg hat
              have HO9 := zG.mk ho
              have HB9 := zG.mk hb
              clear ho hb hg hat
              refine hK.out _ _ ?_
              clear hK K
              refine norm_ (a' := ?_) ?_ ?_
              rotate_left
              · show Act.put _ (some 104) _ = _
                simp only [Act.put, List.setIfInBounds_toArray, List.set_cons_zero, List.set_cons_succ, i64_w, i32_w]
                rfl
              refine pure_ (i := 13) (N := some 20) (v := ?_) (a' := ?_) #[true, true, true, true, true, true, true, true, true, true, true, true, true, true] rfl rfl (by kernel_rfl) (fun _ _ _ h => h) (Or.inl ⟨by rfl, ?_⟩) ?_ ?_
              rotate_left
              · intro w'
                go_simp
                with_reducible rfl
              rotate_left
              · simp only [Act.put, List.setIfInBounds_toArray, List.set_cons_zero, List.set_cons_succ, i64_w, i32_w]
                rfl
              refine done_ (by kernel_rfl) ?_
              have hj_ := HJ.out
              have hn_ := HN2.out
              have hs_ := HSl.out
              have hw2 : wrap64 (2 * (j : Int) + 2) = 2 * (j : Int) + 2 := by unfold wrap64; omega
              clear hj_ hn_ hs_
              go_wp2
              go_roundg (n2 - (j + 1))
              case measure => have := HK.out; have := HJ.out; omega
              case rel =>
                have hO := HO9.out
                have hd := pairUp_drop (s := s) (j := j) (by have := HJ.out; have := HN2.out; omega)
                rw [HsA.out, HsB.out, HSC.out] at hd
                have ha : (acc ++ [sC]) ++ pairUp (s.drop (2 * (j + 1))) = pairUp s := by rw [← HAcc.out, hd, List.append_assoc]; first | done | rfl
                exact ⟨j + 1, acc ++ [sC], by first | rfl | omega | (congr 1; try omega), ⟨by have := HK.out; have := HJ.out; omega⟩, ⟨ha⟩, ⟨by simp [HAl.out]⟩, ⟨hO⟩, HB9⟩
            · have hq : decide (2 * (j : Int) < (s.length : Int)) = false := decide_eq_false (by have := HN2.out; omega)
              have hwl : wrap64 (lv : Int) = (lv : Int) := by have := HLV.out; unfold wrap64; omega
              obtain rfl : j = n2 := by have := HK.out; omega
              have ha : acc = pairUp s := by have h_ := HAcc.out; rw [List.drop_of_length_le (by have := HN2.out; omega)] at h_; simpa [pairUp] using h_
              have hlen2 : (pairUp s).length = j := pairUp_len j s HN2.out
              have HA := zG.mk ha
              have HL2 := zG.mk hlen2
              clear ha hlen2
              go_wp2
              go_step3
              rw [hwl]
              refine ⟨rfl, hK_ _ _ ?_⟩
              go_roundg lv
              case measure => omega
              case rel =>
                have hO := HO.out
                rw [HA.out] at hO
                have hb := HBW.out
                have hlw := HB.out.size
                exact ⟨pairUp s, c0_, c1_, _, _, ⟨HF0.out⟩, ⟨HF1.out⟩, HEV2, ⟨by have := HL2.out; have := HN2.out; have := HSl.out; omega⟩, ⟨by have := HLV.out; omega⟩, ⟨Kd.R_lower hO hlw⟩, ⟨blk_below HX8.out hb⟩, ⟨blk_below HX13.out hb⟩, ⟨blk_below HX14.out hb⟩, ⟨Kd.R_below HR0.out hb⟩, ⟨Kd.R_below HR1.out hb⟩, ⟨below_step HB.out hb⟩, N1314, N813, N814, L13, L14⟩
set_option linter.unusedSimpArgs false
set_option linter.unusedVariables false
set_option maxHeartbeats 8000000 in
set_option maxRecDepth 100000 in
theorem parts_Best.arg (A : Option Addr) (c n : Nat) (order most : Int) (wide : Bool) (w : World) (h : order < 0 ∨ 32 < order ∨ most < 0 ∨ 8 < most) :
    Calls Try.prog 18 #[.slice A n c, .int .i64 order, .int .i64 most, .bool wide] w fun e w' => e = .returned (.tuple #[.agg #[.bool false, .int .i64 0, .slice none 0 0], .int .i64 0, .int .i64 1]) ∧ Below w.heap.size w w' := by
  go_enter Try.func18, Try.ntmps18
  by_cases h1 : order < 0
  · have d1 : decide (order < 0) = true := decide_eq_true h1
    clear h1 h
    go_wp2_with (first | ((with_reducible refine gate_dst (N := 8) rfl ?_); refine box_event ?hg (N := 8) ?hd (cs := #[.bool false, .int .i64 0, .slice none 0 0]) (t := 25) ?hr ?_; (case hd => rfl); (case hg => rfl); (case hr => go_loud (first | (go_simp; done) | (go_simp; rfl))); intro g8 hg8_ w8 hbox8 hb8; have L8 := zG.mk (show w.heap.size ≤ g8 from hg8_ ▸ Nat.le_refl _); clear hg8_; have X8 := zG.mk hbox8; have B8 := zG.mk hb8; clear hbox8 hb8))
    refine wp_scope_ghost_k 0 rfl (fun _ _ _ => False) (fun _ _ _ h_ => h_.elim) (fun K_ hR_ => ?_)
    clear hR_
    go_wp2_with (first | ((with_reducible refine gate_store (t := 25) (p := 8) rfl ?_); refine wpList_store_row rfl 25 _ _ rfl g8 #[.bool false, .int .i64 0, .slice none 0 0] rfl rfl 25 _ X8.out sz26 rfl (by simp [Value.oneCell']) ?_))
    (try simp only [Exit.jump])
    have hX := setRow_heap _ g8 _ #[.bool false, .int .i64 0, .slice none 0 0] _ _ (X8.out)
    refine bodyPost_ret (results_cell_row_tmp2 rfl _ _ g8 25 _ _ _ rfl hX Try.underlying25 rfl sz26) rfl ?_
    exact ⟨rfl, below_setRow (B8.out) L8.out _⟩
  · have d1 : decide (order < 0) = false := decide_eq_false h1
    by_cases h2 : 32 < order
    · have d2 : decide ((32 : Int) < order) = true := decide_eq_true h2
      clear h1 h2 h
      go_wp2_with (first | ((with_reducible refine gate_dst (N := 8) rfl ?_); refine box_event ?hg (N := 8) ?hd (cs := #[.bool false, .int .i64 0, .slice none 0 0]) (t := 25) ?hr ?_; (case hd => rfl); (case hg => rfl); (case hr => go_loud (first | (go_simp; done) | (go_simp; rfl))); intro g8 hg8_ w8 hbox8 hb8; have L8 := zG.mk (show w.heap.size ≤ g8 from hg8_ ▸ Nat.le_refl _); clear hg8_; have X8 := zG.mk hbox8; have B8 := zG.mk hb8; clear hbox8 hb8))
      refine wp_scope_ghost_k 0 rfl (fun _ _ _ => False) (fun _ _ _ h_ => h_.elim) (fun K_ hR_ => ?_)
      clear hR_
      go_wp2_with (first | ((with_reducible refine gate_store (t := 25) (p := 8) rfl ?_); refine wpList_store_row rfl 25 _ _ rfl g8 #[.bool false, .int .i64 0, .slice none 0 0] rfl rfl 25 _ X8.out sz26 rfl (by simp [Value.oneCell']) ?_))
      (try simp only [Exit.jump])
      have hX := setRow_heap _ g8 _ #[.bool false, .int .i64 0, .slice none 0 0] _ _ (X8.out)
      refine bodyPost_ret (results_cell_row_tmp2 rfl _ _ g8 25 _ _ _ rfl hX Try.underlying25 rfl sz26) rfl ?_
      exact ⟨rfl, below_setRow (B8.out) L8.out _⟩
    · have d2 : decide ((32 : Int) < order) = false := decide_eq_false h2
      by_cases h3 : most < 0
      · have d3 : decide (most < 0) = true := decide_eq_true h3
        clear h1 h2 h3 h
        go_wp2_with (first | ((with_reducible refine gate_dst (N := 8) rfl ?_); refine box_event ?hg (N := 8) ?hd (cs := #[.bool false, .int .i64 0, .slice none 0 0]) (t := 25) ?hr ?_; (case hd => rfl); (case hg => rfl); (case hr => go_loud (first | (go_simp; done) | (go_simp; rfl))); intro g8 hg8_ w8 hbox8 hb8; have L8 := zG.mk (show w.heap.size ≤ g8 from hg8_ ▸ Nat.le_refl _); clear hg8_; have X8 := zG.mk hbox8; have B8 := zG.mk hb8; clear hbox8 hb8))
        refine wp_scope_ghost_k 0 rfl (fun _ _ _ => False) (fun _ _ _ h_ => h_.elim) (fun K_ hR_ => ?_)
        clear hR_
        go_wp2_with (first | ((with_reducible refine gate_store (t := 25) (p := 8) rfl ?_); refine wpList_store_row rfl 25 _ _ rfl g8 #[.bool false, .int .i64 0, .slice none 0 0] rfl rfl 25 _ X8.out sz26 rfl (by simp [Value.oneCell']) ?_))
        (try simp only [Exit.jump])
        have hX := setRow_heap _ g8 _ #[.bool false, .int .i64 0, .slice none 0 0] _ _ (X8.out)
        refine bodyPost_ret (results_cell_row_tmp2 rfl _ _ g8 25 _ _ _ rfl hX Try.underlying25 rfl sz26) rfl ?_
        exact ⟨rfl, below_setRow (B8.out) L8.out _⟩
      · have d3 : decide (most < 0) = false := decide_eq_false h3
        have d4 : decide ((8 : Int) < most) = true := decide_eq_true (by omega)
        clear h1 h2 h3 h
        go_wp2_with (first | ((with_reducible refine gate_dst (N := 8) rfl ?_); refine box_event ?hg (N := 8) ?hd (cs := #[.bool false, .int .i64 0, .slice none 0 0]) (t := 25) ?hr ?_; (case hd => rfl); (case hg => rfl); (case hr => go_loud (first | (go_simp; done) | (go_simp; rfl))); intro g8 hg8_ w8 hbox8 hb8; have L8 := zG.mk (show w.heap.size ≤ g8 from hg8_ ▸ Nat.le_refl _); clear hg8_; have X8 := zG.mk hbox8; have B8 := zG.mk hb8; clear hbox8 hb8))
        refine wp_scope_ghost_k 0 rfl (fun _ _ _ => False) (fun _ _ _ h_ => h_.elim) (fun K_ hR_ => ?_)
        clear hR_
        go_wp2_with (first | ((with_reducible refine gate_store (t := 25) (p := 8) rfl ?_); refine wpList_store_row rfl 25 _ _ rfl g8 #[.bool false, .int .i64 0, .slice none 0 0] rfl rfl 25 _ X8.out sz26 rfl (by simp [Value.oneCell']) ?_))
        (try simp only [Exit.jump])
        have hX := setRow_heap _ g8 _ #[.bool false, .int .i64 0, .slice none 0 0] _ _ (X8.out)
        refine bodyPost_ret (results_cell_row_tmp2 rfl _ _ g8 25 _ _ _ rfl hX Try.underlying25 rfl sz26) rfl ?_
        exact ⟨rfl, below_setRow (B8.out) L8.out _⟩
set_option maxHeartbeats 8000000 in
set_option maxRecDepth 100000 in
theorem parts_Best.short (A : Option Addr) (c : Nat) (order most : Int) (wide : Bool) (w : World) (h1 : 0 ≤ order) (h2 : order ≤ 32) (h3 : 0 ≤ most) (h4 : most ≤ 8) :
    Calls Try.prog 18 #[.slice A 0 c, .int .i64 order, .int .i64 most, .bool wide] w fun e w' => e = .returned (.tuple #[.agg #[.bool false, .int .i64 0, .slice none 0 0], .int .i64 0, .int .i64 2]) ∧ Below w.heap.size w w' := by
  have d1 : decide (order < 0) = false := decide_eq_false (by omega)
  have d2 : decide ((32 : Int) < order) = false := decide_eq_false (by omega)
  have d3 : decide (most < 0) = false := decide_eq_false (by omega)
  have d4 : decide ((8 : Int) < most) = false := decide_eq_false (by omega)
  clear h1 h2 h3 h4
  go_enter Try.func18, Try.ntmps18
  go_wp2_with (first | ((with_reducible refine gate_dst (N := 8) rfl ?_); refine box_event ?hg (N := 8) ?hd (cs := #[.bool false, .int .i64 0, .slice none 0 0]) (t := 25) ?hr ?_; (case hd => rfl); (case hg => rfl); (case hr => go_loud (first | (go_simp; done) | (go_simp; rfl))); intro g8 hg8_ w8 hbox8 hb8; have L8 := zG.mk (show w.heap.size ≤ g8 from hg8_ ▸ Nat.le_refl _); clear hg8_; have X8 := zG.mk hbox8; have B8 := zG.mk hb8; clear hbox8 hb8))
  refine wp_scope_ghost_k 0 rfl (fun _ _ _ => False) (fun _ _ _ h_ => h_.elim) (fun K_ hR_ => ?_)
  clear hR_
  go_wp2_with (first | ((with_reducible refine gate_store (t := 25) (p := 8) rfl ?_); refine wpList_store_row rfl 25 _ _ rfl g8 #[.bool false, .int .i64 0, .slice none 0 0] rfl rfl 25 _ X8.out sz26 rfl (by simp [Value.oneCell']) ?_))
  (try simp only [Exit.jump])
  have hX := setRow_heap _ g8 _ #[.bool false, .int .i64 0, .slice none 0 0] _ _ (X8.out)
  refine bodyPost_ret (results_cell_row_tmp2 rfl _ _ g8 25 _ _ _ rfl hX Try.underlying25 rfl sz26) rfl ?_
  exact ⟨rfl, below_setRow (B8.out) L8.out _⟩
set_option maxHeartbeats 8000000 in
set_option maxRecDepth 100000 in
theorem parts_Best.range (k : Nat) (A : Option Addr) (c : Nat) (l : List Int) (order most : Int) (wide : Bool) (w : World) (hr : Kd.C (Kd.int .i64) w A l.length l) (hc : l.length ≤ c) (h1 : 0 ≤ order) (h2 : order ≤ 32) (h3 : 0 ≤ most) (h4 : most ≤ 8) (h5 : l.length ≠ 0) (wd : Int) (hW : cost_Width.f k l = some wd) (hw : wd < 0) :
    Calls Try.prog 18 #[.slice A l.length c, .int .i64 order, .int .i64 most, .bool wide] w fun e w' => e = .returned (.tuple #[.agg #[.bool false, .int .i64 0, .slice none 0 0], .int .i64 0, .int .i64 6]) ∧ Below w.heap.size w w' := by
  have d1 : decide (order < 0) = false := decide_eq_false (by omega)
  have d2 : decide ((32 : Int) < order) = false := decide_eq_false (by omega)
  have d3 : decide (most < 0) = false := decide_eq_false (by omega)
  have d4 : decide ((8 : Int) < most) = false := decide_eq_false (by omega)
  have d5 : ((l.length : Int) == 0) = false := beq_eq_false_iff_ne.2 (by omega)
  have d5' : decide ((l.length : Int) = 0) = false := decide_eq_false (by omega)
  have d6 : decide (wd < 0) = true := decide_eq_true hw
  have HR := zG.mk hr
  have HCc := zG.mk hc
  have HWf := zG.mk hW
  clear h1 h2 h3 h4 h5 hr hc hW hw
  go_enter Try.func18, Try.ntmps18
  go_wp2_with (first | ((with_reducible refine gate_dst (N := 8) rfl ?_); refine box_event ?hg (N := 8) ?hd (cs := #[.bool false, .int .i64 0, .slice none 0 0]) (t := 25) ?hr ?_; (case hd => rfl); (case hg => rfl); (case hr => go_loud (first | (go_simp; done) | (go_simp; rfl))); intro g8 hg8_ w8 hbox8 hb8; have L8 := zG.mk (show w.heap.size ≤ g8 from hg8_ ▸ Nat.le_refl _); clear hg8_; have X8 := zG.mk hbox8; have B8 := zG.mk hb8; clear hbox8 hb8))
  refine wp_scope_ghost_k 0 rfl (fun _ _ _ => False) (fun _ _ _ h_ => h_.elim) (fun K_ hR_ => ?_)
  clear hR_
  go_wp2_with (first | (go_at_call 36; (refine (cost_Width.calls k A c l wd _ (Kd.C_below HR.out B8.out) HCc.out HWf.out).mono ?_); rintro e w5 ⟨rfl, ⟨nd, rfl⟩⟩; have n_ := zG.mk (zL X8.out nd); have m_ := zG.mk (zC B8.out nd); clear X8 B8; have X8 := n_; have B8 := m_; clear n_ m_) | ((with_reducible refine gate_store (t := 25) (p := 8) rfl ?_); refine wpList_store_row rfl 25 _ _ rfl g8 #[.bool false, .int .i64 0, .slice none 0 0] rfl rfl 25 _ X8.out sz26 rfl (by simp [Value.oneCell']) ?_))
  (try simp only [Exit.jump])
  have hX := setRow_heap _ g8 _ #[.bool false, .int .i64 0, .slice none 0 0] _ _ (X8.out)
  refine bodyPost_ret (results_cell_row_tmp2 rfl _ _ g8 25 _ _ _ rfl hX Try.underlying25 rfl sz26) rfl ?_
  exact ⟨rfl, below_setRow (B8.out) L8.out _⟩
set_option linter.unusedSimpArgs false
set_option linter.unusedVariables false
/-- The greatest number of cuts that can be, up to m. -/
def topO (n order : Int) : Nat → Nat
  | 0 => 0
  | m + 1 => if PL.cutsP n order (m + 1) ≠ [] then m + 1 else topO n order m
theorem topO_le (n order : Int) : ∀ m, topO n order m ≤ m
  | 0 => Nat.le_refl _
  | m + 1 => by have := topO_le n order m; simp only [topO]; split <;> omega
theorem topO_ne {n order : Int} (h : 0 < n) : ∀ m, PL.cutsP n order (topO n order m) ≠ []
  | 0 => by rw [topO, PL.cutsP_0 h]; simp
  | m + 1 => by
    simp only [topO]
    split
    · assumption
    · exact topO_ne h m
theorem topO_max (n order : Int) : ∀ m j, topO n order m < j → j ≤ m → PL.cutsP n order j = []
  | 0, j, h1, h2 => by simp only [topO] at h1; omega
  | m + 1, j, h1, h2 => by
    simp only [topO] at h1
    split at h1
    · omega
    · rename_i hc
      rcases Nat.lt_or_ge m j with h3 | h3
      · obtain rfl : j = m + 1 := by omega
        exact Classical.byContradiction hc
      · exact topO_max n order m j h1 h3
def widF (l : List Int) : Int := (PL.wid l : Int)
def bestOf (l : List Int) (order : Int) (most : Nat) (wide : Bool) : Cur :=
  bestCur wide (topO (l.length : Int) order most) (sumsOf widF (PL.cutsP (l.length : Int) order (topO (l.length : Int) order most)) l)
def partsBest.f (l0 : List Int) (a1 a2 : Int) (a3 : Bool) : Option (Bool × Int × List S50 × Int × Int) :=
  if a1 < 0 ∨ 32 < a1 ∨ a2 < 0 ∨ 8 < a2 then some (false, 0, [], 0, 1)
  else if l0.length = 0 then some (false, 0, [], 0, 2)
  else if 1000 < l0.length then none
  else if PL.NearAll l0 then some ((bestOf l0 a1 a2.toNat a3).f, (bestOf l0 a1 a2.toNat a3).o, (bestOf l0 a1 a2.toNat a3).ps, (bestOf l0 a1 a2.toNat a3).n, 0)
  else some (false, 0, [], 0, 6)
theorem fits_rep (s : Int) (h : 0 ≤ s) : ∀ (m r : Nat), s * m ≤ (r : Int) → Fits (List.replicate m s) r
  | 0, r, _ => trivial
  | m + 1, r, hr => by
    have e : s * ((m + 1 : Nat) : Int) = s * m + s := by rw [Int.natCast_succ, Int.mul_add, Int.mul_one]
    have h0 : 0 ≤ s * (m : Int) := Int.mul_nonneg h (by omega)
    refine ⟨h, by omega, fits_rep s h m _ ?_⟩
    omega
theorem fits_cuts (n : Nat) (order : Int) (ho : 0 ≤ order) (o : Nat) : Fits (PL.cutsP (n : Int) order o) n := by
  unfold PL.cutsP
  split
  · rename_i h
    have hp : (0 : Int) < 2 ^ o := Int.pow_pos (by decide)
    have h3 : ((2 ^ o : Nat) : Int) = (2 : Int) ^ o := by simp
    have hme := Int.mul_ediv_add_emod ((n : Int) + order) (2 ^ o)
    have hp2 : 0 < 2 ^ o := Nat.pow_pos (by decide)
    have e : ((n : Int) + order) / 2 ^ o * ((2 ^ o - 1 : Nat) : Int) = 2 ^ o * (((n : Int) + order) / 2 ^ o) - ((n : Int) + order) / 2 ^ o := by
      rw [show ((2 ^ o - 1 : Nat) : Int) = 2 ^ o - 1 by omega, Int.mul_sub, Int.mul_one, Int.mul_comm]
    have h0 : 0 ≤ ((n : Int) + order) / 2 ^ o * ((2 ^ o - 1 : Nat) : Int) := Int.mul_nonneg (by omega) (by omega)
    exact ⟨by omega, by omega, fits_rep _ (by omega) _ _ (by omega)⟩
  · trivial
theorem ev_upto {α : Type} (g : Nat → Nat → Option α) (r : Nat → α) : ∀ m, (∀ j, j ≤ m → Ev (fun k => g k j) (r j)) → ∃ K, ∀ k, K ≤ k → ∀ j, j ≤ m → g k j = some (r j)
  | 0, h => by
    obtain ⟨K, hK⟩ := h 0 (Nat.le_refl _)
    exact ⟨K, fun k hk j hj => by obtain rfl : j = 0 := by omega
                                  exact hK k hk⟩
  | m + 1, h => by
    obtain ⟨K1, h1⟩ := ev_upto g r m (fun j hj => h j (by omega))
    obtain ⟨K2, h2⟩ := h (m + 1) (Nat.le_refl _)
    refine ⟨max K1 K2, fun k hk j hj => ?_⟩
    rcases Nat.lt_or_ge m j with h3 | h3
    · obtain rfl : j = m + 1 := by omega
      exact h2 k (by omega)
    · exact h1 k (by omega) j h3
theorem wfits_ev : ∀ (cs l : List Int), PL.NearAll l → l.length ≤ 1000 → ∃ K, ∀ k, K ≤ k → WFits k widF cs l
  | [], _, _, _ => ⟨0, fun _ _ => trivial⟩
  | n :: cs, l, hn, hl => by
    have hnt : PL.NearAll (l.take n.toNat) := fun x hx => hn x (List.mem_of_mem_take hx)
    have hnd : PL.NearAll (l.drop n.toNat) := fun x hx => hn x (List.mem_of_mem_drop hx)
    obtain ⟨K1, h1⟩ := PL.width_ev (l.take n.toNat) (by rw [List.length_take]; omega)
    rw [if_pos hnt] at h1
    obtain ⟨K2, h2⟩ := wfits_ev cs (l.drop n.toNat) hnd (by rw [List.length_drop]; omega)
    exact ⟨max K1 K2, fun k hk => ⟨h1 k (by omega), h2 k (by omega)⟩⟩
theorem partsBest.calls (A0 : Option Addr) (c0 : Nat) (l0 : List Int) (a1 : Int) (a2 : Int) (a3 : Bool) (r1 : Bool) (r2 : Int) (r3 : List (S50)) (r4 : Int) (r5 : Int) (w : World) (hr0 : Kd.C (Kd.int .i64) w A0 l0.length l0) (hc0 : l0.length ≤ c0) (h : partsBest.f l0 a1 a2 a3 = some (r1, r2, r3, r4, r5)) :
    Calls Try.prog 18 #[.slice A0 l0.length c0, .int .i64 a1, .int .i64 a2, .bool a3] w fun e w' => ∃ v2_ : Value, e = .returned (.tuple #[.agg #[.bool r1, .int .i64 r2, v2_], .int .i64 r4, .int .i64 r5]) ∧ Kd.R k50 50 w' w.heap.size (fun _ => True) v2_ r3 ∧ Below w.heap.size w w' := by
  unfold partsBest.f at h
  split at h
  · rename_i h1
    simp only [Option.some.injEq, Prod.mk.injEq] at h
    obtain ⟨rfl, rfl, rfl, rfl, rfl⟩ := h
    refine (parts_Best.arg A0 c0 l0.length a1 a2 a3 w h1).mono ?_
    rintro e w' ⟨rfl, hb⟩
    exact ⟨_, rfl, Kd.R_nil k50 50 w' w.heap.size (fun _ => True), hb⟩
  rename_i h1
  obtain ⟨m, rfl⟩ : ∃ m : Nat, a2 = (m : Int) := ⟨a2.toNat, by omega⟩
  split at h
  · rename_i h2
    simp only [Option.some.injEq, Prod.mk.injEq] at h
    obtain ⟨rfl, rfl, rfl, rfl, rfl⟩ := h
    rw [h2]
    refine (parts_Best.short A0 c0 a1 (m : Int) a3 w (by omega) (by omega) (by omega) (by omega)).mono ?_
    rintro e w' ⟨rfl, hb⟩
    exact ⟨_, rfl, Kd.R_nil k50 50 w' w.heap.size (fun _ => True), hb⟩
  rename_i h2
  split at h
  · cases h
  rename_i h3
  obtain ⟨K1, hK1⟩ := PL.width_ev l0 (by omega)
  split at h
  · rename_i hn
    rw [if_pos hn] at hK1
    rw [Int.toNat_natCast] at h
    simp only [Option.some.injEq, Prod.mk.injEq] at h
    obtain ⟨rfl, rfl, rfl, rfl, rfl⟩ := h
    have hlp : (0 : Int) < (l0.length : Int) := by omega
    obtain ⟨K2, hK2⟩ := ev_upto (fun k j => parts_Cuts.f k (l0.length : Int) a1 (j : Int)) (fun j => PL.cutsP (l0.length : Int) a1 j) m (fun j hj => PL.cuts_ev (l0.length : Int) a1 j (by omega) (by omega) (by omega) (by omega) (by omega))
    obtain ⟨K3, hK3⟩ := wfits_ev (PL.cutsP (l0.length : Int) a1 (topO (l0.length : Int) a1 m)) l0 hn (by omega)
    have hne := topO_ne (order := a1) hlp m
    exact parts_Best.goes (max K1 (max K2 K3)) A0 c0 l0 a1 m (topO (l0.length : Int) a1 m) a3 (fun j => PL.cutsP (l0.length : Int) a1 j) widF w hr0 hc0 (hK1 _ (by omega)) (hK3 _ (by omega)) (by omega) (by omega) h2 (by unfold widF; omega) (by omega) (fun j hj => hK2 _ (by omega) j hj) (topO_le _ _ _) hne (fun j h4 h5 => topO_max _ _ m j h4 h5) (fits_cuts l0.length a1 (by omega) _) (PL.cutsP_len hne)
  · rename_i hn
    rw [if_neg hn] at hK1
    simp only [Option.some.injEq, Prod.mk.injEq] at h
    obtain ⟨rfl, rfl, rfl, rfl, rfl⟩ := h
    refine (parts_Best.range K1 A0 c0 l0 a1 (m : Int) a3 w hr0 hc0 (by omega) (by omega) (by omega) (by omega) h2 (-1) (hK1 K1 (Nat.le_refl _)) (by decide)).mono ?_
    rintro e w' ⟨rfl, hb⟩
    exact ⟨_, rfl, Kd.R_nil k50 50 w' w.heap.size (fun _ => True), hb⟩
end Go.Proofs.Ytokdjeoecnnckaa.PA
end
section
namespace Go.Proofs.Ytokdjeoecnnckaa.PA
open Go.RowKit Go.Proofs.YtokdjeoecnnckaaW.PrintWords Go.Proofs.YtokdjeoecnnckaaW.PrintLast Go.Proofs.YtokdjeoecnnckaaW.PrintMore
attribute [local go_sem] max2_int min2_int max_two min_two max_three min_three max_four min_four   -- for this text's walks alone
set_option linter.unusedVariables false
set_option linter.unusedSimpArgs false
/-! ### parts_Best: function 18 -/
def parts_Best.f (l0 : List Int) (a1 a2 : Int) (a3 : Bool) : Option (Bool × Int × List (S50) × Int × Int) := partsBest.f l0 a1 a2 a3
theorem parts_Best.calls (A0 : Option Addr) (c0 : Nat) (l0 : List Int) (a1 : Int) (a2 : Int) (a3 : Bool) (r1 : Bool) (r2 : Int) (r3 : List (S50)) (r4 : Int) (r5 : Int) (w : World) (hr0 : Kd.C (Kd.int .i64) w A0 l0.length l0) (hc0 : l0.length ≤ c0) (h : parts_Best.f l0 a1 a2 a3 = some (r1, r2, r3, r4, r5)) :
    Calls Try.prog 18 #[.slice A0 l0.length c0, .int .i64 a1, .int .i64 a2, .bool a3] w fun e w' => ∃ v2_ : Value, e = .returned (.tuple #[.agg #[.bool r1, .int .i64 r2, v2_], .int .i64 r4, .int .i64 r5]) ∧ Kd.R k50 50 w' w.heap.size (fun _ => True) v2_ r3 ∧ Below w.heap.size w w' := partsBest.calls A0 c0 l0 a1 a2 a3 r1 r2 r3 r4 r5 w hr0 hc0 h
end Go.Proofs.Ytokdjeoecnnckaa.PA
end
section
namespace Go.Proofs.Ytokdjeoecnnckaa.PA
open Go.RowKit Go.Proofs.YtokdjeoecnnckaaW.PrintWords Go.Proofs.YtokdjeoecnnckaaW.PrintLast Go.Proofs.YtokdjeoecnnckaaW.PrintMore
attribute [local go_sem] max2_int min2_int max_two min_two max_three min_three max_four min_four   -- for this text's walks alone
set_option linter.unusedVariables false
set_option linter.unusedSimpArgs false
/-- A store into a box of another type, beside a Writer. -/
theorem zI.farT {w0 W : World} {g b j : Nat} {f0 : ByteArray} {f1 : Int} {t : TypeId} (h : zI w0 W g f0 f1) (ht : t ≠ 5 ∧ t ≠ 58) (hb : zA W b t) (u : Value) : zI w0 (W.setCell ⟨b, j, none⟩ u) g f0 f1 := by
  obtain ⟨cs, hb⟩ := hb
  exact h.setOther hb ht j u
theorem zI.as {w0 W X : World} {g : Nat} {f0 : ByteArray} {f1 : Int} (_ : zI w0 W g f0 f1) (k : zI w0 X g f0 f1) : zI w0 X g f0 f1 := k
/-! ### serinettelaw15_SectionCuts: function 5 -/
mutual
noncomputable def serinettelaw15_SectionCuts.j0 : Nat → List Int → Int → Int → Int → Bool → Bool → Option (Bool)
  | 0, _, _, _, _, _, _ => none
  | k + 1, x0, x1, x2, x3, x9, x31 => if x31 = true then (some x9) else (serinettelaw15_SectionCuts.l0 k x0 x1 x2 x3 x9 ([] : List Int) 0)
noncomputable def serinettelaw15_SectionCuts.l0 : Nat → List Int → Int → Int → Int → Bool → List Int → Int → Option (Bool)
  | 0, _, _, _, _, _, _, _ => none
  | k + 1, x0, x1, x2, x3, x9, x10, x11 => if x11 < (x0.length : Int) then (if 0 ≤ x11 then (if x10.length < 17592186044416 then (serinettelaw15_SectionCuts.l0 k x0 x1 x2 x3 x9 (x10 ++ [Int.tmod (wrap64 (rd x0 x11)) 1048577]) (wrap64 (x11 + 1))) else (none)) else (none)) else ((parts_Best.f x10 (wrap64 (Int.tmod x1 33)) (wrap64 (Int.tmod x2 9)) true).bind fun bt406 => ((bits_New.f).bind fun bt414 => (if bt406.2.2.2.2 = 0 then ((section_Put.f bt414.1 bt414.2 x10 (wrap64 (Int.tmod x1 33)) bt406.1 bt406.2.1 bt406.2.2.1).bind fun bt417 => ((bits_Writer_Bytes.f bt417.2.1 bt417.2.2).bind fun bt420 => (if bt417.1 = 0 then (serinettelaw15_SectionCuts.j2 k x3 x9 x10 (wrap64 (Int.tmod x1 33)) bt420.1 ((bt420.1.length : Int) == 0)) else (serinettelaw15_SectionCuts.j2 k x3 x9 x10 (wrap64 (Int.tmod x1 33)) bt420.1 true)))) else (some false))))
noncomputable def serinettelaw15_SectionCuts.j2 : Nat → Int → Bool → List Int → Int → List Int → Bool → Option (Bool)
  | 0, _, _, _, _, _, _ => none
  | k + 1, x3, x9, x10, x12, x18, x81 => if x81 = true then (some false) else (if (x18.length : Int) = 0 then (none) else (if 0 ≤ (Int.tmod (wrap64 (x3)) (x18.length : Int)) then (if (Int.tmod (wrap64 (x3)) (x18.length : Int)) ≤ (x18.length : Int) then ((bits_Open.f (x18.take ((Int.tmod (wrap64 (x3)) (x18.length : Int)) : Int).toNat)).bind fun bt429 => ((section_Take.f k bt429.1 bt429.2.1 bt429.2.2 (wrap64 ((x10.length : Int) + x12)) x12).bind fun bt433 => (if x9 = true then (if bt433.2.2.2.2.1 = 2 then (some ((bt433.1.length : Int) == 0)) else (some false)) else (some false)))) else (none)) else (none)))
end
noncomputable def serinettelaw15_SectionCuts.f (k : Nat) (l0 : List Int) (a1 : Int) (a2 : Int) (a3 : Int) : Option (Bool) := (serinettelaw15_awake.f k).bind fun t401 => (if (l0.length : Int) > 60 then (serinettelaw15_SectionCuts.j0 k l0 a1 a2 a3 t401 true) else (serinettelaw15_SectionCuts.j0 k l0 a1 a2 a3 t401 ((l0.length : Int) == 0)))
set_option maxHeartbeats 8000000 in
set_option maxRecDepth 100000 in
theorem serinettelaw15_SectionCuts.calls (k : Nat) (A0 : Option Addr) (c0 : Nat) (l0 : List Int) (a1 : Int) (a2 : Int) (a3 : Int) (r : Bool) (w : World) (hr0 : Kd.C (Kd.int .i32) w A0 l0.length l0) (hc0 : l0.length ≤ c0) (h : serinettelaw15_SectionCuts.f k l0 a1 a2 a3 = some r) :
    Calls Try.prog 5 #[.slice A0 l0.length c0, .int .u8 a1, .int .u8 a2, .int .u16 a3] w fun e w' => e = .returned (.bool r) ∧ Below w.heap.size w w' := by
  have hu25 := Try.underlying25
  have HR0 := zG.mk hr0
  have HC0 := zG.mk hc0
  clear hr0 hc0
  have HB := zG.mk (Below.refl w.heap.size w)
  have H : ((serinettelaw15_awake.f k).bind fun t401 => (if (l0.length : Int) > 60 then (serinettelaw15_SectionCuts.j0 k l0 a1 a2 a3 t401 true) else (serinettelaw15_SectionCuts.j0 k l0 a1 a2 a3 t401 ((l0.length : Int) == 0)))) = some r := h
  clear h
  replace H := Option.bind_eq_some_iff.mp H
  obtain ⟨t401, A50, H⟩ := H
  replace H : (if (l0.length : Int) > 60 then (serinettelaw15_SectionCuts.j0 k l0 a1 a2 a3 t401 true) else (serinettelaw15_SectionCuts.j0 k l0 a1 a2 a3 t401 ((l0.length : Int) == 0))) = some r := H
  have A5 := zG.mk A50
  clear A50
  have HC6 := zG.mk H
  clear H
  go_enter Try.func5, Try.ntmps5
  go_upto_region 2 with (first | ((with_reducible refine gate_callee (f := 6) rfl ?_); refine goesL_ (some 23) rfl rfl Try.func6 (by kernel_rfl) rfl #[] rfl (by (try simp only [List.map_toArray, List.map_cons, List.map_nil]); first | done | rfl | (simp only [List.length_drop, List.length_take]; rfl)) ?_; (with_reducible refine (serinettelaw15_awake.calls k  t401 _ A5.out).mono ?_); rintro e w7 ⟨rfl, hb⟩; refine ⟨_, rfl, ?_⟩; have n0_ := zG.mk (below_step (by repeat (first | (with_reducible first | exact HB.out | apply zF | apply zC | apply zD) | exact HB.out)) hb); clear HB; have HB := n0_; clear n0_; (try clear hb); (try clear hb2); (try clear hk); (try clear hi)))
  (try simp only [Act.put, List.setIfInBounds_toArray, List.set_cons_zero, List.set_cons_succ])
  go_cut [31] (fun v31 wc => ∃ (kq : Nat) (x31_5 : Bool), v31 = .bool x31_5 ∧ zG (serinettelaw15_SectionCuts.j0 kq l0 a1 a2 a3 t401 x31_5 = some r) ∧ zG (kq ≤ k) ∧ zG (Below w.heap.size w wc))
  case first =>
    have H := HC6.out
    clear HC6
    by_cases c8 : (l0.length : Int) > 60
    · rw [if_pos c8] at H
      have c8b0 : decide (60 < (l0.length : Int)) = true := decide_eq_true c8
      have c8b1 : decide (60 < l0.length) = true := decide_eq_true (by omega)
      clear c8
      (first | rw [c8b0] | (simp only [i64_w, i32_w]; rw [c8b0]) | skip)
      have H' := zG.mk H
      clear H
      go_wp2
      go_meet
      case rel => exact ⟨_, (true), (by first | rfl | (simp; done) | (simp only [i64_w, i32_w]; done) | (simp [*]; done) | (simp only [i64_w, i32_w]; first | rfl | (simp; done) | (simp [*]; done))), H', ⟨by first | omega | exact Nat.le_refl _⟩, ⟨by repeat (first | (with_reducible first | exact HB.out | apply zF | apply zC | apply zD) | exact HB.out)⟩⟩
    · rw [if_neg c8] at H
      have c8b0 : decide (60 < (l0.length : Int)) = false := decide_eq_false c8
      have c8b1 : decide (60 < l0.length) = false := decide_eq_false (by omega)
      clear c8
      (first | rw [c8b0] | (simp only [i64_w, i32_w]; rw [c8b0]) | skip)
      have H' := zG.mk H
      clear H
      go_wp2
      go_meet
      case rel => exact ⟨_, (((l0.length : Int) == 0)), (by first | rfl | (simp; done) | (simp only [i64_w, i32_w]; done) | (simp [*]; done) | (simp only [i64_w, i32_w]; first | rfl | (simp; done) | (simp [*]; done))), H', ⟨by first | omega | exact Nat.le_refl _⟩, ⟨by repeat (first | (with_reducible first | exact HB.out | apply zF | apply zC | apply zD) | exact HB.out)⟩⟩
  case rest =>
    clear HC6
    try clear p2
    try clear c5
    try clear c6
    try clear c8
    try clear c8b0
    try clear c8b1
    obtain ⟨kq, x31_5, rfl, HA, HJ5, HB⟩ := hcut
    cases kq with
    | zero => exact absurd HA.out (by simp [serinettelaw15_SectionCuts.j0])
    | succ kj5 =>
      have H := HA.out
      clear HA
      simp only [serinettelaw15_SectionCuts.j0] at H
      by_cases c9 : x31_5 = true
      · subst c9
        have H1 : (some t401) = some r := by rw [if_pos rfl] at H; exact H
        clear H
        have H := H1
        clear H1
        obtain rfl := Option.some.inj H
        go_wp2
        go_ret
        exact ⟨by first | rfl | (simp [errW_none, errW_some] <;> rfl) | (simp [*, errW_none, errW_some] <;> rfl), by repeat (first | (with_reducible first | exact HB.out | apply zF | apply zC | apply zD) | exact HB.out)⟩
      · replace c9 := Bool.eq_false_iff.mpr c9
        subst c9
        have H1 : (serinettelaw15_SectionCuts.l0 kj5 l0 a1 a2 a3 t401 ([] : List Int) 0) = some r := by rw [if_neg (show ¬ (false = true) by decide)] at H; exact H
        clear H
        have H := H1
        clear H1
        have H' := zG.mk H
        clear H
        go_wp2
        go_loopg [10, 11] kj5 (fun kq v10 v11 w' => ∃ (x10_2 : List Int) (x11_2 : Int), v11 = .int .i64 x11_2 ∧ zG (serinettelaw15_SectionCuts.l0 kq l0 a1 a2 a3 t401 x10_2 x11_2 = some r) ∧ zG (kq ≤ kj5) ∧ zG (Kd.R (Kd.int .i64) 3 w' w.heap.size (fun _ => True) v10 x10_2) ∧ zG (Below w.heap.size w w'))
        case atStart => exact ⟨(([] : List Int)), (0), (by first | rfl | (simp; done) | (simp only [i64_w, i32_w]; done) | (simp [*]; done) | (simp only [i64_w, i32_w]; first | rfl | (simp; done) | (simp [*]; done))), H', ⟨Nat.le_refl _⟩, ⟨by first | exact Kd.R_nil _ _ _ _ _ | exact Kd.N_nil _ _ _ _ _ | exact Kd.V_nil _ _ _ _ _ | exact Kd.Q_nil _ _ _ _ _ | exact Kd.S_nil _ _ _ _ _⟩, ⟨by repeat (first | (with_reducible first | exact HB.out | apply zF | apply zC | apply zD) | exact HB.out)⟩⟩
        case round =>
          clear H'
          try clear p2
          try clear c5
          try clear c6
          try clear c8
          try clear c8b0
          try clear c8b1
          try clear c9
          try clear p2
          obtain ⟨x10_2, x11_2, rfl, HA, HK2, HO_10, HB⟩ := hrel
          cases gk with
          | zero => exact absurd HA.out (by simp [serinettelaw15_SectionCuts.l0])
          | succ k2 =>
            have H := HA.out
            clear HA
            simp only [serinettelaw15_SectionCuts.l0] at H
            by_cases c10 : x11_2 < (l0.length : Int)
            · rw [if_pos c10] at H
              have c10b0 : decide (x11_2 < (l0.length : Int)) = true := decide_eq_true c10
              clear c10
              by_cases c11 : 0 ≤ x11_2
              · rw [if_pos c11] at H
                have c11b0 : decide (0 ≤ x11_2) = true := decide_eq_true c11
                clear c11
                by_cases c12 : x10_2.length < 17592186044416
                · rw [if_pos c12] at H
                  have LMc12 := zG.mk c12
                  clear c12
                  obtain ⟨y403, hy403⟩ : ∃ y_ : List Int, y_ = (x10_2 ++ [Int.tmod (wrap64 (rd l0 x11_2)) 1048577]) := ⟨_, rfl⟩
                  replace H : (serinettelaw15_SectionCuts.l0 k2 l0 a1 a2 a3 t401 y403 (wrap64 (x11_2 + 1))) = some r := by first | (rw [hy403]; with_reducible exact H) | (have H2_ := (Option.bind_some _ _).symm.trans H; rw [hy403]; with_reducible exact H2_) | (have H2_ := (Option.bind_some _ _).symm.trans H; with_reducible exact H2_) | with_reducible exact H | (rw [hy403]; exact H) | exact H
                  have Ny403 := zG.mk hy403
                  clear hy403
                  have H' := zG.mk H
                  clear H
                  have p402 : 0 ≤ (x11_2 : Int) := of_decide_eq_true (by first | (with_reducible assumption) | assumption)
                  have q402 : x11_2 < (l0.length : Int) := of_decide_eq_true (by first | (with_reducible assumption) | assumption)
                  obtain ⟨ad402, e402, hx402_0⟩ := Kd.at_int HR0.out x11_2 p402 q402
                  cases e402
                  replace hx402_0 := (HB.out.cell (World.block_lt_of_cell? w _ hx402_0)).trans hx402_0
                  replace p402 := eq_true p402
                  replace q402 := eq_true q402
                  go_wp2_with (first | ((with_reducible refine gate_builtin (b := .append) (xs := #[.tmp 39, .tmp 46]) rfl ?_); (try (refine gate_guard (by rfl) ?_; dsimp only)); at_builtin; refine Kd.R_append (Kd.int .i64) (w0 := w) w.heap.size rfl (.tmp 39) (.tmp 46) 22 3 (.int .i64 0) 8 rfl Try.underlying22 info3 rfl (by decide) (by omega) u10 x10_2 (Int.tmod (wrap64 (rd l0 x11_2)) 1048577) [.int .i64 (Int.tmod (wrap64 (rd l0 x11_2)) 1048577)] (fun _ => True) (fun _ => False) rfl rfl ?aP (fun _ hk => hk.elim) ?aF ?aO ?aB ?aS ?aL ?_; (case aP => exact rfl); (case aB => exact (by repeat (first | (with_reducible first | exact HB.out | apply zF | apply zC | apply zD) | exact HB.out))); (case aF => exact (fun _ _ => trivial)); (case aO => exact (by (with_reducible repeat (first | apply Kd.R_alloc | apply Kd.R_drewN | apply Kd.R_drew)); exact HO_10.out)); (case aS => exact (below_size (by repeat (first | (with_reducible first | exact HB.out | apply zF | apply zC | apply zD) | exact HB.out)))); (case aL => have := LMc12.out; omega); intro v404 w13 ho hb hg hat; rw [← Ny403.out] at ho; have n0_ := zG.mk (hb); have n1_ := zG.mk (ho); clear HB; clear HO_10; have HB := n0_; have HO405 := n1_; clear n0_ n1_; clear ho hb hg hat))
                  go_roundg k2
                  case measure => have := HJ5.out; have := HK2.out; omega
                  case rel => exact ⟨(y403), (wrap64 (x11_2 + 1)), (by first | rfl | (simp; done) | (simp only [i64_w, i32_w]; done) | (simp [*]; done) | (simp only [i64_w, i32_w]; first | rfl | (simp; done) | (simp [*]; done))), H', ⟨by have := HJ5.out; have := HK2.out; omega⟩, ⟨by (with_reducible repeat (first | apply Kd.R_alloc | apply Kd.R_drewN | apply Kd.R_drew)); exact HO405.out⟩, ⟨by repeat (first | (with_reducible first | exact HB.out | apply zF | apply zC | apply zD) | exact HB.out)⟩⟩
                · rw [if_neg c12] at H
                  exact absurd H (by simp)
              · rw [if_neg c11] at H
                exact absurd H (by simp)
            · rw [if_neg c10] at H
              have c10b0 : decide (x11_2 < (l0.length : Int)) = false := decide_eq_false c10
              clear c10
              replace H := Option.bind_eq_some_iff.mp H
              obtain ⟨⟨t406, t407, t408, t411, t412⟩, A140, H⟩ := H
              replace H : ((bits_New.f).bind fun bt414 => (if t412 = 0 then ((section_Put.f bt414.1 bt414.2 x10_2 (wrap64 (Int.tmod a1 33)) t406 t407 t408).bind fun bt417 => ((bits_Writer_Bytes.f bt417.2.1 bt417.2.2).bind fun bt420 => (if bt417.1 = 0 then (serinettelaw15_SectionCuts.j2 k2 a3 t401 x10_2 (wrap64 (Int.tmod a1 33)) bt420.1 ((bt420.1.length : Int) == 0)) else (serinettelaw15_SectionCuts.j2 k2 a3 t401 x10_2 (wrap64 (Int.tmod a1 33)) bt420.1 true)))) else (some false))) = some r := H
              have A14 := zG.mk A140
              clear A140
              replace H := Option.bind_eq_some_iff.mp H
              obtain ⟨⟨t414, t415⟩, A150, H⟩ := H
              replace H : (if t412 = 0 then ((section_Put.f t414 t415 x10_2 (wrap64 (Int.tmod a1 33)) t406 t407 t408).bind fun bt417 => ((bits_Writer_Bytes.f bt417.2.1 bt417.2.2).bind fun bt420 => (if bt417.1 = 0 then (serinettelaw15_SectionCuts.j2 k2 a3 t401 x10_2 (wrap64 (Int.tmod a1 33)) bt420.1 ((bt420.1.length : Int) == 0)) else (serinettelaw15_SectionCuts.j2 k2 a3 t401 x10_2 (wrap64 (Int.tmod a1 33)) bt420.1 true)))) else (some false)) = some r := H
              have A15 := zG.mk A150
              clear A150
              by_cases c16 : t412 = 0
              · rw [if_pos c16] at H
                have c16b0 : (t412 == 0) = true := beq_iff_eq.mpr c16
                have c16b1 : (t412 != 0) = false := bne_eq_false_iff_eq.mpr c16
                clear c16
                replace H := Option.bind_eq_some_iff.mp H
                obtain ⟨⟨t417, t418, t419⟩, A170, H⟩ := H
                replace H : ((bits_Writer_Bytes.f t418 t419).bind fun bt420 => (if t417 = 0 then (serinettelaw15_SectionCuts.j2 k2 a3 t401 x10_2 (wrap64 (Int.tmod a1 33)) bt420.1 ((bt420.1.length : Int) == 0)) else (serinettelaw15_SectionCuts.j2 k2 a3 t401 x10_2 (wrap64 (Int.tmod a1 33)) bt420.1 true))) = some r := H
                have A17 := zG.mk A170
                clear A170
                replace H := Option.bind_eq_some_iff.mp H
                obtain ⟨⟨t420, t423, t424⟩, A180, H⟩ := H
                replace H : (if t417 = 0 then (serinettelaw15_SectionCuts.j2 k2 a3 t401 x10_2 (wrap64 (Int.tmod a1 33)) t420 ((t420.length : Int) == 0)) else (serinettelaw15_SectionCuts.j2 k2 a3 t401 x10_2 (wrap64 (Int.tmod a1 33)) t420 true)) = some r := H
                have A18 := zG.mk A180
                clear A180
                have HC19 := zG.mk H
                clear H
                obtain ⟨Ao20, co20, eo20⟩ := Kd.R_slice HO_10.out
                subst eo20
                go_upto_region 16 with (first | ((with_reducible refine gate_callee (f := 18) rfl ?_); refine goesL_ (some 57) rfl rfl Try.func18 (by kernel_rfl) rfl #[.slice Ao20 x10_2.length co20, .int .i64 (wrap64 (Int.tmod a1 33)), .int .i64 (wrap64 (Int.tmod a2 9)), .bool true] rfl (by (try simp only [List.map_toArray, List.map_cons, List.map_nil]); first | done | rfl | (simp only [List.length_drop, List.length_take]; rfl)) ?_; (with_reducible refine (parts_Best.calls _ _ x10_2 (wrap64 (Int.tmod a1 33)) (wrap64 (Int.tmod a2 9)) true t406 t407 t408 t411 t412 _ ?side1 ?side2 A14.out).mono ?_); (case side1 => repeat (first | exact (Kd.R_reads' HO_10.out).2.2 | (with_reducible refine Kd.C_alloc ?_ _) | (with_reducible refine Kd.C_drewN ?_ _) | (with_reducible refine Kd.C_drew ?_))); (case side2 => exact (Kd.R_reads' HO_10.out).2.1); rintro e w21 ⟨v409, rfl, ho0, hb⟩; refine ⟨_, rfl, ?_⟩; have n0_ := zG.mk (Kd.R_below (by (with_reducible repeat (first | apply Kd.R_alloc | apply Kd.R_drewN | apply Kd.R_drew)); exact HO_10.out) hb); have n1_ := zG.mk (Kd.R_lower ho0 (below_size (by repeat (first | (with_reducible first | exact HB.out | apply zF | apply zC | apply zD) | exact HB.out)))); have n2_ := zG.mk (below_step (by repeat (first | (with_reducible first | exact HB.out | apply zF | apply zC | apply zD) | exact HB.out)) hb); clear HO_10; clear HB; have HO_10 := n0_; have HO410 := n1_; have HB := n2_; clear n0_ n1_ n2_; (try clear hb); (try clear hb2); (try clear hk); (try clear hi); (try clear ho0)) | ((with_reducible refine gate_dst (N := 13) rfl ?_); (try (refine gate_guard (by rfl) ?_; dsimp only)); refine box_event ?hg (N := 13) ?hd (cs := #[.bool false, .int .i64 0, .slice none 0 0]) (t := 25) ?hr ?_; (case hd => rfl); (case hg => rfl); (case hr => first | (go_simp; done) | (go_simp; rfl)); intro gb413 hg w22 hbox hb; have n0_ := zG.mk (Kd.R_below (by (with_reducible repeat (first | apply Kd.R_alloc | apply Kd.R_drewN | apply Kd.R_drew)); exact HO_10.out) hb); have n1_ := zG.mk (Kd.R_below (by (with_reducible repeat (first | apply Kd.R_alloc | apply Kd.R_drewN | apply Kd.R_drew)); exact HO410.out) hb); have n2_ := zG.mk (below_step (by repeat (first | (with_reducible first | exact HB.out | apply zF | apply zC | apply zD) | exact HB.out)) hb); have n3_ := zG.mk (hbox); have n4_ := zG.mk ((by rw [hg]; exact (below_size (by repeat (first | (with_reducible first | exact HB.out | apply zF | apply zC | apply zD) | exact HB.out))) : w.heap.size ≤ gb413)); have n5_ := zG.mk ((by rw [hg]; exact (below_size (by repeat (first | (with_reducible first | exact HB.out | apply zF | apply zC | apply zD) | exact HB.out))) : w.heap.size ≤ gb413)); clear HO_10; clear HO410; clear HB; have HO_10 := n0_; have HO410 := n1_; have HB := n2_; have BK413 := n3_; have GW413 := n4_; have GE413 := n5_; clear n0_ n1_ n2_ n3_ n4_ n5_; clear hb hbox hg; have hcz23_0 : w22.cell? ⟨gb413, 0, none⟩ = some (.bool false) := (zN BK413.out 0).trans rfl; have hcz23_1 : w22.cell? ⟨gb413, 1, none⟩ = some (.int .i64 0) := (zN BK413.out 1).trans rfl; have hcz23_2 : w22.cell? ⟨gb413, 2, none⟩ = some (.slice none 0 0) := (zN BK413.out 2).trans rfl; have hfz23_0 := zO BK413.out 0; have hfz23_1 := zO BK413.out 1; have hfz23_2 := zO BK413.out 2; obtain ⟨Ao24, co24, eo24⟩ := Kd.R_slice HO410.out; subst eo24) | ((with_reducible refine gate_callee (f := 8) rfl ?_); refine goesL_ (some 61) rfl rfl Try.func8 (by kernel_rfl) rfl #[] rfl (by (try simp only [List.map_toArray, List.map_cons, List.map_nil]); first | done | rfl | (simp only [List.length_drop, List.length_take]; rfl)) ?_; (with_reducible refine (bits_New.calls  t414 t415 w _ ?side1 A15.out).mono ?_); (case side1 => repeat (first | (with_reducible first | exact HB.out | apply zF | apply zC | apply zD | refine zE ?_ GE413.out) | exact HB.out)); rintro e w25 ⟨g416, rfl, hi, hb, hb2⟩; refine ⟨_, rfl, ?_⟩; have n0_ := zG.mk (Kd.R_below (by (with_reducible repeat (first | apply Kd.R_alloc | apply Kd.R_drewN | apply Kd.R_drew)); exact (Kd.R_mono (Kd.R_far (p := ⟨gb413, 2, none⟩) (Kd.R_far (p := ⟨gb413, 1, none⟩) (Kd.R_far (p := ⟨gb413, 0, none⟩) (Kd.R_types HO_10.out BK413.out (by decide)) (fun _ hk => hk.2) (.bool t406)) (fun _ hk => hk.2) (.int .i64 t407)) (fun _ hk => hk.2) (.slice Ao24 t408.length co24)) (fun _ h_ => h_.1))) hb2); have n1_ := zG.mk (Kd.R_below (by (with_reducible repeat (first | apply Kd.R_alloc | apply Kd.R_drewN | apply Kd.R_drew)); exact (Kd.R_mono (Kd.R_far (p := ⟨gb413, 2, none⟩) (Kd.R_far (p := ⟨gb413, 1, none⟩) (Kd.R_far (p := ⟨gb413, 0, none⟩) (Kd.R_types HO410.out BK413.out (by decide)) (fun _ hk => hk.2) (.bool t406)) (fun _ hk => hk.2) (.int .i64 t407)) (fun _ hk => hk.2) (.slice Ao24 t408.length co24)) (fun _ h_ => h_.1))) hb2); have n2_ := zG.mk (blk_below (g := gb413) (o := .cells #[.bool t406, .int .i64 t407, .slice Ao24 t408.length co24] 25 (0, 0)) (by (with_reducible repeat (first | refine zL ?_ _ | refine zM ?_ | refine zK ?_ _)); refine blk_put (cs := #[.bool t406, .int .i64 t407, .slice none 0 0]) ?_ 2 _ rfl; (with_reducible repeat (first | refine zL ?_ _ | refine zM ?_ | refine zK ?_ _)); refine blk_put (cs := #[.bool t406, .int .i64 0, .slice none 0 0]) ?_ 1 _ rfl; (with_reducible repeat (first | refine zL ?_ _ | refine zM ?_ | refine zK ?_ _)); refine blk_put (cs := #[.bool false, .int .i64 0, .slice none 0 0]) ?_ 0 _ rfl; (with_reducible repeat (first | refine zL ?_ _ | refine zM ?_ | refine zK ?_ _)); exact BK413.out) hb2); have n3_ := zG.mk (hb); have n4_ := zG.mk (hi); have n5_ := zG.mk (zI.ne_blk hi (blk_below (g := gb413) (o := .cells #[.bool t406, .int .i64 t407, .slice Ao24 t408.length co24] 25 (0, 0)) (by (with_reducible repeat (first | refine zL ?_ _ | refine zM ?_ | refine zK ?_ _)); refine blk_put (cs := #[.bool t406, .int .i64 t407, .slice none 0 0]) ?_ 2 _ rfl; (with_reducible repeat (first | refine zL ?_ _ | refine zM ?_ | refine zK ?_ _)); refine blk_put (cs := #[.bool t406, .int .i64 0, .slice none 0 0]) ?_ 1 _ rfl; (with_reducible repeat (first | refine zL ?_ _ | refine zM ?_ | refine zK ?_ _)); refine blk_put (cs := #[.bool false, .int .i64 0, .slice none 0 0]) ?_ 0 _ rfl; (with_reducible repeat (first | refine zL ?_ _ | refine zM ?_ | refine zK ?_ _)); exact BK413.out) hb2) (by decide)); have n6_ := zG.mk (Ne.symm (zI.ne_blk hi (blk_below (g := gb413) (o := .cells #[.bool t406, .int .i64 t407, .slice Ao24 t408.length co24] 25 (0, 0)) (by (with_reducible repeat (first | refine zL ?_ _ | refine zM ?_ | refine zK ?_ _)); refine blk_put (cs := #[.bool t406, .int .i64 t407, .slice none 0 0]) ?_ 2 _ rfl; (with_reducible repeat (first | refine zL ?_ _ | refine zM ?_ | refine zK ?_ _)); refine blk_put (cs := #[.bool t406, .int .i64 0, .slice none 0 0]) ?_ 1 _ rfl; (with_reducible repeat (first | refine zL ?_ _ | refine zM ?_ | refine zK ?_ _)); refine blk_put (cs := #[.bool false, .int .i64 0, .slice none 0 0]) ?_ 0 _ rfl; (with_reducible repeat (first | refine zL ?_ _ | refine zM ?_ | refine zK ?_ _)); exact BK413.out) hb2) (by decide))); clear HO_10; clear HO410; clear BK413; clear HB; have HO_10 := n0_; have HO410 := n1_; have BK413 := n2_; have HB := n3_; have HI416 := n4_; have NB416_413 := n5_; have NB413_416 := n6_; clear n0_ n1_ n2_ n3_ n4_ n5_ n6_; (try clear hb); (try clear hb2); (try clear hk); (try clear hi); have hnb26 := NB413_416.out; have hnc26 := NB416_413.out; have hcz27_0 : w25.cell? ⟨gb413, 0, none⟩ = some (.bool t406) := (zN BK413.out 0).trans rfl; have hcz27_1 : w25.cell? ⟨gb413, 1, none⟩ = some (.int .i64 t407) := (zN BK413.out 1).trans rfl; have hcz27_2 : w25.cell? ⟨gb413, 2, none⟩ = some (.slice Ao24 t408.length co24) := (zN BK413.out 2).trans rfl; have hfz27_0 := zO BK413.out 0; have hfz27_1 := zO BK413.out 1; have hfz27_2 := zO BK413.out 2) | ((with_reducible refine gate_callee (f := 9) rfl ?_); refine goesL_ (some 72) rfl rfl Try.func9 (by kernel_rfl) rfl #[.pointer (some ⟨g416, 0, none⟩), .slice Ao20 x10_2.length co20, .int .i64 (wrap64 (Int.tmod a1 33)), .agg #[.bool t406, .int .i64 t407, .slice Ao24 t408.length co24]] rfl (by (try simp only [List.map_toArray, List.map_cons, List.map_nil]); first | done | rfl | (simp only [List.length_drop, List.length_take]; rfl)) ?_; (with_reducible refine (section_Put.calls g416 t414 t415 _ _ x10_2 (wrap64 (Int.tmod a1 33)) t406 t407 _ _ t408 t417 t418 t419 w _ ?side1 ?side2 ?side3 ?side4 ?side5 ?side6 ?side7 A17.out).mono ?_); (case side1 => repeat (first | (with_reducible first | exact HI416.out | apply zI.alloc | apply zI.drewN | apply zI.drew | refine zI.farT (t := 25) (b := gb413) ?_ (by decide) (by repeat (first | exact zA.of BK413.out | apply zA.set | apply zA.drewN | apply zA.drew | apply zA.alloc)) _) | exact HI416.out)); (case side2 => repeat (first | (with_reducible first | exact HB.out | apply zF | apply zC | apply zD | refine zE ?_ (zI.ge HI416.out) | refine zE ?_ GE413.out) | exact HB.out)); (case side3 => repeat (first | exact (Kd.R_reads' HO_10.out).2.2 | (with_reducible refine Kd.C_alloc ?_ _) | (with_reducible refine Kd.C_drewN ?_ _) | (with_reducible refine Kd.C_drew ?_))); (case side4 => exact (Kd.R_reads' HO_10.out).2.1); (case side5 => exact KC.own (by (with_reducible repeat (first | apply Kd.R_alloc | apply Kd.R_drewN | apply Kd.R_drew)); exact HO_10.out) (by decide)); (case side6 => exact KC.own (by (with_reducible repeat (first | apply Kd.R_alloc | apply Kd.R_drewN | apply Kd.R_drew)); exact HO410.out) (by decide)); (case side7 => exact (Kd.R_reads' HO410.out).2.1); rintro e w28 ⟨rfl, hi, hb, hk⟩; refine ⟨_, rfl, ?_⟩; have n0_ := zG.mk (Kd.R_mono (KB.R_keep (zI.apart (show zI w _ g416 t414 t415 from by repeat (first | (with_reducible first | exact HI416.out | apply zI.alloc | apply zI.drewN | apply zI.drew | refine zI.farT (t := 25) (b := gb413) ?_ (by decide) (by repeat (first | exact zA.of BK413.out | apply zA.set | apply zA.drewN | apply zA.drew | apply zA.alloc)) _) | exact HI416.out)) (by (with_reducible repeat (first | apply Kd.R_alloc | apply Kd.R_drewN | apply Kd.R_drew)); exact HO_10.out) (by decide)) (fun _ h => h.2) (by decide) hk.1) (fun _ h => h.1)); have n1_ := zG.mk (Kd.R_mono (KB.R_keep (zI.apart (show zI w _ g416 t414 t415 from by repeat (first | (with_reducible first | exact HI416.out | apply zI.alloc | apply zI.drewN | apply zI.drew | refine zI.farT (t := 25) (b := gb413) ?_ (by decide) (by repeat (first | exact zA.of BK413.out | apply zA.set | apply zA.drewN | apply zA.drew | apply zA.alloc)) _) | exact HI416.out)) (by (with_reducible repeat (first | apply Kd.R_alloc | apply Kd.R_drewN | apply Kd.R_drew)); exact HO410.out) (by decide)) (fun _ h => h.2) (by decide) hk.1) (fun _ h => h.1)); have n2_ := zG.mk (KB.blk hk.1 (g' := gb413) (cs := #[.bool t406, .int .i64 t407, .slice Ao24 t408.length co24]) (t := 25) (fr := (0, 0)) (by (with_reducible repeat (first | refine zL ?_ _ | refine zM ?_ | refine zK ?_ _)); exact BK413.out) NB413_416.out (by decide)); have n3_ := zG.mk (hb); have n4_ := zG.mk (hi); clear HO_10; clear HO410; clear BK413; clear HB; clear HI416; have HO_10 := n0_; have HO410 := n1_; have BK413 := n2_; have HB := n3_; have HI416 := n4_; clear n0_ n1_ n2_ n3_ n4_; (try clear hb); (try clear hb2); (try clear hk); (try clear hi)) | ((with_reducible refine gate_callee (f := 13) rfl ?_); refine goesL_ (some 74) rfl rfl Try.func13 (by kernel_rfl) rfl #[.pointer (some ⟨g416, 0, none⟩)] rfl (by (try simp only [List.map_toArray, List.map_cons, List.map_nil]); first | done | rfl | (simp only [List.length_drop, List.length_take]; rfl)) ?_; (with_reducible refine (bits_Writer_Bytes.calls g416 t418 t419 t420 t423 t424 w _ ?side1 ?side2 A18.out).mono ?_); (case side1 => repeat (first | (with_reducible first | exact HI416.out | apply zI.alloc | apply zI.drewN | apply zI.drew | refine zI.farT (t := 25) (b := gb413) ?_ (by decide) (by repeat (first | exact zA.of BK413.out | apply zA.set | apply zA.drewN | apply zA.drew | apply zA.alloc)) _) | exact HI416.out)); (case side2 => repeat (first | (with_reducible first | exact HB.out | apply zF | apply zC | apply zD | refine zE ?_ (zI.ge HI416.out) | refine zE ?_ GE413.out) | exact HB.out)); rintro e w29 ⟨v421, rfl, ho0, hi, hb, hk⟩; refine ⟨_, rfl, ?_⟩; have n0_ := zG.mk (Kd.R_mono (Kd.R_keep (zI.apart (show zI w _ g416 t418 t419 from by repeat (first | (with_reducible first | exact HI416.out | apply zI.alloc | apply zI.drewN | apply zI.drew | refine zI.farT (t := 25) (b := gb413) ?_ (by decide) (by repeat (first | exact zA.of BK413.out | apply zA.set | apply zA.drewN | apply zA.drew | apply zA.alloc)) _) | exact HI416.out)) (by (with_reducible repeat (first | apply Kd.R_alloc | apply Kd.R_drewN | apply Kd.R_drew)); exact HO_10.out) (by decide)) hk (fun _ h => h.2)) (fun _ h => h.1)); have n1_ := zG.mk (Kd.R_mono (Kd.R_keep (zI.apart (show zI w _ g416 t418 t419 from by repeat (first | (with_reducible first | exact HI416.out | apply zI.alloc | apply zI.drewN | apply zI.drew | refine zI.farT (t := 25) (b := gb413) ?_ (by decide) (by repeat (first | exact zA.of BK413.out | apply zA.set | apply zA.drewN | apply zA.drew | apply zA.alloc)) _) | exact HI416.out)) (by (with_reducible repeat (first | apply Kd.R_alloc | apply Kd.R_drewN | apply Kd.R_drew)); exact HO410.out) (by decide)) hk (fun _ h => h.2)) (fun _ h => h.1)); have n2_ := zG.mk (zJ.blk hk (g' := gb413) (o := .cells #[.bool t406, .int .i64 t407, .slice Ao24 t408.length co24] 25 (0, 0)) (by (with_reducible repeat (first | refine zL ?_ _ | refine zM ?_ | refine zK ?_ _)); exact BK413.out) NB413_416.out (by simp)); have n3_ := zG.mk (Kd.R_lower ho0 (below_size (by repeat (first | (with_reducible first | exact HB.out | apply zF | apply zC | apply zD | refine zE ?_ (zI.ge HI416.out) | refine zE ?_ GE413.out) | exact HB.out)))); have n4_ := zG.mk (hb); have n5_ := zG.mk (hi); clear HO_10; clear HO410; clear BK413; clear HB; clear HI416; have HO_10 := n0_; have HO410 := n1_; have BK413 := n2_; have HO422 := n3_; have HB := n4_; have HI416 := n5_; clear n0_ n1_ n2_ n3_ n4_ n5_; (try clear hb); (try clear hb2); (try clear hk); (try clear hi); (try clear ho0)))
                (try simp only [Act.put, List.setIfInBounds_toArray, List.set_cons_zero, List.set_cons_succ])
                go_cut [81] (fun v81 wc => ∃ (kq : Nat) (x81_18 : Bool), v81 = .bool x81_18 ∧ zG (serinettelaw15_SectionCuts.j2 kq a3 t401 x10_2 (wrap64 (Int.tmod a1 33)) t420 x81_18 = some r) ∧ zG (kq ≤ k2) ∧ zG (Kd.R (Kd.int .i64) 3 wc w.heap.size (fun _ => True) (.slice Ao20 x10_2.length co20) x10_2) ∧ zG (Kd.R (Kd.int .u8) 5 wc w.heap.size (fun _ => True) v421 t420) ∧ zG (Kd.R k50 50 wc w.heap.size (fun _ => True) (.slice Ao24 t408.length co24) t408) ∧ zG (wc.heap[gb413]? = some (.cells #[.bool t406, .int .i64 t407, (.slice Ao24 t408.length co24)] 25 (0, 0))) ∧ zG (Below w.heap.size w wc))
                case first =>
                  have H := HC19.out
                  clear HC19
                  by_cases c30 : t417 = 0
                  · rw [if_pos c30] at H
                    have c30b0 : (t417 == 0) = true := beq_iff_eq.mpr c30
                    have c30b1 : (t417 != 0) = false := bne_eq_false_iff_eq.mpr c30
                    clear c30
                    (first | rw [c30b0] | (simp only [i64_w, i32_w]; rw [c30b0]) | skip)
                    have H' := zG.mk H
                    clear H
                    obtain ⟨Ao31, co31, eo31⟩ := Kd.R_slice HO422.out
                    subst eo31
                    go_wp2
                    go_meet
                    case rel => exact ⟨_, (((t420.length : Int) == 0)), (by first | rfl | (simp; done) | (simp only [i64_w, i32_w]; done) | (simp [*]; done) | (simp only [i64_w, i32_w]; first | rfl | (simp; done) | (simp [*]; done))), H', ⟨by have := HJ5.out; have := HK2.out; first | omega | exact Nat.le_refl _⟩, ⟨by (with_reducible repeat (first | apply Kd.R_alloc | apply Kd.R_drewN | apply Kd.R_drew)); exact HO_10.out⟩, ⟨by (with_reducible repeat (first | apply Kd.R_alloc | apply Kd.R_drewN | apply Kd.R_drew)); exact HO422.out⟩, ⟨by (with_reducible repeat (first | apply Kd.R_alloc | apply Kd.R_drewN | apply Kd.R_drew)); exact HO410.out⟩, ⟨by (with_reducible repeat (first | refine zL ?_ _ | refine zM ?_ | refine zK ?_ _)); exact BK413.out⟩, ⟨by repeat (first | (with_reducible first | exact HB.out | apply zF | apply zC | apply zD | refine zE ?_ (zI.ge HI416.out) | refine zE ?_ GE413.out) | exact HB.out)⟩⟩
                  · rw [if_neg c30] at H
                    have c30b0 : (t417 == 0) = false := beq_eq_false_iff_ne.mpr c30
                    have c30b1 : (t417 != 0) = true := bne_iff_ne.mpr c30
                    (first | rw [c30b0] | (simp only [i64_w, i32_w]; rw [c30b0]) | skip)
                    have H' := zG.mk H
                    clear H
                    go_wp2
                    go_meet
                    case rel => exact ⟨_, (true), (by first | rfl | (simp; done) | (simp only [i64_w, i32_w]; done) | (simp [*]; done) | (simp only [i64_w, i32_w]; first | rfl | (simp; done) | (simp [*]; done))), H', ⟨by have := HJ5.out; have := HK2.out; first | omega | exact Nat.le_refl _⟩, ⟨by (with_reducible repeat (first | apply Kd.R_alloc | apply Kd.R_drewN | apply Kd.R_drew)); exact HO_10.out⟩, ⟨by (with_reducible repeat (first | apply Kd.R_alloc | apply Kd.R_drewN | apply Kd.R_drew)); exact HO422.out⟩, ⟨by (with_reducible repeat (first | apply Kd.R_alloc | apply Kd.R_drewN | apply Kd.R_drew)); exact HO410.out⟩, ⟨by (with_reducible repeat (first | refine zL ?_ _ | refine zM ?_ | refine zK ?_ _)); exact BK413.out⟩, ⟨by repeat (first | (with_reducible first | exact HB.out | apply zF | apply zC | apply zD | refine zE ?_ (zI.ge HI416.out) | refine zE ?_ GE413.out) | exact HB.out)⟩⟩
                case rest =>
                  clear HC19
                  try clear c1
                  try clear c2
                  try clear p2
                  try clear c3
                  try clear p4
                  try clear q4
                  try clear hx4
                  try clear c5
                  try clear c6
                  try clear p6
                  try clear c8
                  try clear c8b0
                  try clear c8b1
                  try clear c9
                  try clear c10
                  try clear c10b0
                  try clear c11
                  try clear c11b0
                  try clear c12
                  try clear c13
                  try clear c16
                  try clear c16b0
                  try clear c16b1
                  try clear c18
                  try clear c26
                  try clear c30
                  try clear c30b0
                  try clear c30b1
                  try clear hcz23_0
                  try clear hcz23_1
                  try clear hcz23_2
                  try clear hcz27_0
                  try clear hcz27_1
                  try clear hcz27_2
                  try clear hfz23_0
                  try clear hfz23_1
                  try clear hfz23_2
                  try clear hfz27_0
                  try clear hfz27_1
                  try clear hfz27_2
                  try clear hx402_0
                  try clear p2
                  try clear p402
                  try clear q402
                  obtain ⟨kq, x81_18, rfl, HA, HJ18, HO_10, HO_18, HO_414002, BK413, HB⟩ := hcut
                  cases kq with
                  | zero => exact absurd HA.out (by simp [serinettelaw15_SectionCuts.j2])
                  | succ kj18 =>
                    have H := HA.out
                    clear HA
                    simp only [serinettelaw15_SectionCuts.j2] at H
                    by_cases c32 : x81_18 = true
                    · subst c32
                      have H1 : (some false) = some r := by rw [if_pos rfl] at H; exact H
                      clear H
                      have H := H1
                      clear H1
                      obtain rfl := Option.some.inj H
                      go_wp2
                      go_ret
                      exact ⟨by first | rfl | (simp [errW_none, errW_some] <;> rfl) | (simp [*, errW_none, errW_some] <;> rfl), by repeat (first | (with_reducible first | exact HB.out | apply zF | apply zC | apply zD | refine zE ?_ GE413.out) | exact HB.out)⟩
                    · replace c32 := Bool.eq_false_iff.mpr c32
                      subst c32
                      have H1 : (if (t420.length : Int) = 0 then (none) else (if 0 ≤ (Int.tmod (wrap64 (a3)) (t420.length : Int)) then (if (Int.tmod (wrap64 (a3)) (t420.length : Int)) ≤ (t420.length : Int) then ((bits_Open.f (t420.take ((Int.tmod (wrap64 (a3)) (t420.length : Int)) : Int).toNat)).bind fun bt429 => ((section_Take.f kj18 bt429.1 bt429.2.1 bt429.2.2 (wrap64 ((x10_2.length : Int) + (wrap64 (Int.tmod a1 33)))) (wrap64 (Int.tmod a1 33))).bind fun bt433 => (if t401 = true then (if bt433.2.2.2.2.1 = 2 then (some ((bt433.1.length : Int) == 0)) else (some false)) else (some false)))) else (none)) else (none))) = some r := by rw [if_neg (show ¬ (false = true) by decide)] at H; exact H
                      clear H
                      have H := H1
                      clear H1
                      by_cases c33 : (t420.length : Int) = 0
                      · rw [if_pos c33] at H
                        exact absurd H (by simp)
                      · rw [if_neg c33] at H
                        have c33b0 : ((t420.length : Int) == 0) = false := beq_eq_false_iff_ne.mpr c33
                        have c33b1 : ((t420.length : Int) != 0) = true := bne_iff_ne.mpr c33
                        have c33b2 : ¬ (t420 = []) := fun h_ => c33 (by rw [h_]; rfl)
                        obtain ⟨ji34, hji34⟩ : ∃ j_ : Int, (Int.tmod (wrap64 (a3)) (t420.length : Int)) = j_ := ⟨_, rfl⟩
                        replace H : (if 0 ≤ (ji34) then (if (ji34) ≤ (t420.length : Int) then ((bits_Open.f (t420.take ((ji34) : Int).toNat)).bind fun bt429 => ((section_Take.f kj18 bt429.1 bt429.2.1 bt429.2.2 (wrap64 ((x10_2.length : Int) + (wrap64 (Int.tmod a1 33)))) (wrap64 (Int.tmod a1 33))).bind fun bt433 => (if t401 = true then (if bt433.2.2.2.2.1 = 2 then (some ((bt433.1.length : Int) == 0)) else (some false)) else (some false)))) else (none)) else (none)) = some r := by first | (rw [hji34] at H; exact H) | (simp only [hji34] at H ⊢; exact H)
                        by_cases c35 : 0 ≤ (ji34)
                        · rw [if_pos c35] at H
                          have c35b0 := eq_true c35
                          have c35b1 : decide (0 ≤ (ji34)) = true := decide_eq_true c35
                          clear c35
                          by_cases c36 : (ji34) ≤ (t420.length : Int)
                          · rw [if_pos c36] at H
                            have c36b0 := eq_true c36
                            have c36b1 : decide ((ji34) ≤ (t420.length : Int)) = true := decide_eq_true c36
                            clear c36
                            obtain ⟨y425, hy425⟩ : ∃ y_ : List Int, y_ = (t420.take ((ji34) : Int).toNat) := ⟨_, rfl⟩
                            replace H : ((bits_Open.f y425).bind fun bt429 => ((section_Take.f kj18 bt429.1 bt429.2.1 bt429.2.2 (wrap64 ((x10_2.length : Int) + (wrap64 (Int.tmod a1 33)))) (wrap64 (Int.tmod a1 33))).bind fun bt433 => (if t401 = true then (if bt433.2.2.2.2.1 = 2 then (some ((bt433.1.length : Int) == 0)) else (some false)) else (some false)))) = some r := by first | (rw [hy425]; with_reducible exact H) | (have H2_ := (Option.bind_some _ _).symm.trans H; rw [hy425]; with_reducible exact H2_) | (have H2_ := (Option.bind_some _ _).symm.trans H; with_reducible exact H2_) | with_reducible exact H | (rw [hy425]; exact H) | exact H
                            have Ny425 := zG.mk hy425
                            clear hy425
                            replace H := Option.bind_eq_some_iff.mp H
                            obtain ⟨⟨t429, t430, t431⟩, A370, H⟩ := H
                            replace H : ((section_Take.f kj18 t429 t430 t431 (wrap64 ((x10_2.length : Int) + (wrap64 (Int.tmod a1 33)))) (wrap64 (Int.tmod a1 33))).bind fun bt433 => (if t401 = true then (if bt433.2.2.2.2.1 = 2 then (some ((bt433.1.length : Int) == 0)) else (some false)) else (some false))) = some r := H
                            have A37 := zG.mk A370
                            clear A370
                            replace H := Option.bind_eq_some_iff.mp H
                            obtain ⟨⟨t433, t436, t437, t438, t441, t442, t443⟩, A380, H⟩ := H
                            replace H : (if t401 = true then (if t441 = 2 then (some ((t433.length : Int) == 0)) else (some false)) else (some false)) = some r := H
                            have A38 := zG.mk A380
                            clear A380
                            by_cases c39 : t401 = true
                            · subst c39
                              have H1 : (if t441 = 2 then (some ((t433.length : Int) == 0)) else (some false)) = some r := by rw [if_pos rfl] at H; exact H
                              clear H
                              have H := H1
                              clear H1
                              by_cases c40 : t441 = 2
                              · rw [if_pos c40] at H
                                have c40b0 : (t441 == 2) = true := beq_iff_eq.mpr c40
                                have c40b1 : (t441 != 2) = false := bne_eq_false_iff_eq.mpr c40
                                clear c40
                                obtain rfl := Option.some.inj H
                                obtain ⟨Ao41, co41, eo41⟩ := Kd.R_slice HO_18.out
                                subst eo41
                                have q42 : ((ji34) : Int) ≤ ((t420.length : Int) : Int) := of_decide_eq_true (by first | (with_reducible assumption) | assumption)
                                obtain ⟨i042, hi042, _, hsz42, _⟩ := info_parts info5
                                have hroom42 : t420.length ≤ co41 := (Kd.R_reads' HO_18.out).2.1
                                have hC42 : Kd.C (Kd.int .u8) _ Ao41 t420.length t420 := (Kd.R_reads' HO_18.out).2.2
                                have hcut42 := cut_to (P := Try.prog) 26 5 .i64 Try.underlying26 hi042 Ao41 t420.length co41 (ji34) (of_decide_eq_true (by first | (with_reducible assumption) | assumption)) q42 hroom42
                                have hr42 := Kd.C_take (m := ((ji34) : Int).toNat) hC42 (by omega)
                                have hy42 : y425.length = ((ji34) : Int).toNat := (by rw [Ny425.out, List.length_take]; omega)
                                rw [← Ny425.out] at hr42
                                rw [← hy42] at hcut42
                                have HR428 := zG.mk hr42
                                have HC428 := zG.mk (show y425.length ≤ co41 from by omega)
                                clear hr42 hC42 hroom42 hi042 hsz42
                                have KY42 := zG.mk hy42
                                clear hy42
                                have KL42 := zG.mk (show ((ji34) : Int).toNat ≤ t420.length from by omega)
                                replace q42 := eq_true q42
                                go_wp2_with (first | ((with_reducible refine gate_callee (f := 12) rfl ?_); refine goesL_ (some 89) rfl rfl Try.func12 (by kernel_rfl) rfl #[.slice Ao41 y425.length co41] rfl (by (try simp only [List.map_toArray, List.map_cons, List.map_nil]); first | done | rfl | (simp only [List.length_drop, List.length_take]; rfl)) ?_; (with_reducible refine (bits_Open.calls _ _ y425 t429 t430 t431 w _ ?side1 ?side2 ?side3 A37.out).mono ?_); (case side1 => repeat (first | (with_reducible first | exact HB.out | apply zF | apply zC | apply zD | refine zE ?_ GE413.out) | exact HB.out)); (case side2 => repeat (first | exact (by repeat (first | (with_reducible exact HR428.out) | (with_reducible refine Kd.C_alloc ?_ _) | (with_reducible refine Kd.C_drewN ?_ _) | (with_reducible refine Kd.C_drew ?_) | exact HR428.out)) | (with_reducible refine Kd.C_alloc ?_ _) | (with_reducible refine Kd.C_drewN ?_ _) | (with_reducible refine Kd.C_drew ?_))); (case side3 => exact HC428.out); rintro e w43 ⟨g432, rfl, hi, hb, hb2⟩; refine ⟨_, rfl, ?_⟩; have n0_ := zG.mk (Kd.R_below (by (with_reducible repeat (first | apply Kd.R_alloc | apply Kd.R_drewN | apply Kd.R_drew)); exact HO_10.out) hb2); have n1_ := zG.mk (Kd.R_below (by (with_reducible repeat (first | apply Kd.R_alloc | apply Kd.R_drewN | apply Kd.R_drew)); exact HO_18.out) hb2); have n2_ := zG.mk (Kd.R_below (by (with_reducible repeat (first | apply Kd.R_alloc | apply Kd.R_drewN | apply Kd.R_drew)); exact HO_414002.out) hb2); have n3_ := zG.mk (blk_below (g := gb413) (o := .cells #[.bool t406, .int .i64 t407, .slice Ao24 t408.length co24] 25 (0, 0)) (by (with_reducible repeat (first | refine zL ?_ _ | refine zM ?_ | refine zK ?_ _)); exact BK413.out) hb2); have n4_ := zG.mk (Kd.C_below (by repeat (first | (with_reducible exact HR428.out) | (with_reducible refine Kd.C_alloc ?_ _) | (with_reducible refine Kd.C_drewN ?_ _) | (with_reducible refine Kd.C_drew ?_) | exact HR428.out)) hb2); have n5_ := zG.mk (hb); have n6_ := zG.mk (hi); have n7_ := zG.mk (zH.ne_blk hi (blk_below (g := gb413) (o := .cells #[.bool t406, .int .i64 t407, .slice Ao24 t408.length co24] 25 (0, 0)) (by (with_reducible repeat (first | refine zL ?_ _ | refine zM ?_ | refine zK ?_ _)); exact BK413.out) hb2) (by decide)); have n8_ := zG.mk (Ne.symm (zH.ne_blk hi (blk_below (g := gb413) (o := .cells #[.bool t406, .int .i64 t407, .slice Ao24 t408.length co24] 25 (0, 0)) (by (with_reducible repeat (first | refine zL ?_ _ | refine zM ?_ | refine zK ?_ _)); exact BK413.out) hb2) (by decide))); clear HO_10; clear HO_18; clear HO_414002; clear BK413; clear HR428; clear HB; have HO_10 := n0_; have HO_18 := n1_; have HO_414002 := n2_; have BK413 := n3_; have HR428 := n4_; have HB := n5_; have HI432 := n6_; have NB432_413 := n7_; have NB413_432 := n8_; clear n0_ n1_ n2_ n3_ n4_ n5_ n6_ n7_ n8_; (try clear hb); (try clear hb2); (try clear hk); (try clear hi)) | ((with_reducible refine gate_callee (f := 14) rfl ?_); refine goesL_ (some 99) rfl rfl Try.func14 (by kernel_rfl) rfl #[.pointer (some ⟨g432, 0, none⟩), .int .i64 (wrap64 ((x10_2.length : Int) + (wrap64 (Int.tmod a1 33)))), .int .i64 (wrap64 (Int.tmod a1 33))] rfl (by (try simp only [List.map_toArray, List.map_cons, List.map_nil]); first | done | rfl | (simp only [List.length_drop, List.length_take]; rfl)) ?_; (with_reducible refine (section_Take.calls kj18 g432 t429 t430 t431 (wrap64 ((x10_2.length : Int) + (wrap64 (Int.tmod a1 33)))) (wrap64 (Int.tmod a1 33)) t433 t436 t437 t438 t441 t442 t443 w _ ?side1 ?side2 A38.out).mono ?_); (case side1 => repeat (first | (with_reducible first | exact HI432.out | apply zH.alloc | apply zH.drewN | apply zH.drew | refine zH.farT (t := 25) (b := gb413) ?_ (by decide) (by repeat (first | exact zA.of BK413.out | apply zA.set | apply zA.drewN | apply zA.drew | apply zA.alloc)) _) | exact HI432.out)); (case side2 => repeat (first | (with_reducible first | exact HB.out | apply zF | apply zC | apply zD | refine zE ?_ (zH.ge HI432.out) | refine zE ?_ GE413.out) | exact HB.out)); rintro e w44 ⟨v434, v439, rfl, ho0, ho1, hi, hb, hk⟩; refine ⟨_, rfl, ?_⟩; have n0_ := zG.mk (Kd.R_mono (Kd.R_told (Kd.R_oldK (zH.apart (show zH w _ g432 t429 t430 t431 from by repeat (first | (with_reducible first | exact HI432.out | apply zH.alloc | apply zH.drewN | apply zH.drew | refine zH.farT (t := 25) (b := gb413) ?_ (by decide) (by repeat (first | exact zA.of BK413.out | apply zA.set | apply zA.drewN | apply zA.drew | apply zA.alloc)) _) | exact HI432.out)) (by (with_reducible repeat (first | apply Kd.R_alloc | apply Kd.R_drewN | apply Kd.R_drew)); exact HO_10.out) (by decide)) hk) (Kd.R_base ho0)) (fun _ h_ => h_.1)); have n1_ := zG.mk (Kd.R_mono (Kd.R_keep (zH.apart (show zH w _ g432 t429 t430 t431 from by repeat (first | (with_reducible first | exact HI432.out | apply zH.alloc | apply zH.drewN | apply zH.drew | refine zH.farT (t := 25) (b := gb413) ?_ (by decide) (by repeat (first | exact zA.of BK413.out | apply zA.set | apply zA.drewN | apply zA.drew | apply zA.alloc)) _) | exact HI432.out)) (by (with_reducible repeat (first | apply Kd.R_alloc | apply Kd.R_drewN | apply Kd.R_drew)); exact HO_18.out) (by decide)) hk (fun _ h => h.2)) (fun _ h => h.1)); have n2_ := zG.mk (Kd.R_mono (Kd.R_told (Kd.R_oldK (zH.apart (show zH w _ g432 t429 t430 t431 from by repeat (first | (with_reducible first | exact HI432.out | apply zH.alloc | apply zH.drewN | apply zH.drew | refine zH.farT (t := 25) (b := gb413) ?_ (by decide) (by repeat (first | exact zA.of BK413.out | apply zA.set | apply zA.drewN | apply zA.drew | apply zA.alloc)) _) | exact HI432.out)) (by (with_reducible repeat (first | apply Kd.R_alloc | apply Kd.R_drewN | apply Kd.R_drew)); exact HO_414002.out) (by decide)) hk) (Kd.R_base ho1)) (fun _ h_ => h_.1)); have n3_ := zG.mk (zJ.blk hk (g' := gb413) (o := .cells #[.bool t406, .int .i64 t407, .slice Ao24 t408.length co24] 25 (0, 0)) (by (with_reducible repeat (first | refine zL ?_ _ | refine zM ?_ | refine zK ?_ _)); exact BK413.out) NB413_432.out (by simp)); have n4_ := zG.mk (Kd.R_lower (Kd.R_new' ho0 (Kd.R_lt (by (with_reducible repeat (first | apply Kd.R_alloc | apply Kd.R_drewN | apply Kd.R_drew)); exact HO_10.out))) (below_size (by repeat (first | (with_reducible first | exact HB.out | apply zF | apply zC | apply zD | refine zE ?_ (zH.ge HI432.out) | refine zE ?_ GE413.out) | exact HB.out)))); have n5_ := zG.mk (Kd.R_lower (Kd.R_new' ho1 (Kd.R_lt (by (with_reducible repeat (first | apply Kd.R_alloc | apply Kd.R_drewN | apply Kd.R_drew)); exact HO_414002.out))) (below_size (by repeat (first | (with_reducible first | exact HB.out | apply zF | apply zC | apply zD | refine zE ?_ (zH.ge HI432.out) | refine zE ?_ GE413.out) | exact HB.out)))); have n6_ := zG.mk (hb); have n7_ := zG.mk (hi); clear HO_10; clear HO_18; clear HO_414002; clear BK413; clear HB; clear HI432; have HO_10 := n0_; have HO_18 := n1_; have HO_414002 := n2_; have BK413 := n3_; have HO435 := n4_; have HO440 := n5_; have HB := n6_; have HI432 := n7_; clear n0_ n1_ n2_ n3_ n4_ n5_ n6_ n7_; (try clear hb); (try clear hb2); (try clear hk); (try clear hi); (try clear ho0); (try clear ho1)) | ((with_reducible refine gate_dst (N := 21) rfl ?_); (try (refine gate_guard (by rfl) ?_; dsimp only)); refine box_event ?hg (N := 21) ?hd (cs := #[.bool false, .int .i64 0, .slice none 0 0]) (t := 25) ?hr ?_; (case hd => rfl); (case hg => rfl); (case hr => first | (go_simp; done) | (go_simp; rfl)); intro gb444 hg w45 hbox hb; have n0_ := zG.mk (Kd.R_below (by (with_reducible repeat (first | apply Kd.R_alloc | apply Kd.R_drewN | apply Kd.R_drew)); exact HO_10.out) hb); have n1_ := zG.mk (Kd.R_below (by (with_reducible repeat (first | apply Kd.R_alloc | apply Kd.R_drewN | apply Kd.R_drew)); exact HO_18.out) hb); have n2_ := zG.mk (Kd.R_below (by (with_reducible repeat (first | apply Kd.R_alloc | apply Kd.R_drewN | apply Kd.R_drew)); exact HO_414002.out) hb); have n3_ := zG.mk (Kd.R_below (by (with_reducible repeat (first | apply Kd.R_alloc | apply Kd.R_drewN | apply Kd.R_drew)); exact HO435.out) hb); have n4_ := zG.mk (Kd.R_below (by (with_reducible repeat (first | apply Kd.R_alloc | apply Kd.R_drewN | apply Kd.R_drew)); exact HO440.out) hb); have n5_ := zG.mk (blk_below (g := gb413) (o := .cells #[.bool t406, .int .i64 t407, .slice Ao24 t408.length co24] 25 (0, 0)) (by (with_reducible repeat (first | refine zL ?_ _ | refine zM ?_ | refine zK ?_ _)); exact BK413.out) hb); have n6_ := zG.mk (zH.below (by refine zH.as HI432.out ?_; repeat (first | (with_reducible first | exact HI432.out | apply zH.alloc | apply zH.drewN | apply zH.drew | refine zH.farT (t := 25) (b := gb413) ?_ (by decide) (by repeat (first | exact zA.of BK413.out | apply zA.set | apply zA.drewN | apply zA.drew | apply zA.alloc)) _) | exact HI432.out)) hb); have n7_ := zG.mk (below_step (by repeat (first | (with_reducible first | exact HB.out | apply zF | apply zC | apply zD | refine zE ?_ (zH.ge HI432.out) | refine zE ?_ GE413.out) | exact HB.out)) hb); have n8_ := zG.mk (hbox); have n9_ := zG.mk ((by rw [hg]; exact (below_size (by repeat (first | (with_reducible first | exact HB.out | apply zF | apply zC | apply zD | refine zE ?_ (zH.ge HI432.out) | refine zE ?_ GE413.out) | exact HB.out))) : w.heap.size ≤ gb444)); have n10_ := zG.mk ((by rw [hg]; exact (below_size (by repeat (first | (with_reducible first | exact HB.out | apply zF | apply zC | apply zD | refine zE ?_ (zH.ge HI432.out) | refine zE ?_ GE413.out) | exact HB.out))) : w.heap.size ≤ gb444)); have n11_ := zG.mk ((by rw [hg]; exact Nat.ne_of_lt (blk_lt (g := gb413) (o := .cells #[.bool t406, .int .i64 t407, .slice Ao24 t408.length co24] 25 (0, 0)) (by (with_reducible repeat (first | refine zL ?_ _ | refine zM ?_ | refine zK ?_ _)); exact BK413.out)) : gb413 ≠ gb444)); have n12_ := zG.mk ((by rw [hg]; exact Nat.ne_of_gt (blk_lt (g := gb413) (o := .cells #[.bool t406, .int .i64 t407, .slice Ao24 t408.length co24] 25 (0, 0)) (by (with_reducible repeat (first | refine zL ?_ _ | refine zM ?_ | refine zK ?_ _)); exact BK413.out)) : gb444 ≠ gb413)); have n13_ := zG.mk ((by rw [hg]; exact Nat.ne_of_lt (zH.lt (show zH w _ g432 t429 t442 t443 from by repeat (first | (with_reducible first | exact HI432.out | apply zH.alloc | apply zH.drewN | apply zH.drew | refine zH.farT (t := 25) (b := gb413) ?_ (by decide) (by repeat (first | exact zA.of BK413.out | apply zA.set | apply zA.drewN | apply zA.drew | apply zA.alloc)) _) | exact HI432.out))) : g432 ≠ gb444)); have n14_ := zG.mk ((by rw [hg]; exact Nat.ne_of_gt (zH.lt (show zH w _ g432 t429 t442 t443 from by repeat (first | (with_reducible first | exact HI432.out | apply zH.alloc | apply zH.drewN | apply zH.drew | refine zH.farT (t := 25) (b := gb413) ?_ (by decide) (by repeat (first | exact zA.of BK413.out | apply zA.set | apply zA.drewN | apply zA.drew | apply zA.alloc)) _) | exact HI432.out))) : gb444 ≠ g432)); clear HO_10; clear HO_18; clear HO_414002; clear HO435; clear HO440; clear BK413; clear HI432; clear HB; have HO_10 := n0_; have HO_18 := n1_; have HO_414002 := n2_; have HO435 := n3_; have HO440 := n4_; have BK413 := n5_; have HI432 := n6_; have HB := n7_; have BK444 := n8_; have GW444 := n9_; have GE444 := n10_; have NB413_444 := n11_; have NB444_413 := n12_; have NB432_444 := n13_; have NB444_432 := n14_; clear n0_ n1_ n2_ n3_ n4_ n5_ n6_ n7_ n8_ n9_ n10_ n11_ n12_ n13_ n14_; clear hb hbox hg; have hnb46 := NB444_413.out; have hnc46 := NB413_444.out; have hnb47 := NB444_432.out; have hnc47 := NB432_444.out; have hcz48_0 : w45.cell? ⟨gb444, 0, none⟩ = some (.bool false) := (zN BK444.out 0).trans rfl; have hcz48_1 : w45.cell? ⟨gb444, 1, none⟩ = some (.int .i64 0) := (zN BK444.out 1).trans rfl; have hcz48_2 : w45.cell? ⟨gb444, 2, none⟩ = some (.slice none 0 0) := (zN BK444.out 2).trans rfl; have hfz48_0 := zO BK444.out 0; have hfz48_1 := zO BK444.out 1; have hfz48_2 := zO BK444.out 2; obtain ⟨Ao49, co49, eo49⟩ := Kd.R_slice HO440.out; subst eo49; obtain ⟨Ao50, co50, eo50⟩ := Kd.R_slice HO435.out; subst eo50))
                                go_ret
                                exact ⟨by first | rfl | (simp [errW_none, errW_some] <;> rfl) | (simp only [← hji34]; first | rfl | (simp [errW_none, errW_some] <;> rfl)) | (simp [*, errW_none, errW_some] <;> rfl), by repeat (first | (with_reducible first | exact HB.out | apply zF | apply zC | apply zD | refine zE ?_ (zH.ge HI432.out) | refine zE ?_ GE413.out | refine zE ?_ GE444.out) | exact HB.out)⟩
                              · rw [if_neg c40] at H
                                have c40b0 : (t441 == 2) = false := beq_eq_false_iff_ne.mpr c40
                                have c40b1 : (t441 != 2) = true := bne_iff_ne.mpr c40
                                obtain rfl := Option.some.inj H
                                obtain ⟨Ao51, co51, eo51⟩ := Kd.R_slice HO_18.out
                                subst eo51
                                have q52 : ((ji34) : Int) ≤ ((t420.length : Int) : Int) := of_decide_eq_true (by first | (with_reducible assumption) | assumption)
                                obtain ⟨i052, hi052, _, hsz52, _⟩ := info_parts info5
                                have hroom52 : t420.length ≤ co51 := (Kd.R_reads' HO_18.out).2.1
                                have hC52 : Kd.C (Kd.int .u8) _ Ao51 t420.length t420 := (Kd.R_reads' HO_18.out).2.2
                                have hcut52 := cut_to (P := Try.prog) 26 5 .i64 Try.underlying26 hi052 Ao51 t420.length co51 (ji34) (of_decide_eq_true (by first | (with_reducible assumption) | assumption)) q52 hroom52
                                have hr52 := Kd.C_take (m := ((ji34) : Int).toNat) hC52 (by omega)
                                have hy52 : y425.length = ((ji34) : Int).toNat := (by rw [Ny425.out, List.length_take]; omega)
                                rw [← Ny425.out] at hr52
                                rw [← hy52] at hcut52
                                have HR428 := zG.mk hr52
                                have HC428 := zG.mk (show y425.length ≤ co51 from by omega)
                                clear hr52 hC52 hroom52 hi052 hsz52
                                have KY52 := zG.mk hy52
                                clear hy52
                                have KL52 := zG.mk (show ((ji34) : Int).toNat ≤ t420.length from by omega)
                                replace q52 := eq_true q52
                                go_wp2_with (first | ((with_reducible refine gate_callee (f := 12) rfl ?_); refine goesL_ (some 89) rfl rfl Try.func12 (by kernel_rfl) rfl #[.slice Ao51 y425.length co51] rfl (by (try simp only [List.map_toArray, List.map_cons, List.map_nil]); first | done | rfl | (simp only [List.length_drop, List.length_take]; rfl)) ?_; (with_reducible refine (bits_Open.calls _ _ y425 t429 t430 t431 w _ ?side1 ?side2 ?side3 A37.out).mono ?_); (case side1 => repeat (first | (with_reducible first | exact HB.out | apply zF | apply zC | apply zD | refine zE ?_ GE413.out) | exact HB.out)); (case side2 => repeat (first | exact (by repeat (first | (with_reducible exact HR428.out) | (with_reducible refine Kd.C_alloc ?_ _) | (with_reducible refine Kd.C_drewN ?_ _) | (with_reducible refine Kd.C_drew ?_) | exact HR428.out)) | (with_reducible refine Kd.C_alloc ?_ _) | (with_reducible refine Kd.C_drewN ?_ _) | (with_reducible refine Kd.C_drew ?_))); (case side3 => exact HC428.out); rintro e w53 ⟨g432, rfl, hi, hb, hb2⟩; refine ⟨_, rfl, ?_⟩; have n0_ := zG.mk (Kd.R_below (by (with_reducible repeat (first | apply Kd.R_alloc | apply Kd.R_drewN | apply Kd.R_drew)); exact HO_10.out) hb2); have n1_ := zG.mk (Kd.R_below (by (with_reducible repeat (first | apply Kd.R_alloc | apply Kd.R_drewN | apply Kd.R_drew)); exact HO_18.out) hb2); have n2_ := zG.mk (Kd.R_below (by (with_reducible repeat (first | apply Kd.R_alloc | apply Kd.R_drewN | apply Kd.R_drew)); exact HO_414002.out) hb2); have n3_ := zG.mk (blk_below (g := gb413) (o := .cells #[.bool t406, .int .i64 t407, .slice Ao24 t408.length co24] 25 (0, 0)) (by (with_reducible repeat (first | refine zL ?_ _ | refine zM ?_ | refine zK ?_ _)); exact BK413.out) hb2); have n4_ := zG.mk (Kd.C_below (by repeat (first | (with_reducible exact HR428.out) | (with_reducible refine Kd.C_alloc ?_ _) | (with_reducible refine Kd.C_drewN ?_ _) | (with_reducible refine Kd.C_drew ?_) | exact HR428.out)) hb2); have n5_ := zG.mk (hb); have n6_ := zG.mk (hi); have n7_ := zG.mk (zH.ne_blk hi (blk_below (g := gb413) (o := .cells #[.bool t406, .int .i64 t407, .slice Ao24 t408.length co24] 25 (0, 0)) (by (with_reducible repeat (first | refine zL ?_ _ | refine zM ?_ | refine zK ?_ _)); exact BK413.out) hb2) (by decide)); have n8_ := zG.mk (Ne.symm (zH.ne_blk hi (blk_below (g := gb413) (o := .cells #[.bool t406, .int .i64 t407, .slice Ao24 t408.length co24] 25 (0, 0)) (by (with_reducible repeat (first | refine zL ?_ _ | refine zM ?_ | refine zK ?_ _)); exact BK413.out) hb2) (by decide))); clear HO_10; clear HO_18; clear HO_414002; clear BK413; clear HR428; clear HB; have HO_10 := n0_; have HO_18 := n1_; have HO_414002 := n2_; have BK413 := n3_; have HR428 := n4_; have HB := n5_; have HI432 := n6_; have NB432_413 := n7_; have NB413_432 := n8_; clear n0_ n1_ n2_ n3_ n4_ n5_ n6_ n7_ n8_; (try clear hb); (try clear hb2); (try clear hk); (try clear hi)) | ((with_reducible refine gate_callee (f := 14) rfl ?_); refine goesL_ (some 99) rfl rfl Try.func14 (by kernel_rfl) rfl #[.pointer (some ⟨g432, 0, none⟩), .int .i64 (wrap64 ((x10_2.length : Int) + (wrap64 (Int.tmod a1 33)))), .int .i64 (wrap64 (Int.tmod a1 33))] rfl (by (try simp only [List.map_toArray, List.map_cons, List.map_nil]); first | done | rfl | (simp only [List.length_drop, List.length_take]; rfl)) ?_; (with_reducible refine (section_Take.calls kj18 g432 t429 t430 t431 (wrap64 ((x10_2.length : Int) + (wrap64 (Int.tmod a1 33)))) (wrap64 (Int.tmod a1 33)) t433 t436 t437 t438 t441 t442 t443 w _ ?side1 ?side2 A38.out).mono ?_); (case side1 => repeat (first | (with_reducible first | exact HI432.out | apply zH.alloc | apply zH.drewN | apply zH.drew | refine zH.farT (t := 25) (b := gb413) ?_ (by decide) (by repeat (first | exact zA.of BK413.out | apply zA.set | apply zA.drewN | apply zA.drew | apply zA.alloc)) _) | exact HI432.out)); (case side2 => repeat (first | (with_reducible first | exact HB.out | apply zF | apply zC | apply zD | refine zE ?_ (zH.ge HI432.out) | refine zE ?_ GE413.out) | exact HB.out)); rintro e w54 ⟨v434, v439, rfl, ho0, ho1, hi, hb, hk⟩; refine ⟨_, rfl, ?_⟩; have n0_ := zG.mk (Kd.R_mono (Kd.R_told (Kd.R_oldK (zH.apart (show zH w _ g432 t429 t430 t431 from by repeat (first | (with_reducible first | exact HI432.out | apply zH.alloc | apply zH.drewN | apply zH.drew | refine zH.farT (t := 25) (b := gb413) ?_ (by decide) (by repeat (first | exact zA.of BK413.out | apply zA.set | apply zA.drewN | apply zA.drew | apply zA.alloc)) _) | exact HI432.out)) (by (with_reducible repeat (first | apply Kd.R_alloc | apply Kd.R_drewN | apply Kd.R_drew)); exact HO_10.out) (by decide)) hk) (Kd.R_base ho0)) (fun _ h_ => h_.1)); have n1_ := zG.mk (Kd.R_mono (Kd.R_keep (zH.apart (show zH w _ g432 t429 t430 t431 from by repeat (first | (with_reducible first | exact HI432.out | apply zH.alloc | apply zH.drewN | apply zH.drew | refine zH.farT (t := 25) (b := gb413) ?_ (by decide) (by repeat (first | exact zA.of BK413.out | apply zA.set | apply zA.drewN | apply zA.drew | apply zA.alloc)) _) | exact HI432.out)) (by (with_reducible repeat (first | apply Kd.R_alloc | apply Kd.R_drewN | apply Kd.R_drew)); exact HO_18.out) (by decide)) hk (fun _ h => h.2)) (fun _ h => h.1)); have n2_ := zG.mk (Kd.R_mono (Kd.R_told (Kd.R_oldK (zH.apart (show zH w _ g432 t429 t430 t431 from by repeat (first | (with_reducible first | exact HI432.out | apply zH.alloc | apply zH.drewN | apply zH.drew | refine zH.farT (t := 25) (b := gb413) ?_ (by decide) (by repeat (first | exact zA.of BK413.out | apply zA.set | apply zA.drewN | apply zA.drew | apply zA.alloc)) _) | exact HI432.out)) (by (with_reducible repeat (first | apply Kd.R_alloc | apply Kd.R_drewN | apply Kd.R_drew)); exact HO_414002.out) (by decide)) hk) (Kd.R_base ho1)) (fun _ h_ => h_.1)); have n3_ := zG.mk (zJ.blk hk (g' := gb413) (o := .cells #[.bool t406, .int .i64 t407, .slice Ao24 t408.length co24] 25 (0, 0)) (by (with_reducible repeat (first | refine zL ?_ _ | refine zM ?_ | refine zK ?_ _)); exact BK413.out) NB413_432.out (by simp)); have n4_ := zG.mk (Kd.R_lower (Kd.R_new' ho0 (Kd.R_lt (by (with_reducible repeat (first | apply Kd.R_alloc | apply Kd.R_drewN | apply Kd.R_drew)); exact HO_10.out))) (below_size (by repeat (first | (with_reducible first | exact HB.out | apply zF | apply zC | apply zD | refine zE ?_ (zH.ge HI432.out) | refine zE ?_ GE413.out) | exact HB.out)))); have n5_ := zG.mk (Kd.R_lower (Kd.R_new' ho1 (Kd.R_lt (by (with_reducible repeat (first | apply Kd.R_alloc | apply Kd.R_drewN | apply Kd.R_drew)); exact HO_414002.out))) (below_size (by repeat (first | (with_reducible first | exact HB.out | apply zF | apply zC | apply zD | refine zE ?_ (zH.ge HI432.out) | refine zE ?_ GE413.out) | exact HB.out)))); have n6_ := zG.mk (hb); have n7_ := zG.mk (hi); clear HO_10; clear HO_18; clear HO_414002; clear BK413; clear HB; clear HI432; have HO_10 := n0_; have HO_18 := n1_; have HO_414002 := n2_; have BK413 := n3_; have HO435 := n4_; have HO440 := n5_; have HB := n6_; have HI432 := n7_; clear n0_ n1_ n2_ n3_ n4_ n5_ n6_ n7_; (try clear hb); (try clear hb2); (try clear hk); (try clear hi); (try clear ho0); (try clear ho1)) | ((with_reducible refine gate_dst (N := 21) rfl ?_); (try (refine gate_guard (by rfl) ?_; dsimp only)); refine box_event ?hg (N := 21) ?hd (cs := #[.bool false, .int .i64 0, .slice none 0 0]) (t := 25) ?hr ?_; (case hd => rfl); (case hg => rfl); (case hr => first | (go_simp; done) | (go_simp; rfl)); intro gb444 hg w55 hbox hb; have n0_ := zG.mk (Kd.R_below (by (with_reducible repeat (first | apply Kd.R_alloc | apply Kd.R_drewN | apply Kd.R_drew)); exact HO_10.out) hb); have n1_ := zG.mk (Kd.R_below (by (with_reducible repeat (first | apply Kd.R_alloc | apply Kd.R_drewN | apply Kd.R_drew)); exact HO_18.out) hb); have n2_ := zG.mk (Kd.R_below (by (with_reducible repeat (first | apply Kd.R_alloc | apply Kd.R_drewN | apply Kd.R_drew)); exact HO_414002.out) hb); have n3_ := zG.mk (Kd.R_below (by (with_reducible repeat (first | apply Kd.R_alloc | apply Kd.R_drewN | apply Kd.R_drew)); exact HO435.out) hb); have n4_ := zG.mk (Kd.R_below (by (with_reducible repeat (first | apply Kd.R_alloc | apply Kd.R_drewN | apply Kd.R_drew)); exact HO440.out) hb); have n5_ := zG.mk (blk_below (g := gb413) (o := .cells #[.bool t406, .int .i64 t407, .slice Ao24 t408.length co24] 25 (0, 0)) (by (with_reducible repeat (first | refine zL ?_ _ | refine zM ?_ | refine zK ?_ _)); exact BK413.out) hb); have n6_ := zG.mk (zH.below (by refine zH.as HI432.out ?_; repeat (first | (with_reducible first | exact HI432.out | apply zH.alloc | apply zH.drewN | apply zH.drew | refine zH.farT (t := 25) (b := gb413) ?_ (by decide) (by repeat (first | exact zA.of BK413.out | apply zA.set | apply zA.drewN | apply zA.drew | apply zA.alloc)) _) | exact HI432.out)) hb); have n7_ := zG.mk (below_step (by repeat (first | (with_reducible first | exact HB.out | apply zF | apply zC | apply zD | refine zE ?_ (zH.ge HI432.out) | refine zE ?_ GE413.out) | exact HB.out)) hb); have n8_ := zG.mk (hbox); have n9_ := zG.mk ((by rw [hg]; exact (below_size (by repeat (first | (with_reducible first | exact HB.out | apply zF | apply zC | apply zD | refine zE ?_ (zH.ge HI432.out) | refine zE ?_ GE413.out) | exact HB.out))) : w.heap.size ≤ gb444)); have n10_ := zG.mk ((by rw [hg]; exact (below_size (by repeat (first | (with_reducible first | exact HB.out | apply zF | apply zC | apply zD | refine zE ?_ (zH.ge HI432.out) | refine zE ?_ GE413.out) | exact HB.out))) : w.heap.size ≤ gb444)); have n11_ := zG.mk ((by rw [hg]; exact Nat.ne_of_lt (blk_lt (g := gb413) (o := .cells #[.bool t406, .int .i64 t407, .slice Ao24 t408.length co24] 25 (0, 0)) (by (with_reducible repeat (first | refine zL ?_ _ | refine zM ?_ | refine zK ?_ _)); exact BK413.out)) : gb413 ≠ gb444)); have n12_ := zG.mk ((by rw [hg]; exact Nat.ne_of_gt (blk_lt (g := gb413) (o := .cells #[.bool t406, .int .i64 t407, .slice Ao24 t408.length co24] 25 (0, 0)) (by (with_reducible repeat (first | refine zL ?_ _ | refine zM ?_ | refine zK ?_ _)); exact BK413.out)) : gb444 ≠ gb413)); have n13_ := zG.mk ((by rw [hg]; exact Nat.ne_of_lt (zH.lt (show zH w _ g432 t429 t442 t443 from by repeat (first | (with_reducible first | exact HI432.out | apply zH.alloc | apply zH.drewN | apply zH.drew | refine zH.farT (t := 25) (b := gb413) ?_ (by decide) (by repeat (first | exact zA.of BK413.out | apply zA.set | apply zA.drewN | apply zA.drew | apply zA.alloc)) _) | exact HI432.out))) : g432 ≠ gb444)); have n14_ := zG.mk ((by rw [hg]; exact Nat.ne_of_gt (zH.lt (show zH w _ g432 t429 t442 t443 from by repeat (first | (with_reducible first | exact HI432.out | apply zH.alloc | apply zH.drewN | apply zH.drew | refine zH.farT (t := 25) (b := gb413) ?_ (by decide) (by repeat (first | exact zA.of BK413.out | apply zA.set | apply zA.drewN | apply zA.drew | apply zA.alloc)) _) | exact HI432.out))) : gb444 ≠ g432)); clear HO_10; clear HO_18; clear HO_414002; clear HO435; clear HO440; clear BK413; clear HI432; clear HB; have HO_10 := n0_; have HO_18 := n1_; have HO_414002 := n2_; have HO435 := n3_; have HO440 := n4_; have BK413 := n5_; have HI432 := n6_; have HB := n7_; have BK444 := n8_; have GW444 := n9_; have GE444 := n10_; have NB413_444 := n11_; have NB444_413 := n12_; have NB432_444 := n13_; have NB444_432 := n14_; clear n0_ n1_ n2_ n3_ n4_ n5_ n6_ n7_ n8_ n9_ n10_ n11_ n12_ n13_ n14_; clear hb hbox hg; have hnb56 := NB444_413.out; have hnc56 := NB413_444.out; have hnb57 := NB444_432.out; have hnc57 := NB432_444.out; have hcz58_0 : w55.cell? ⟨gb444, 0, none⟩ = some (.bool false) := (zN BK444.out 0).trans rfl; have hcz58_1 : w55.cell? ⟨gb444, 1, none⟩ = some (.int .i64 0) := (zN BK444.out 1).trans rfl; have hcz58_2 : w55.cell? ⟨gb444, 2, none⟩ = some (.slice none 0 0) := (zN BK444.out 2).trans rfl; have hfz58_0 := zO BK444.out 0; have hfz58_1 := zO BK444.out 1; have hfz58_2 := zO BK444.out 2; obtain ⟨Ao59, co59, eo59⟩ := Kd.R_slice HO440.out; subst eo59))
                                go_ret
                                exact ⟨by first | rfl | (simp [errW_none, errW_some] <;> rfl) | (simp only [← hji34]; first | rfl | (simp [errW_none, errW_some] <;> rfl)) | (simp [*, errW_none, errW_some] <;> rfl), by repeat (first | (with_reducible first | exact HB.out | apply zF | apply zC | apply zD | refine zE ?_ (zH.ge HI432.out) | refine zE ?_ GE413.out | refine zE ?_ GE444.out) | exact HB.out)⟩
                            · replace c39 := Bool.eq_false_iff.mpr c39
                              subst c39
                              have H1 : (some false) = some r := by rw [if_neg (show ¬ (false = true) by decide)] at H; exact H
                              clear H
                              have H := H1
                              clear H1
                              obtain rfl := Option.some.inj H
                              obtain ⟨Ao60, co60, eo60⟩ := Kd.R_slice HO_18.out
                              subst eo60
                              have q61 : ((ji34) : Int) ≤ ((t420.length : Int) : Int) := of_decide_eq_true (by first | (with_reducible assumption) | assumption)
                              obtain ⟨i061, hi061, _, hsz61, _⟩ := info_parts info5
                              have hroom61 : t420.length ≤ co60 := (Kd.R_reads' HO_18.out).2.1
                              have hC61 : Kd.C (Kd.int .u8) _ Ao60 t420.length t420 := (Kd.R_reads' HO_18.out).2.2
                              have hcut61 := cut_to (P := Try.prog) 26 5 .i64 Try.underlying26 hi061 Ao60 t420.length co60 (ji34) (of_decide_eq_true (by first | (with_reducible assumption) | assumption)) q61 hroom61
                              have hr61 := Kd.C_take (m := ((ji34) : Int).toNat) hC61 (by omega)
                              have hy61 : y425.length = ((ji34) : Int).toNat := (by rw [Ny425.out, List.length_take]; omega)
                              rw [← Ny425.out] at hr61
                              rw [← hy61] at hcut61
                              have HR428 := zG.mk hr61
                              have HC428 := zG.mk (show y425.length ≤ co60 from by omega)
                              clear hr61 hC61 hroom61 hi061 hsz61
                              have KY61 := zG.mk hy61
                              clear hy61
                              have KL61 := zG.mk (show ((ji34) : Int).toNat ≤ t420.length from by omega)
                              replace q61 := eq_true q61
                              go_wp2_with (first | ((with_reducible refine gate_callee (f := 12) rfl ?_); refine goesL_ (some 89) rfl rfl Try.func12 (by kernel_rfl) rfl #[.slice Ao60 y425.length co60] rfl (by (try simp only [List.map_toArray, List.map_cons, List.map_nil]); first | done | rfl | (simp only [List.length_drop, List.length_take]; rfl)) ?_; (with_reducible refine (bits_Open.calls _ _ y425 t429 t430 t431 w _ ?side1 ?side2 ?side3 A37.out).mono ?_); (case side1 => repeat (first | (with_reducible first | exact HB.out | apply zF | apply zC | apply zD | refine zE ?_ GE413.out) | exact HB.out)); (case side2 => repeat (first | exact (by repeat (first | (with_reducible exact HR428.out) | (with_reducible refine Kd.C_alloc ?_ _) | (with_reducible refine Kd.C_drewN ?_ _) | (with_reducible refine Kd.C_drew ?_) | exact HR428.out)) | (with_reducible refine Kd.C_alloc ?_ _) | (with_reducible refine Kd.C_drewN ?_ _) | (with_reducible refine Kd.C_drew ?_))); (case side3 => exact HC428.out); rintro e w62 ⟨g432, rfl, hi, hb, hb2⟩; refine ⟨_, rfl, ?_⟩; have n0_ := zG.mk (Kd.R_below (by (with_reducible repeat (first | apply Kd.R_alloc | apply Kd.R_drewN | apply Kd.R_drew)); exact HO_10.out) hb2); have n1_ := zG.mk (Kd.R_below (by (with_reducible repeat (first | apply Kd.R_alloc | apply Kd.R_drewN | apply Kd.R_drew)); exact HO_18.out) hb2); have n2_ := zG.mk (Kd.R_below (by (with_reducible repeat (first | apply Kd.R_alloc | apply Kd.R_drewN | apply Kd.R_drew)); exact HO_414002.out) hb2); have n3_ := zG.mk (blk_below (g := gb413) (o := .cells #[.bool t406, .int .i64 t407, .slice Ao24 t408.length co24] 25 (0, 0)) (by (with_reducible repeat (first | refine zL ?_ _ | refine zM ?_ | refine zK ?_ _)); exact BK413.out) hb2); have n4_ := zG.mk (Kd.C_below (by repeat (first | (with_reducible exact HR428.out) | (with_reducible refine Kd.C_alloc ?_ _) | (with_reducible refine Kd.C_drewN ?_ _) | (with_reducible refine Kd.C_drew ?_) | exact HR428.out)) hb2); have n5_ := zG.mk (hb); have n6_ := zG.mk (hi); have n7_ := zG.mk (zH.ne_blk hi (blk_below (g := gb413) (o := .cells #[.bool t406, .int .i64 t407, .slice Ao24 t408.length co24] 25 (0, 0)) (by (with_reducible repeat (first | refine zL ?_ _ | refine zM ?_ | refine zK ?_ _)); exact BK413.out) hb2) (by decide)); have n8_ := zG.mk (Ne.symm (zH.ne_blk hi (blk_below (g := gb413) (o := .cells #[.bool t406, .int .i64 t407, .slice Ao24 t408.length co24] 25 (0, 0)) (by (with_reducible repeat (first | refine zL ?_ _ | refine zM ?_ | refine zK ?_ _)); exact BK413.out) hb2) (by decide))); clear HO_10; clear HO_18; clear HO_414002; clear BK413; clear HR428; clear HB; have HO_10 := n0_; have HO_18 := n1_; have HO_414002 := n2_; have BK413 := n3_; have HR428 := n4_; have HB := n5_; have HI432 := n6_; have NB432_413 := n7_; have NB413_432 := n8_; clear n0_ n1_ n2_ n3_ n4_ n5_ n6_ n7_ n8_; (try clear hb); (try clear hb2); (try clear hk); (try clear hi)) | ((with_reducible refine gate_callee (f := 14) rfl ?_); refine goesL_ (some 99) rfl rfl Try.func14 (by kernel_rfl) rfl #[.pointer (some ⟨g432, 0, none⟩), .int .i64 (wrap64 ((x10_2.length : Int) + (wrap64 (Int.tmod a1 33)))), .int .i64 (wrap64 (Int.tmod a1 33))] rfl (by (try simp only [List.map_toArray, List.map_cons, List.map_nil]); first | done | rfl | (simp only [List.length_drop, List.length_take]; rfl)) ?_; (with_reducible refine (section_Take.calls kj18 g432 t429 t430 t431 (wrap64 ((x10_2.length : Int) + (wrap64 (Int.tmod a1 33)))) (wrap64 (Int.tmod a1 33)) t433 t436 t437 t438 t441 t442 t443 w _ ?side1 ?side2 A38.out).mono ?_); (case side1 => repeat (first | (with_reducible first | exact HI432.out | apply zH.alloc | apply zH.drewN | apply zH.drew | refine zH.farT (t := 25) (b := gb413) ?_ (by decide) (by repeat (first | exact zA.of BK413.out | apply zA.set | apply zA.drewN | apply zA.drew | apply zA.alloc)) _) | exact HI432.out)); (case side2 => repeat (first | (with_reducible first | exact HB.out | apply zF | apply zC | apply zD | refine zE ?_ (zH.ge HI432.out) | refine zE ?_ GE413.out) | exact HB.out)); rintro e w63 ⟨v434, v439, rfl, ho0, ho1, hi, hb, hk⟩; refine ⟨_, rfl, ?_⟩; have n0_ := zG.mk (Kd.R_mono (Kd.R_told (Kd.R_oldK (zH.apart (show zH w _ g432 t429 t430 t431 from by repeat (first | (with_reducible first | exact HI432.out | apply zH.alloc | apply zH.drewN | apply zH.drew | refine zH.farT (t := 25) (b := gb413) ?_ (by decide) (by repeat (first | exact zA.of BK413.out | apply zA.set | apply zA.drewN | apply zA.drew | apply zA.alloc)) _) | exact HI432.out)) (by (with_reducible repeat (first | apply Kd.R_alloc | apply Kd.R_drewN | apply Kd.R_drew)); exact HO_10.out) (by decide)) hk) (Kd.R_base ho0)) (fun _ h_ => h_.1)); have n1_ := zG.mk (Kd.R_mono (Kd.R_keep (zH.apart (show zH w _ g432 t429 t430 t431 from by repeat (first | (with_reducible first | exact HI432.out | apply zH.alloc | apply zH.drewN | apply zH.drew | refine zH.farT (t := 25) (b := gb413) ?_ (by decide) (by repeat (first | exact zA.of BK413.out | apply zA.set | apply zA.drewN | apply zA.drew | apply zA.alloc)) _) | exact HI432.out)) (by (with_reducible repeat (first | apply Kd.R_alloc | apply Kd.R_drewN | apply Kd.R_drew)); exact HO_18.out) (by decide)) hk (fun _ h => h.2)) (fun _ h => h.1)); have n2_ := zG.mk (Kd.R_mono (Kd.R_told (Kd.R_oldK (zH.apart (show zH w _ g432 t429 t430 t431 from by repeat (first | (with_reducible first | exact HI432.out | apply zH.alloc | apply zH.drewN | apply zH.drew | refine zH.farT (t := 25) (b := gb413) ?_ (by decide) (by repeat (first | exact zA.of BK413.out | apply zA.set | apply zA.drewN | apply zA.drew | apply zA.alloc)) _) | exact HI432.out)) (by (with_reducible repeat (first | apply Kd.R_alloc | apply Kd.R_drewN | apply Kd.R_drew)); exact HO_414002.out) (by decide)) hk) (Kd.R_base ho1)) (fun _ h_ => h_.1)); have n3_ := zG.mk (zJ.blk hk (g' := gb413) (o := .cells #[.bool t406, .int .i64 t407, .slice Ao24 t408.length co24] 25 (0, 0)) (by (with_reducible repeat (first | refine zL ?_ _ | refine zM ?_ | refine zK ?_ _)); exact BK413.out) NB413_432.out (by simp)); have n4_ := zG.mk (Kd.R_lower (Kd.R_new' ho0 (Kd.R_lt (by (with_reducible repeat (first | apply Kd.R_alloc | apply Kd.R_drewN | apply Kd.R_drew)); exact HO_10.out))) (below_size (by repeat (first | (with_reducible first | exact HB.out | apply zF | apply zC | apply zD | refine zE ?_ (zH.ge HI432.out) | refine zE ?_ GE413.out) | exact HB.out)))); have n5_ := zG.mk (Kd.R_lower (Kd.R_new' ho1 (Kd.R_lt (by (with_reducible repeat (first | apply Kd.R_alloc | apply Kd.R_drewN | apply Kd.R_drew)); exact HO_414002.out))) (below_size (by repeat (first | (with_reducible first | exact HB.out | apply zF | apply zC | apply zD | refine zE ?_ (zH.ge HI432.out) | refine zE ?_ GE413.out) | exact HB.out)))); have n6_ := zG.mk (hb); have n7_ := zG.mk (hi); clear HO_10; clear HO_18; clear HO_414002; clear BK413; clear HB; clear HI432; have HO_10 := n0_; have HO_18 := n1_; have HO_414002 := n2_; have BK413 := n3_; have HO435 := n4_; have HO440 := n5_; have HB := n6_; have HI432 := n7_; clear n0_ n1_ n2_ n3_ n4_ n5_ n6_ n7_; (try clear hb); (try clear hb2); (try clear hk); (try clear hi); (try clear ho0); (try clear ho1)) | ((with_reducible refine gate_dst (N := 21) rfl ?_); (try (refine gate_guard (by rfl) ?_; dsimp only)); refine box_event ?hg (N := 21) ?hd (cs := #[.bool false, .int .i64 0, .slice none 0 0]) (t := 25) ?hr ?_; (case hd => rfl); (case hg => rfl); (case hr => first | (go_simp; done) | (go_simp; rfl)); intro gb444 hg w64 hbox hb; have n0_ := zG.mk (Kd.R_below (by (with_reducible repeat (first | apply Kd.R_alloc | apply Kd.R_drewN | apply Kd.R_drew)); exact HO_10.out) hb); have n1_ := zG.mk (Kd.R_below (by (with_reducible repeat (first | apply Kd.R_alloc | apply Kd.R_drewN | apply Kd.R_drew)); exact HO_18.out) hb); have n2_ := zG.mk (Kd.R_below (by (with_reducible repeat (first | apply Kd.R_alloc | apply Kd.R_drewN | apply Kd.R_drew)); exact HO_414002.out) hb); have n3_ := zG.mk (Kd.R_below (by (with_reducible repeat (first | apply Kd.R_alloc | apply Kd.R_drewN | apply Kd.R_drew)); exact HO435.out) hb); have n4_ := zG.mk (Kd.R_below (by (with_reducible repeat (first | apply Kd.R_alloc | apply Kd.R_drewN | apply Kd.R_drew)); exact HO440.out) hb); have n5_ := zG.mk (blk_below (g := gb413) (o := .cells #[.bool t406, .int .i64 t407, .slice Ao24 t408.length co24] 25 (0, 0)) (by (with_reducible repeat (first | refine zL ?_ _ | refine zM ?_ | refine zK ?_ _)); exact BK413.out) hb); have n6_ := zG.mk (zH.below (by refine zH.as HI432.out ?_; repeat (first | (with_reducible first | exact HI432.out | apply zH.alloc | apply zH.drewN | apply zH.drew | refine zH.farT (t := 25) (b := gb413) ?_ (by decide) (by repeat (first | exact zA.of BK413.out | apply zA.set | apply zA.drewN | apply zA.drew | apply zA.alloc)) _) | exact HI432.out)) hb); have n7_ := zG.mk (below_step (by repeat (first | (with_reducible first | exact HB.out | apply zF | apply zC | apply zD | refine zE ?_ (zH.ge HI432.out) | refine zE ?_ GE413.out) | exact HB.out)) hb); have n8_ := zG.mk (hbox); have n9_ := zG.mk ((by rw [hg]; exact (below_size (by repeat (first | (with_reducible first | exact HB.out | apply zF | apply zC | apply zD | refine zE ?_ (zH.ge HI432.out) | refine zE ?_ GE413.out) | exact HB.out))) : w.heap.size ≤ gb444)); have n10_ := zG.mk ((by rw [hg]; exact (below_size (by repeat (first | (with_reducible first | exact HB.out | apply zF | apply zC | apply zD | refine zE ?_ (zH.ge HI432.out) | refine zE ?_ GE413.out) | exact HB.out))) : w.heap.size ≤ gb444)); have n11_ := zG.mk ((by rw [hg]; exact Nat.ne_of_lt (blk_lt (g := gb413) (o := .cells #[.bool t406, .int .i64 t407, .slice Ao24 t408.length co24] 25 (0, 0)) (by (with_reducible repeat (first | refine zL ?_ _ | refine zM ?_ | refine zK ?_ _)); exact BK413.out)) : gb413 ≠ gb444)); have n12_ := zG.mk ((by rw [hg]; exact Nat.ne_of_gt (blk_lt (g := gb413) (o := .cells #[.bool t406, .int .i64 t407, .slice Ao24 t408.length co24] 25 (0, 0)) (by (with_reducible repeat (first | refine zL ?_ _ | refine zM ?_ | refine zK ?_ _)); exact BK413.out)) : gb444 ≠ gb413)); have n13_ := zG.mk ((by rw [hg]; exact Nat.ne_of_lt (zH.lt (show zH w _ g432 t429 t442 t443 from by repeat (first | (with_reducible first | exact HI432.out | apply zH.alloc | apply zH.drewN | apply zH.drew | refine zH.farT (t := 25) (b := gb413) ?_ (by decide) (by repeat (first | exact zA.of BK413.out | apply zA.set | apply zA.drewN | apply zA.drew | apply zA.alloc)) _) | exact HI432.out))) : g432 ≠ gb444)); have n14_ := zG.mk ((by rw [hg]; exact Nat.ne_of_gt (zH.lt (show zH w _ g432 t429 t442 t443 from by repeat (first | (with_reducible first | exact HI432.out | apply zH.alloc | apply zH.drewN | apply zH.drew | refine zH.farT (t := 25) (b := gb413) ?_ (by decide) (by repeat (first | exact zA.of BK413.out | apply zA.set | apply zA.drewN | apply zA.drew | apply zA.alloc)) _) | exact HI432.out))) : gb444 ≠ g432)); clear HO_10; clear HO_18; clear HO_414002; clear HO435; clear HO440; clear BK413; clear HI432; clear HB; have HO_10 := n0_; have HO_18 := n1_; have HO_414002 := n2_; have HO435 := n3_; have HO440 := n4_; have BK413 := n5_; have HI432 := n6_; have HB := n7_; have BK444 := n8_; have GW444 := n9_; have GE444 := n10_; have NB413_444 := n11_; have NB444_413 := n12_; have NB432_444 := n13_; have NB444_432 := n14_; clear n0_ n1_ n2_ n3_ n4_ n5_ n6_ n7_ n8_ n9_ n10_ n11_ n12_ n13_ n14_; clear hb hbox hg; have hnb65 := NB444_413.out; have hnc65 := NB413_444.out; have hnb66 := NB444_432.out; have hnc66 := NB432_444.out; have hcz67_0 : w64.cell? ⟨gb444, 0, none⟩ = some (.bool false) := (zN BK444.out 0).trans rfl; have hcz67_1 : w64.cell? ⟨gb444, 1, none⟩ = some (.int .i64 0) := (zN BK444.out 1).trans rfl; have hcz67_2 : w64.cell? ⟨gb444, 2, none⟩ = some (.slice none 0 0) := (zN BK444.out 2).trans rfl; have hfz67_0 := zO BK444.out 0; have hfz67_1 := zO BK444.out 1; have hfz67_2 := zO BK444.out 2; obtain ⟨Ao68, co68, eo68⟩ := Kd.R_slice HO440.out; subst eo68))
                              go_ret
                              exact ⟨by first | rfl | (simp [errW_none, errW_some] <;> rfl) | (simp only [← hji34]; first | rfl | (simp [errW_none, errW_some] <;> rfl)) | (simp [*, errW_none, errW_some] <;> rfl), by repeat (first | (with_reducible first | exact HB.out | apply zF | apply zC | apply zD | refine zE ?_ (zH.ge HI432.out) | refine zE ?_ GE413.out | refine zE ?_ GE444.out) | exact HB.out)⟩
                          · rw [if_neg c36] at H
                            exact absurd H (by simp)
                        · rw [if_neg c35] at H
                          exact absurd H (by simp)
              · rw [if_neg c16] at H
                have c16b0 : (t412 == 0) = false := beq_eq_false_iff_ne.mpr c16
                have c16b1 : (t412 != 0) = true := bne_iff_ne.mpr c16
                obtain rfl := Option.some.inj H
                obtain ⟨Ao69, co69, eo69⟩ := Kd.R_slice HO_10.out
                subst eo69
                go_wp2_with (first | ((with_reducible refine gate_callee (f := 18) rfl ?_); refine goesL_ (some 57) rfl rfl Try.func18 (by kernel_rfl) rfl #[.slice Ao69 x10_2.length co69, .int .i64 (wrap64 (Int.tmod a1 33)), .int .i64 (wrap64 (Int.tmod a2 9)), .bool true] rfl (by (try simp only [List.map_toArray, List.map_cons, List.map_nil]); first | done | rfl | (simp only [List.length_drop, List.length_take]; rfl)) ?_; (with_reducible refine (parts_Best.calls _ _ x10_2 (wrap64 (Int.tmod a1 33)) (wrap64 (Int.tmod a2 9)) true t406 t407 t408 t411 t412 _ ?side1 ?side2 A14.out).mono ?_); (case side1 => repeat (first | exact (Kd.R_reads' HO_10.out).2.2 | (with_reducible refine Kd.C_alloc ?_ _) | (with_reducible refine Kd.C_drewN ?_ _) | (with_reducible refine Kd.C_drew ?_))); (case side2 => exact (Kd.R_reads' HO_10.out).2.1); rintro e w70 ⟨v409, rfl, ho0, hb⟩; refine ⟨_, rfl, ?_⟩; have n0_ := zG.mk (Kd.R_below (by (with_reducible repeat (first | apply Kd.R_alloc | apply Kd.R_drewN | apply Kd.R_drew)); exact HO_10.out) hb); have n1_ := zG.mk (Kd.R_lower ho0 (below_size (by repeat (first | (with_reducible first | exact HB.out | apply zF | apply zC | apply zD) | exact HB.out)))); have n2_ := zG.mk (below_step (by repeat (first | (with_reducible first | exact HB.out | apply zF | apply zC | apply zD) | exact HB.out)) hb); clear HO_10; clear HB; have HO_10 := n0_; have HO410 := n1_; have HB := n2_; clear n0_ n1_ n2_; (try clear hb); (try clear hb2); (try clear hk); (try clear hi); (try clear ho0)) | ((with_reducible refine gate_dst (N := 13) rfl ?_); (try (refine gate_guard (by rfl) ?_; dsimp only)); refine box_event ?hg (N := 13) ?hd (cs := #[.bool false, .int .i64 0, .slice none 0 0]) (t := 25) ?hr ?_; (case hd => rfl); (case hg => rfl); (case hr => first | (go_simp; done) | (go_simp; rfl)); intro gb413 hg w71 hbox hb; have n0_ := zG.mk (Kd.R_below (by (with_reducible repeat (first | apply Kd.R_alloc | apply Kd.R_drewN | apply Kd.R_drew)); exact HO_10.out) hb); have n1_ := zG.mk (Kd.R_below (by (with_reducible repeat (first | apply Kd.R_alloc | apply Kd.R_drewN | apply Kd.R_drew)); exact HO410.out) hb); have n2_ := zG.mk (below_step (by repeat (first | (with_reducible first | exact HB.out | apply zF | apply zC | apply zD) | exact HB.out)) hb); have n3_ := zG.mk (hbox); have n4_ := zG.mk ((by rw [hg]; exact (below_size (by repeat (first | (with_reducible first | exact HB.out | apply zF | apply zC | apply zD) | exact HB.out))) : w.heap.size ≤ gb413)); have n5_ := zG.mk ((by rw [hg]; exact (below_size (by repeat (first | (with_reducible first | exact HB.out | apply zF | apply zC | apply zD) | exact HB.out))) : w.heap.size ≤ gb413)); clear HO_10; clear HO410; clear HB; have HO_10 := n0_; have HO410 := n1_; have HB := n2_; have BK413 := n3_; have GW413 := n4_; have GE413 := n5_; clear n0_ n1_ n2_ n3_ n4_ n5_; clear hb hbox hg; have hcz72_0 : w71.cell? ⟨gb413, 0, none⟩ = some (.bool false) := (zN BK413.out 0).trans rfl; have hcz72_1 : w71.cell? ⟨gb413, 1, none⟩ = some (.int .i64 0) := (zN BK413.out 1).trans rfl; have hcz72_2 : w71.cell? ⟨gb413, 2, none⟩ = some (.slice none 0 0) := (zN BK413.out 2).trans rfl; have hfz72_0 := zO BK413.out 0; have hfz72_1 := zO BK413.out 1; have hfz72_2 := zO BK413.out 2; obtain ⟨Ao73, co73, eo73⟩ := Kd.R_slice HO410.out; subst eo73) | ((with_reducible refine gate_callee (f := 8) rfl ?_); refine goesL_ (some 61) rfl rfl Try.func8 (by kernel_rfl) rfl #[] rfl (by (try simp only [List.map_toArray, List.map_cons, List.map_nil]); first | done | rfl | (simp only [List.length_drop, List.length_take]; rfl)) ?_; (with_reducible refine (bits_New.calls  t414 t415 w _ ?side1 A15.out).mono ?_); (case side1 => repeat (first | (with_reducible first | exact HB.out | apply zF | apply zC | apply zD | refine zE ?_ GE413.out) | exact HB.out)); rintro e w74 ⟨g416, rfl, hi, hb, hb2⟩; refine ⟨_, rfl, ?_⟩; have n0_ := zG.mk (Kd.R_below (by (with_reducible repeat (first | apply Kd.R_alloc | apply Kd.R_drewN | apply Kd.R_drew)); exact (Kd.R_mono (Kd.R_far (p := ⟨gb413, 2, none⟩) (Kd.R_far (p := ⟨gb413, 1, none⟩) (Kd.R_far (p := ⟨gb413, 0, none⟩) (Kd.R_types HO_10.out BK413.out (by decide)) (fun _ hk => hk.2) (.bool t406)) (fun _ hk => hk.2) (.int .i64 t407)) (fun _ hk => hk.2) (.slice Ao73 t408.length co73)) (fun _ h_ => h_.1))) hb2); have n1_ := zG.mk (Kd.R_below (by (with_reducible repeat (first | apply Kd.R_alloc | apply Kd.R_drewN | apply Kd.R_drew)); exact (Kd.R_mono (Kd.R_far (p := ⟨gb413, 2, none⟩) (Kd.R_far (p := ⟨gb413, 1, none⟩) (Kd.R_far (p := ⟨gb413, 0, none⟩) (Kd.R_types HO410.out BK413.out (by decide)) (fun _ hk => hk.2) (.bool t406)) (fun _ hk => hk.2) (.int .i64 t407)) (fun _ hk => hk.2) (.slice Ao73 t408.length co73)) (fun _ h_ => h_.1))) hb2); have n2_ := zG.mk (blk_below (g := gb413) (o := .cells #[.bool t406, .int .i64 t407, .slice Ao73 t408.length co73] 25 (0, 0)) (by (with_reducible repeat (first | refine zL ?_ _ | refine zM ?_ | refine zK ?_ _)); refine blk_put (cs := #[.bool t406, .int .i64 t407, .slice none 0 0]) ?_ 2 _ rfl; (with_reducible repeat (first | refine zL ?_ _ | refine zM ?_ | refine zK ?_ _)); refine blk_put (cs := #[.bool t406, .int .i64 0, .slice none 0 0]) ?_ 1 _ rfl; (with_reducible repeat (first | refine zL ?_ _ | refine zM ?_ | refine zK ?_ _)); refine blk_put (cs := #[.bool false, .int .i64 0, .slice none 0 0]) ?_ 0 _ rfl; (with_reducible repeat (first | refine zL ?_ _ | refine zM ?_ | refine zK ?_ _)); exact BK413.out) hb2); have n3_ := zG.mk (hb); have n4_ := zG.mk (hi); have n5_ := zG.mk (zI.ne_blk hi (blk_below (g := gb413) (o := .cells #[.bool t406, .int .i64 t407, .slice Ao73 t408.length co73] 25 (0, 0)) (by (with_reducible repeat (first | refine zL ?_ _ | refine zM ?_ | refine zK ?_ _)); refine blk_put (cs := #[.bool t406, .int .i64 t407, .slice none 0 0]) ?_ 2 _ rfl; (with_reducible repeat (first | refine zL ?_ _ | refine zM ?_ | refine zK ?_ _)); refine blk_put (cs := #[.bool t406, .int .i64 0, .slice none 0 0]) ?_ 1 _ rfl; (with_reducible repeat (first | refine zL ?_ _ | refine zM ?_ | refine zK ?_ _)); refine blk_put (cs := #[.bool false, .int .i64 0, .slice none 0 0]) ?_ 0 _ rfl; (with_reducible repeat (first | refine zL ?_ _ | refine zM ?_ | refine zK ?_ _)); exact BK413.out) hb2) (by decide)); have n6_ := zG.mk (Ne.symm (zI.ne_blk hi (blk_below (g := gb413) (o := .cells #[.bool t406, .int .i64 t407, .slice Ao73 t408.length co73] 25 (0, 0)) (by (with_reducible repeat (first | refine zL ?_ _ | refine zM ?_ | refine zK ?_ _)); refine blk_put (cs := #[.bool t406, .int .i64 t407, .slice none 0 0]) ?_ 2 _ rfl; (with_reducible repeat (first | refine zL ?_ _ | refine zM ?_ | refine zK ?_ _)); refine blk_put (cs := #[.bool t406, .int .i64 0, .slice none 0 0]) ?_ 1 _ rfl; (with_reducible repeat (first | refine zL ?_ _ | refine zM ?_ | refine zK ?_ _)); refine blk_put (cs := #[.bool false, .int .i64 0, .slice none 0 0]) ?_ 0 _ rfl; (with_reducible repeat (first | refine zL ?_ _ | refine zM ?_ | refine zK ?_ _)); exact BK413.out) hb2) (by decide))); clear HO_10; clear HO410; clear BK413; clear HB; have HO_10 := n0_; have HO410 := n1_; have BK413 := n2_; have HB := n3_; have HI416 := n4_; have NB416_413 := n5_; have NB413_416 := n6_; clear n0_ n1_ n2_ n3_ n4_ n5_ n6_; (try clear hb); (try clear hb2); (try clear hk); (try clear hi)))
                go_ret
                exact ⟨by first | rfl | (simp [errW_none, errW_some] <;> rfl) | (simp [*, errW_none, errW_some] <;> rfl), by repeat (first | (with_reducible first | exact HB.out | apply zF | apply zC | apply zD | refine zE ?_ (zI.ge HI416.out) | refine zE ?_ GE413.out) | exact HB.out)⟩
/-- THE ONE PURE STATEMENT of serinettelaw15_SectionCuts: yours. -/
noncomputable def serinettelaw15_SectionCuts.Pure : Prop := ∀ (l0 : List Int) (a1 : Int) (a2 : Int) (a3 : Int), l0.length ≤ maxLen → l0.length * 4 ≤ 140737488351232 → (∀ x ∈ l0, (Lit.int .i32 x).wf = true) → (Lit.int .u8 a1).wf = true → (Lit.int .u8 a2).wf = true → (Lit.int .u16 a3).wf = true → ∃ k, serinettelaw15_SectionCuts.f k l0 a1 a2 a3 = some true
theorem serinettelaw15_SectionCuts.walk (P : serinettelaw15_SectionCuts.Pure) (a0 : Option Addr) (len0 cap0 : Nat) (z0 : List Int) (a1 : Int) (a2 : Int) (a3 : Int) (w : World) (w0 : (a0 = none ∧ len0 = 0 ∧ cap0 = 0 ∧ z0 = []) ∨ ∃ x, a0 = some x ∧ len0 ≤ cap0 ∧ cap0 ≤ maxLen ∧ z0.length = cap0 ∧ (∀ i, i < z0.length → w.cell? (x.add i) = some (.int .i32 (z0.getD i 0))) ∧ ∀ n ∈ z0, (Lit.int .i32 n).wf = true) (y0 : len0 * 4 ≤ 140737488351232) (w1 : (Lit.int .u8 a1).wf = true) (w2 : (Lit.int .u8 a2).wf = true) (w3 : (Lit.int .u16 a3).wf = true) :
    Calls Try.prog 5 #[.slice a0 len0 cap0, .int .u8 a1, .int .u8 a2, .int .u16 a3] w fun e w' => e = .returned (.bool true) ∧ Below w.heap.size w w' := by
  obtain ⟨l0, rfl, hr0, hm0, hw0, hc0⟩ := ReadsInt.ofRowC w0
  obtain ⟨k, h⟩ := P l0 a1 a2 a3 hm0 y0 hw0 w1 w2 w3
  refine (serinettelaw15_SectionCuts.calls k _ _ l0 a1 a2 a3 true w (Kd.C_of_reads (d := (0 : Int)) (h1 := fun _ => rfl) hr0) hc0 h).mono ?_
  rintro e w' ⟨rfl, hd⟩
  exact ⟨rfl, hd⟩
end Go.Proofs.Ytokdjeoecnnckaa.PA
end
section
namespace Go.Proofs.Ytokdjeoecnnckaa.PL
open Go.RowKit Go.Proofs.Ytokdjeoecnnckaa.PA Go.Proofs.YtokdjeoecnnckaaW.PrintWords Go.Proofs.YtokdjeoecnnckaaW.PrintLast Go.Proofs.YtokdjeoecnnckaaW.PrintMore
set_option linter.unusedVariables false
set_option linter.unusedSimpArgs false
theorem wid_append (a b : List Int) (ha : NearAll a) (hb : NearAll b) : wid (a ++ b) = max (wid a) (wid b) := by
  obtain ⟨a1, _, a2⟩ := wid_spec ha
  obtain ⟨b1, _, b2⟩ := wid_spec hb
  refine wid_eq (nearAll_append.2 ⟨ha, hb⟩) (fitsW_append.2 ⟨fitsW_mono a1 (by omega), fitsW_mono b1 (by omega)⟩) (fun v hv hf => ?_)
  have hf := fitsW_append.1 hf
  rcases Nat.lt_or_ge v (wid a) with h | h
  · exact a2 v h hf.1
  · exact b2 v (by omega) hf.2
/-- What is known of near numbers. -/
def smP (l : List Int) : Sm := ⟨(l.length : Int), (List.range 31).map (fun k => bitsL k l), (wid l : Int)⟩
theorem smP_ys (l : List Int) {k : Nat} (hk : k < 31) : (smP l).ys.getD k 0 = bitsL k l := by
  simp [smP, List.getD_eq_getElem?_getD, hk]
theorem take_near {l : List Int} (h : NearAll l) (n : Nat) : NearAll (l.take n) := fun x hx => h x (List.mem_of_mem_take hx)
theorem drop_near {l : List Int} (h : NearAll l) (n : Nat) : NearAll (l.drop n) := fun x hx => h x (List.mem_of_mem_drop hx)
theorem sumBy_near (k : Nat) (hk : k ≤ 30) : ∀ (l : List Int) (s : Int), NearAll l → l.length ≤ 1000 → 0 ≤ s → s + 17179869300 * l.length ≤ 17179869300 * 1000 → l.foldl (fun s n => wrap64 (s + sizeV n (k : Int))) s = s + bitsL k l
  | [], s, _, _, _, _ => by simp [bitsL]
  | x :: t, s, hn, hl, h0, h1 => by
    have hx := (nearAll_cons.1 hn).1
    have hb := sz_bd hx hk
    have e : sizeV x (k : Int) = sz x k := by unfold sizeV; rw [size_eq, if_pos hx, kk_nat hk]; rfl
    simp only [List.length_cons] at hl h1
    rw [List.foldl_cons, e, w64 (by omega) (by omega), sumBy_near k hk t _ (nearAll_cons.1 hn).2 (by omega) (by omega) (by omega)]
    simp only [bitsL]
    omega
theorem smOf_near {l : List Int} (h : NearAll l) (hl : l.length ≤ 1000) : smOf widF l = smP l := by
  unfold smOf smP ysAt widF
  congr 1
  apply List.map_congr_left
  intro k hk
  have hk : k < 31 := List.mem_range.1 hk
  simp only [hk, if_true]
  have := sumBy_near k (by omega) l 0 h hl (by omega) (by omega)
  rw [Int.zero_add] at this
  exact this
theorem bits_bd (k : Nat) (hk : k ≤ 30) (l : List Int) (h : NearAll l) (hl : l.length ≤ 1000) : 0 ≤ bitsL k l ∧ bitsL k l ≤ 17179869300000 := by
  have h1 := bitsL_bd k hk l h
  have : 0 ≤ (1 + (k : Int)) * (l.length : Int) := Int.mul_nonneg (by omega) (by omega)
  omega
theorem withS_near {a b : List Int} (ha : NearAll a) (hb : NearAll b) (hl : a.length + b.length ≤ 1000) : withS (smP a) (smP b) = smP (a ++ b) := by
  unfold withS
  have e1 : wrap64 ((smP a).n + (smP b).n) = ((a ++ b).length : Int) := by
    simp only [smP, List.length_append]
    rw [w64 (by omega) (by omega)]; omega
  have e2 : zAt (smP a).ys (smP b).ys 31 = (List.range 31).map (fun k => bitsL k (a ++ b)) := by
    unfold zAt
    apply List.map_congr_left
    intro k hk
    have hk : k < 31 := List.mem_range.1 hk
    have b1 := bits_bd k (by omega) a ha (by omega)
    have b2 := bits_bd k (by omega) b hb (by omega)
    simp only [hk, if_true]
    rw [smP_ys a hk, smP_ys b hk, w64 (by omega) (by omega), bitsL_append]
  have e3 : mx (smP a).wd (smP b).wd = (wid (a ++ b) : Int) := by
    rw [wid_append a b ha hb]
    simp only [smP]
    unfold mx
    by_cases hw : (wid a : Int) < (wid b : Int)
    · rw [if_pos hw]; omega
    · rw [if_neg hw]; omega
  rw [e1, e2, e3]
  rfl
theorem bestK_near (l : List Int) : ∀ m, m ≤ 30 → bestK (smP l).ys m = ((amin (fun k => bitsL k l) m : Int), bitsL (amin (fun k => bitsL k l) m) l)
  | 0, _ => by simp only [bestK, amin]; rw [smP_ys l (by omega)]; rfl
  | m + 1, h => by
    simp only [bestK, amin]
    rw [bestK_near l m (by omega), smP_ys l (by omega)]
    simp only
    split <;> rfl
/-- A part's best way, and its bits. -/
theorem bestP_near {l : List Int} (h : NearAll l) (hl : l.length ≤ 1000) {m : Nat} (hm : m ≤ 30) : bestP (smP l).n (smP l).ys (smP l).wd m = (((bestL l m).1, (bestL l m).2.1), (bestL l m).2.2.1) := by
  have h34 := (wid_spec h).2.1
  have hb := raw_bd l hl h34
  have hr : bestRaw (smP l).n (smP l).wd = rawL l := by
    unfold bestRaw rawL smP
    simp only
    rw [Int.mul_comm, w64 (x := (wid l : Int) * l.length) (by omega) (by omega), w64 (by omega) (by omega)]
  unfold bestP
  rw [hr, bestK_near l m hm]
  unfold bestL
  have hw : (smP l).wd = (wid l : Int) := rfl
  rw [hw]
  by_cases hc : wid l ≤ 31 ∧ rawL l < bitsL (amin (fun k => bitsL k l) m) l
  · rw [if_pos ⟨by omega, hc.2⟩, if_pos hc]
  · rw [if_neg (fun g => hc ⟨by omega, g.2⟩), if_neg hc]
def partL (l : List Int) (m : Nat) : S50 := ⟨(bestL l m).1, (bestL l m).2.1⟩
def bestN (l : List Int) (m : Nat) : Int := (bestL l m).2.2.1
theorem partOf_near {l : List Int} (h : NearAll l) (hl : l.length ≤ 1000) {m : Nat} (hm : m ≤ 30) : partOf (smP l) m = partL l m := by unfold partOf partL; rw [bestP_near h hl hm]
theorem bitsOf_near {l : List Int} (h : NearAll l) (hl : l.length ≤ 1000) {m : Nat} (hm : m ≤ 30) : PA.bitsOf (smP l) m = bestN l m := by unfold PA.bitsOf bestN; rw [bestP_near h hl hm]
theorem best_le (l : List Int) (m : Nat) : (∀ k, k ≤ m → (bestL l m).2.2.1 ≤ bitsL k l) ∧ (wid l ≤ 31 → (bestL l m).2.2.1 ≤ rawL l) := by
  have hmin := amin_min (fun k => bitsL k l) m
  unfold bestL
  split
  · rename_i h
    exact ⟨fun k hk => by have := hmin k hk; simp only [] at *; omega, fun _ => Int.le_refl _⟩
  · rename_i h
    refine ⟨fun k hk => hmin k hk, fun h1 => ?_⟩
    have h2 : ¬ rawL l < bitsL (amin (fun k => bitsL k l) m) l := fun h3 => h ⟨h1, h3⟩
    simp only []; omega
theorem best_is (l : List Int) (m : Nat) : (∃ k, k ≤ m ∧ (bestL l m).2.2.1 = bitsL k l) ∨ (wid l ≤ 31 ∧ (bestL l m).2.2.1 = rawL l) := by
  unfold bestL
  split
  · rename_i h; exact .inr ⟨h.1, rfl⟩
  · exact .inl ⟨_, amin_le _ m, rfl⟩
theorem bestN_bd {l : List Int} (h : NearAll l) (hl : l.length ≤ 1000) {m : Nat} (hm : m ≤ 30) : 0 ≤ bestN l m ∧ bestN l m ≤ 17179869300 * l.length := by
  have h0 : bestN l m ≤ bitsL 0 l := (best_le l m).1 0 (Nat.zero_le _)
  have h1 := bitsL_bd 0 (by omega) l h
  refine ⟨?_, by omega⟩
  rcases best_is l m with ⟨k, hk, e⟩ | ⟨hw, e⟩
  · have := bits_bd k (by omega) l h hl
    unfold bestN; omega
  · have := raw_bd l hl (wid_spec h).2.1
    unfold bestN; rw [e]; unfold rawL; omega
/-- The parts. -/
def split : List Int → List Int → List (List Int)
  | [], _ => []
  | n :: cs, l => l.take n.toNat :: split cs (l.drop n.toNat)
theorem split_len : ∀ (cs l : List Int), (split cs l).length = cs.length
  | [], _ => rfl
  | _ :: cs, l => by simp [split, split_len cs]
theorem split_near : ∀ (cs l : List Int), NearAll l → l.length ≤ 1000 → ∀ p ∈ split cs l, NearAll p ∧ p.length ≤ 1000
  | [], _, _, _, p, hp => by simp [split] at hp
  | n :: cs, l, h, hl, p, hp => by
    simp only [split, List.mem_cons] at hp
    rcases hp with rfl | hp
    · exact ⟨take_near h _, by rw [List.length_take]; omega⟩
    · exact split_near cs _ (drop_near h _) (by rw [List.length_drop]; omega) p hp
theorem sums_near : ∀ (cs l : List Int), NearAll l → l.length ≤ 1000 → sumsOf widF cs l = (split cs l).map smP
  | [], _, _, _ => rfl
  | n :: cs, l, h, hl => by
    simp only [sumsOf, split, List.map_cons]
    rw [smOf_near (take_near h _) (by rw [List.length_take]; omega), sums_near cs _ (drop_near h _) (by rw [List.length_drop]; omega)]
def pairSum : List Int → List Int
  | a :: b :: r => (a + b) :: pairSum r
  | _ => []
def cut2 : List Int → Prop
  | a :: b :: r => 0 ≤ a ∧ 0 ≤ b ∧ cut2 r
  | _ => True
theorem pair_near : ∀ (cs l : List Int), cut2 cs → NearAll l → l.length ≤ 1000 → pairUp ((split cs l).map smP) = (split (pairSum cs) l).map smP
  | [], _, _, _, _ => rfl
  | [_], _, _, _, _ => rfl
  | a :: b :: r, l, hc, h, hl => by
    obtain ⟨ha, hb, hr⟩ := hc
    simp only [split, pairSum, List.map_cons, pairUp]
    rw [pair_near r _ hr (drop_near (drop_near h _) _) (by rw [List.length_drop, List.length_drop]; omega)]
    rw [withS_near (take_near h _) (take_near (drop_near h _) _) (by rw [List.length_take, List.length_take, List.length_drop]; omega)]
    have e : (a + b).toNat = a.toNat + b.toNat := by omega
    rw [e, List.take_add, List.drop_drop]
theorem pairSum_rep (s : Int) : ∀ m, pairSum (List.replicate (2 * m) s) = List.replicate m (2 * s)
  | 0 => rfl
  | m + 1 => by
    rw [show 2 * (m + 1) = 2 * m + 1 + 1 by omega, List.replicate_succ, List.replicate_succ, pairSum, pairSum_rep s m, List.replicate_succ]
    congr 1
    omega
theorem cut2_rep (s : Int) (h : 0 ≤ s) : ∀ m, cut2 (List.replicate (2 * m) s)
  | 0 => trivial
  | m + 1 => by
    rw [show 2 * (m + 1) = 2 * m + 1 + 1 by omega, List.replicate_succ, List.replicate_succ]
    exact ⟨h, h, cut2_rep s h m⟩
theorem cuts_pair {n order : Int} (hn : 0 ≤ n) (ho : 0 ≤ order) {o : Nat} (h : cutsP n order (o + 1) ≠ []) : cut2 (cutsP n order (o + 1)) ∧ pairSum (cutsP n order (o + 1)) = cutsP n order o := by
  have hc : (n + order) % 2 ^ (o + 1) = 0 ∧ order < (n + order) / 2 ^ (o + 1) := by
    unfold cutsP at h
    split at h
    · assumption
    · exact absurd rfl h
  obtain ⟨P, hP⟩ : ∃ P : Int, (2 : Int) ^ o = P := ⟨_, rfl⟩
  have hp : 0 < P := by rw [← hP]; exact Int.pow_pos (by decide)
  have e1 : (2 : Int) ^ (o + 1) = P * 2 := by rw [Int.pow_succ, hP]
  rw [e1] at hc
  obtain ⟨s, hs⟩ : ∃ s, (n + order) / (P * 2) = s := ⟨_, rfl⟩
  have hme := Int.mul_ediv_add_emod (n + order) (P * 2)
  rw [hs] at hc hme
  have hN : n + order = 2 * s * P := by rw [hc.1] at hme; rw [← hme]; grind
  have hd : (n + order) / P = 2 * s := by rw [hN]; exact Int.mul_ediv_cancel _ (by omega)
  have hm : (n + order) % P = 0 := by rw [hN]; exact Int.mul_emod_left _ _
  have h1 : cutsP n order (o + 1) = (s - order) :: s :: List.replicate (2 * (2 ^ o - 1)) s := by
    unfold cutsP
    rw [e1, hs, if_pos hc]
    have h2 : 2 ^ (o + 1) - 1 = 2 * (2 ^ o - 1) + 1 := by
      have : 0 < 2 ^ o := Nat.pow_pos (by decide)
      rw [Nat.pow_succ]; omega
    rw [h2, List.replicate_succ]
  have h2 : cutsP n order o = (2 * s - order) :: List.replicate (2 ^ o - 1) (2 * s) := by
    unfold cutsP
    rw [hP, hd, if_pos ⟨hm, by omega⟩]
  rw [h1, h2]
  refine ⟨⟨by omega, by omega, cut2_rep s (by omega) _⟩, ?_⟩
  simp only [pairSum]
  rw [pairSum_rep]
  congr 1
  omega
theorem cuts_down {n order : Int} (hn : 0 ≤ n) (ho : 0 ≤ order) {o : Nat} (h : cutsP n order (o + 1) ≠ []) : cutsP n order o ≠ [] := by
  have h1 := (cuts_pair hn ho h).2
  have h2 := cutsP_len h
  intro h3
  rw [h3] at h1
  have h4 : ∃ a b r, cutsP n order (o + 1) = a :: b :: r := by
    rw [Nat.pow_succ] at h2
    have : 0 < 2 ^ o := Nat.pow_pos (by decide)
    match hc : cutsP n order (o + 1) with
    | [] => rw [hc] at h2; simp at h2; omega
    | [_] => rw [hc] at h2; simp at h2; omega
    | a :: b :: r => exact ⟨a, b, r, rfl⟩
  obtain ⟨a, b, r, h5⟩ := h4
  rw [h5] at h1
  simp [pairSum] at h1
theorem cuts_below {n order : Int} (hn : 0 ≤ n) (ho : 0 ≤ order) : ∀ {o : Nat}, cutsP n order o ≠ [] → ∀ j, j ≤ o → cutsP n order j ≠ []
  | 0, h, j, hj => by obtain rfl : j = 0 := by omega
                      exact h
  | o + 1, h, j, hj => by
    rcases Nat.lt_or_ge o j with h1 | h1
    · obtain rfl : j = o + 1 := by omega
      exact h
    · exact cuts_below hn ho (cuts_down hn ho h) j h1
/-- The parts by an order. -/
def partsP (l : List Int) (order : Int) (j : Nat) : List (List Int) := split (cutsP (l.length : Int) order j) l
def lev (l : List Int) (order : Int) : Nat → List (Nat × List Sm)
  | 0 => [(0, (partsP l order 0).map smP)]
  | o + 1 => (o + 1, (partsP l order (o + 1)).map smP) :: lev l order o
theorem levels_near {l : List Int} (h : NearAll l) (hl : l.length ≤ 1000) {order : Int} (ho : 0 ≤ order) : ∀ o, cutsP (l.length : Int) order o ≠ [] → levels o ((partsP l order o).map smP) = lev l order o
  | 0, _ => rfl
  | o + 1, hc => by
    simp only [levels, lev]
    congr 1
    have h1 := cuts_pair (by omega) ho hc
    have h2 : pairUp ((partsP l order (o + 1)).map smP) = (partsP l order o).map smP := by
      unfold partsP
      rw [pair_near _ l h1.1 h hl, h1.2]
    rw [h2]
    exact levels_near h hl ho o (cuts_down (by omega) ho hc)
/-- How many bits a plan has. -/
def planN (w : Bool) : List (List Int) → Int
  | [] => 0
  | p :: ps => sizeOf_ w + bestN p (mostOf w) + planN w ps
def planL (l : List Int) (order : Int) (w : Bool) (j : Nat) : Int := 6 + planN w (partsP l order j)
def planPs (l : List Int) (order : Int) (w : Bool) (j : Nat) : List S50 := (partsP l order j).map (fun p => partL p (mostOf w))
theorem mostOf_le (w : Bool) : mostOf w ≤ 30 := by cases w <;> decide
theorem sizeOf_bd (w : Bool) : 4 ≤ sizeOf_ w ∧ sizeOf_ w ≤ 5 := by cases w <;> decide
theorem bits_fold (w : Bool) : ∀ (cs l : List Int) (s : Int), NearAll l → l.length ≤ 1000 → 0 ≤ s → s + 5 * cs.length + 17179869300 * l.length ≤ 1000000000000000 → cs.length ≤ 100000 → ((split cs l).map smP).foldl (planAdd w) s = s + planN w (split cs l)
  | [], l, s, _, _, _, _, _ => by simp [split, planN]
  | n :: cs, l, s, h, hl, h0, h1, hcl => by
    have hm := mostOf_le w
    have hb := bestN_bd (take_near h n.toNat) (by rw [List.length_take]; omega) hm
    have hz := sizeOf_bd w
    have hlt : (l.take n.toNat).length + (l.drop n.toNat).length = l.length := by rw [List.length_take, List.length_drop]; omega
    simp only [List.length_cons] at h1 hcl
    simp only [split, List.map_cons, List.foldl_cons, planN]
    unfold planAdd
    rw [bitsOf_near (take_near h _) (by omega) hm, w64 (x := sizeOf_ w + _) (by omega) (by omega), w64 (by omega) (by omega)]
    rw [show (fun n_ s_ => wrap64 (n_ + wrap64 (sizeOf_ w + PA.bitsOf s_ (mostOf w)))) = planAdd w from rfl]
    rw [bits_fold w cs _ _ (drop_near h _) (by omega) (by omega) (by omega) (by omega)]
    omega
theorem planBits_near {l : List Int} (h : NearAll l) (hl : l.length ≤ 1000) (order : Int) (w : Bool) {j : Nat} (hj : j ≤ 8) : planBits ((partsP l order j).map smP) w = planL l order w j := by
  unfold planBits planL partsP
  have hlen : (cutsP (l.length : Int) order j).length ≤ 256 := by
    by_cases hc : cutsP (l.length : Int) order j = []
    · rw [hc]; simp
    · rw [cutsP_len hc]
      have : 2 ^ j ≤ 2 ^ 8 := Nat.pow_le_pow_right (by decide) hj
      omega
  exact bits_fold w _ l 6 h hl (by omega) (by omega) (by omega)
theorem planParts_near {l : List Int} (h : NearAll l) (hl : l.length ≤ 1000) (order : Int) (w : Bool) (j : Nat) : planParts ((partsP l order j).map smP) w = planPs l order w j := by
  unfold planParts planPs
  rw [List.map_map]
  apply List.map_congr_left
  intro p hp
  have := split_near _ l h hl p hp
  exact partOf_near this.1 this.2 (mostOf_le w)
def curL (l : List Int) (order : Int) (w : Bool) (j : Nat) : Cur := ⟨w, (j : Int), planPs l order w j, planL l order w j⟩
theorem mkCur_near {l : List Int} (h : NearAll l) (hl : l.length ≤ 1000) (order : Int) (w : Bool) {j : Nat} (hj : j ≤ 8) : mkCur w (j : Int) ((partsP l order j).map smP) = curL l order w j := by
  unfold mkCur curL
  rw [planBits_near h hl order w hj, planParts_near h hl order w j]
theorem amin_or (f : Nat → Int) (m i : Nat) : (if f (m + 1) ≤ f i then (if f (amin f m) ≤ f (m + 1) then amin f m else m + 1) else (if f (amin f m) ≤ f i then amin f m else i)) = (if f (amin f (m + 1)) ≤ f i then amin f (m + 1) else i) := by
  by_cases h1 : f (m + 1) < f (amin f m)
  · have e : amin f (m + 1) = m + 1 := by rw [amin, if_pos h1]
    rw [e]
    by_cases h2 : f (m + 1) ≤ f i
    · rw [if_pos h2, if_pos h2, if_neg (by omega)]
    · rw [if_neg h2, if_neg h2, if_neg (by omega)]
  · have e : amin f (m + 1) = amin f m := by rw [amin, if_neg h1]
    rw [e]
    by_cases h2 : f (m + 1) ≤ f i
    · rw [if_pos h2, if_pos (by omega), if_pos (by omega)]
    · rw [if_neg h2]
theorem fin_near {l : List Int} (h : NearAll l) (hl : l.length ≤ 1000) (order : Int) (w : Bool) : ∀ (m i : Nat), m ≤ 8 → finCur false w (curL l order w i) (lev l order m) = curL l order w (if planL l order w (amin (planL l order w) m) ≤ planL l order w i then amin (planL l order w) m else i)
  | 0, i, _ => by
    have e : (curL l order w i).n = planL l order w i := rfl
    simp only [lev, finCur, stepCur]
    rw [planBits_near h hl order w (by omega), mkCur_near h hl order w (by omega), e]
    simp only [Bool.false_eq_true, false_or]
    have e0 : amin (planL l order w) 0 = 0 := rfl
    rw [e0]
    by_cases h1 : planL l order w 0 ≤ planL l order w i
    · rw [if_pos h1, if_pos h1]
    · rw [if_neg h1, if_neg h1]
  | m + 1, i, hm => by
    have e : (curL l order w i).n = planL l order w i := rfl
    rw [← amin_or]
    simp only [lev, finCur, stepCur]
    rw [planBits_near h hl order w hm, mkCur_near h hl order w hm, e]
    simp only [Bool.false_eq_true, false_or]
    by_cases h1 : planL l order w (m + 1) ≤ planL l order w i
    · rw [if_pos h1, if_pos h1, fin_near h hl order w m (m + 1) (by omega)]
    · rw [if_neg h1, if_neg h1, fin_near h hl order w m i (by omega)]
theorem fin_first {l : List Int} (h : NearAll l) (hl : l.length ≤ 1000) (order : Int) (w : Bool) (m : Nat) (hm : m ≤ 8) : finCur true w zCur (lev l order m) = curL l order w (amin (planL l order w) m) := by
  cases m with
  | zero =>
    simp only [lev, finCur, stepCur, amin, true_or, if_true]
    exact mkCur_near h hl order w (by omega)
  | succ m =>
    simp only [lev, finCur, stepCur, true_or, if_true]
    rw [mkCur_near h hl order w hm, fin_near h hl order w m (m + 1) (by omega)]
    by_cases h2 : planL l order w (m + 1) < planL l order w (amin (planL l order w) m)
    · have e : amin (planL l order w) (m + 1) = m + 1 := by rw [amin, if_pos h2]
      rw [e, if_neg (by omega)]
    · have e : amin (planL l order w) (m + 1) = amin (planL l order w) m := by rw [amin, if_neg h2]
      rw [e, if_pos (by omega)]
/-- What parts.Best answers: the first narrow plan of fewest bits, or the first wide one, if that has fewer. -/
def bestPlan (l : List Int) (order : Int) (o : Nat) (wide : Bool) : Cur :=
  if wide = true ∧ planL l order true (amin (planL l order true) o) < planL l order false (amin (planL l order false) o) then curL l order true (amin (planL l order true) o) else curL l order false (amin (planL l order false) o)
theorem bestOf_near {l : List Int} (h : NearAll l) (hl : l.length ≤ 1000) (h0 : l.length ≠ 0) {order : Int} (ho : 0 ≤ order) {most : Nat} (hm : most ≤ 8) (wide : Bool) : bestOf l order most wide = bestPlan l order (topO (l.length : Int) order most) wide := by
  unfold bestOf bestPlan bestCur
  have hne := topO_ne (order := order) (show (0 : Int) < (l.length : Int) by omega) most
  have hle := topO_le (l.length : Int) order most
  generalize topO (l.length : Int) order most = o at hne hle
  rw [sums_near _ l h hl]
  have e := levels_near h hl ho o hne
  unfold partsP at e
  rw [e, fin_first h hl order true o (by omega), fin_first h hl order false o (by omega)]
  rfl
theorem best_f {l : List Int} (h : NearAll l) (hl : l.length ≤ 1000) (h0 : l.length ≠ 0) {order : Int} (ho : 0 ≤ order) (ho2 : order ≤ 32) {most : Nat} (hm : most ≤ 8) (wide : Bool) : partsBest.f l order (most : Int) wide = some ((bestPlan l order (topO (l.length : Int) order most) wide).f, (bestPlan l order (topO (l.length : Int) order most) wide).o, (bestPlan l order (topO (l.length : Int) order most) wide).ps, (bestPlan l order (topO (l.length : Int) order most) wide).n, 0) := by
  unfold partsBest.f
  rw [if_neg (by omega), if_neg h0, if_neg (by omega), if_pos h, Int.toNat_natCast, bestOf_near h hl h0 ho hm wide]
end Go.Proofs.Ytokdjeoecnnckaa.PL
end
section
namespace Go.Proofs.Ytokdjeoecnnckaa.PL
open Go.RowKit Go.Proofs.Ytokdjeoecnnckaa.PA Go.Proofs.YtokdjeoecnnckaaW.PrintWords Go.Proofs.YtokdjeoecnnckaaW.PrintMore
set_option linter.unusedVariables false
set_option linter.unusedSimpArgs false
theorem bits_ev (l : List Int) (k : Int) (hl : l.length ≤ 1000) : Ev (fun q => cost_Bits.f q l k) (if NearAll l then bitsL (kk k) l else -1) := by
  unfold cost_Bits.f
  refine bnd (anyFar_ev l hl) ?_
  by_cases hn : NearAll l
  · rw [if_pos hn]
    refine neg (by simp [hn]) ?_
    have key : ∀ (t p : List Int), l = p ++ t → Ev (fun q => cost_Bits.l0 q k (bitsL (kk k) p) l (l.length : Int) (p.length : Int)) (bitsL (kk k) l) := by
      intro t
      induction t with
      | nil =>
        intro p hp
        refine succ ?_
        simp only [cost_Bits.l0]
        exact neg (by rw [hp]; simp) (cst (by rw [hp, List.append_nil]))
      | cons x t ih =>
        intro p hp
        have l1 := congrArg List.length hp
        simp only [List.length_append, List.length_cons] at l1
        refine succ ?_
        simp only [cost_Bits.l0]
        have ra : rd l (p.length : Int) = x := by rw [hp]; exact rd_at _ _ _
        have hx : IsNear x := hn x (by rw [hp]; simp)
        have hp' : NearAll p := fun n h => hn n (by rw [hp]; simp [h])
        have b1 := bitsL_bd (kk k) (kk_le k) p hp'
        have b2 := sz_bd hx (kk_le k)
        have b0 : 0 ≤ (1 + ((kk k : Nat) : Int)) * (p.length : Int) := Int.mul_nonneg (by omega) (by omega)
        rw [ra, w64 (x := (p.length : Int) + 1) (by omega) (by omega), size_eq]
        simp only [Option.bind_some]
        rw [if_pos hx, w64 (by omega) (by omega)]
        refine pos (by omega) (pos (by omega) (pos (by omega) ?_))
        have := ih (p ++ [x]) (by simp [hp])
        rw [bitsL_append] at this
        simpa [bitsL] using this
    exact key l [] rfl
  · rw [if_neg hn]
    exact pos (by simp [hn]) (cst rfl)
theorem each_ev (l : List Int) (K : Int) (raw : Bool) (hl : l.length ≤ 1000) : Ev (fun q => cost_Each.f q l K raw) (if raw = true then (if NearAll l ∧ (wid l : Int) ≤ K ∧ K ≤ 31 then 5 + K * l.length else -1) else if NearAll l then bitsL (kk K) l else -1) := by
  unfold cost_Each.f
  refine bnd (width_ev l hl) ?_
  by_cases hr : raw = true
  · rw [if_pos hr]
    refine pos hr ?_
    by_cases hn : NearAll l
    · rw [if_pos hn]
      refine neg (by omega) ?_
      by_cases h1 : K < wid l
      · exact pos h1 (cst (by rw [if_neg (fun h => by omega)]))
      · refine neg h1 ?_
        by_cases h2 : K > 31
        · exact pos h2 (cst (by rw [if_neg (fun h => by omega)]))
        · refine neg h2 (cst ?_)
          have b0 : 0 ≤ K * l.length := Int.mul_nonneg (by omega) (by omega)
          have b1 : K * l.length ≤ 31 * 1000 := Int.mul_le_mul (by omega) (by omega) (by omega) (by omega)
          unfold cost_raw.f
          simp only [Option.bind_some]
          rw [w64 (x := K * l.length) (by omega) (by omega), w64 (by omega) (by omega), if_pos ⟨hn, by omega, by omega⟩]
    · rw [if_neg hn]
      exact pos (by decide) (cst (by rw [if_neg (fun h => hn h.1)]))
  · rw [if_neg hr]
    exact neg hr (bnd (bits_ev l K hl) (now _))
end Go.Proofs.Ytokdjeoecnnckaa.PL
end
section
namespace Go.Proofs.Ytokdjeoecnnckaa.PL
open Go.RowKit Go.Proofs.Ytokdjeoecnnckaa.PA Go.Proofs.YtokdjeoecnnckaaW.PrintWords Go.Proofs.YtokdjeoecnnckaaW.PrintLast Go.Proofs.YtokdjeoecnnckaaW.PrintMore
set_option linter.unusedVariables false
/-- A part's bits, by a way. -/
def eachW (l : List Int) (p : S50) : Int := if p.f1 = true then (if NearAll l ∧ (wid l : Int) ≤ p.f0 ∧ p.f0 ≤ 31 then 5 + p.f0 * l.length else -1) else if NearAll l then bitsL (kk p.f0) l else -1
/-- A plan's bits, from a sum on. -/
def bitsGo (w : Bool) : List (List Int) → List S50 → Int → Int
  | q :: qs, p :: ps, s => if eachW q p < 0 then -1 else if p.f1 = true ∨ (0 ≤ p.f0 ∧ p.f0 ≤ (mostOf w : Int)) then bitsGo w qs ps (s + (sizeOf_ w + eachW q p)) else -1
  | [], _, s => s
  | _ :: _, [], _ => -1
theorem eachW_le {l : List Int} (hl : l.length ≤ 1000) (p : S50) : eachW l p ≤ 5 + 17179869300 * l.length := by
  unfold eachW
  split
  · split
    · rename_i hc
      have : p.f0 * (l.length : Int) ≤ 31 * l.length := Int.mul_le_mul_of_nonneg_right hc.2.2 (by omega)
      omega
    · omega
  · split
    · rename_i h
      have := bitsL_bd (kk p.f0) (kk_le _) l h
      omega
    · omega
theorem eachW_best {q : List Int} (h : NearAll q) (hl : q.length ≤ 1000) {m : Nat} (hm : m ≤ 30) : eachW q (partL q m) = bestN q m ∧ ((partL q m).f1 = true ∨ (0 ≤ (partL q m).f0 ∧ (partL q m).f0 ≤ (m : Int))) := by
  by_cases hc : wid q ≤ 31 ∧ rawL q < bitsL (amin (fun k => bitsL k q) m) q
  · have hb : bestL q m = ((wid q : Int), true, rawL q, 0) := by unfold bestL; rw [if_pos hc]
    unfold eachW partL bestN
    rw [hb]
    refine ⟨?_, .inl rfl⟩
    rw [if_pos rfl, if_pos ⟨h, Int.le_refl _, by show (wid q : Int) ≤ 31; omega⟩]
    rfl
  · have hb : bestL q m = ((amin (fun k => bitsL k q) m : Int), false, bitsL (amin (fun k => bitsL k q) m) q, 0) := by unfold bestL; rw [if_neg hc]
    have hle := amin_le (fun k => bitsL k q) m
    unfold eachW partL bestN
    rw [hb]
    refine ⟨?_, .inr ⟨by show 0 ≤ ((amin (fun k => bitsL k q) m : Nat) : Int); omega, by show ((amin (fun k => bitsL k q) m : Nat) : Int) ≤ m; omega⟩⟩
    rw [if_neg (show ¬ (false = true) by decide), if_pos h, kk_nat (by omega)]
theorem go_best (w : Bool) : ∀ (qs : List (List Int)) (s : Int), (∀ q ∈ qs, NearAll q ∧ q.length ≤ 1000) → bitsGo w qs (qs.map (fun p => partL p (mostOf w))) s = s + planN w qs
  | [], s, _ => by simp [bitsGo, planN]
  | q :: qs, s, h => by
    have hq := h q (by simp)
    have hb := eachW_best hq.1 hq.2 (mostOf_le w)
    have h0 := (bestN_bd hq.1 hq.2 (mostOf_le w)).1
    simp only [List.map_cons, bitsGo]
    rw [hb.1, if_neg (by omega), if_pos hb.2, go_best w qs _ (fun x hx => h x (by simp [hx]))]
    simp only [planN]
    omega
theorem bits_l0 (w : Bool) (o : Int) (cs : List Int) (ps : List S50) (hlen : ps.length = cs.length) (hcl : cs.length ≤ 40000) :
    ∀ (t p : List Int) (l : List Int) (s : Int), cs = p ++ t → l.length ≤ 1000 → Fits t l.length → 0 ≤ s → s + 10 * t.length + 17179869300 * l.length ≤ 1000000000000000 → Ev (fun k => parts_Bits.l0 k l (mostOf w : Int) (sizeOf_ w) s cs (cs.length : Int) (p.length : Int) w o ps) (bitsGo w (split t l) (ps.drop p.length) s) := by
  intro t
  induction t with
  | nil =>
    intro p l s hp hl hf h0 hs
    refine succ ?_
    simp only [parts_Bits.l0]
    exact neg (by rw [hp]; simp) (cst (by simp [split, bitsGo]))
  | cons c t ih =>
    intro p l s hp hl hf h0 hs
    obtain ⟨hc0, hc1, hf2⟩ := hf
    have l1 := congrArg List.length hp
    simp only [List.length_append, List.length_cons] at l1 hs
    refine succ ?_
    simp only [parts_Bits.l0]
    have ra : rd cs (p.length : Int) = c := by rw [hp]; exact rd_at _ _ _
    have hpl : p.length < ps.length := by omega
    have hd : ps.drop p.length = ps[p.length] :: ps.drop (p.length + 1) := List.drop_eq_getElem_cons hpl
    have rp : rd_T50 ps (p.length : Int) = ps[p.length] := by simp [rd_T50, List.getD_eq_getElem?_getD, hpl]
    rw [ra, rp]
    generalize ps[p.length] = q at hd
    have hlt : (l.take c.toNat).length + (l.drop c.toNat).length = l.length := by rw [List.length_take, List.length_drop]; omega
    have hev : Ev (fun k => cost_Each.f k (l.take c.toNat) q.f0 q.f1) (eachW (l.take c.toNat) q) := each_ev (l.take c.toNat) q.f0 q.f1 (by omega)
    have hle := eachW_le (l := l.take c.toNat) (by omega) q
    have hz := sizeOf_bd w
    rw [hd]
    simp only [split, bitsGo]
    refine pos (by omega) (pos (by omega) (pos (by omega) (pos (by omega) (pos (by omega) (pos (by omega) (bnd hev ?_))))))
    obtain ⟨v, hv⟩ : ∃ v, eachW (l.take c.toNat) q = v := ⟨_, rfl⟩
    rw [hv] at hle ⊢
    by_cases h1 : v < 0
    · rw [if_pos h1]
      exact pos h1 (now _)
    · rw [if_neg h1]
      refine neg h1 ?_
      have nx := ih (p ++ [c]) (l.drop c.toNat) (s + (sizeOf_ w + v)) (by simp [hp]) (by omega) (by rw [List.length_drop]; exact hf2) (by omega) (by omega)
      have e3 : (p ++ [c]).length = p.length + 1 := by simp
      rw [e3] at nx
      rw [w64 (x := sizeOf_ w + v) (by omega) (by omega), w64 (x := s + (sizeOf_ w + v)) (by omega) (by omega), w64 (x := (p.length : Int) + 1) (by omega) (by omega)]
      have e4 : ((p.length + 1 : Nat) : Int) = (p.length : Int) + 1 := by omega
      rw [e4] at nx
      by_cases hr : q.f1 = true
      · rw [if_pos (.inl hr)]
        exact pos hr nx
      · refine neg hr ?_
        by_cases h2 : q.f0 < 0
        · rw [if_neg (fun g => by have := g.resolve_left hr; omega)]
          exact pos h2 (now _)
        · refine neg h2 ?_
          by_cases h3 : q.f0 > (mostOf w : Int)
          · rw [if_neg (fun g => by have := g.resolve_left hr; omega)]
            exact pos h3 (now _)
          · rw [if_pos (.inr ⟨by omega, by omega⟩)]
            exact neg h3 nx
def cutsI (n order o : Int) : List Int := if 0 ≤ o ∧ o ≤ 15 then cutsP n order o.toNat else []
theorem cutsI_ev (n order o : Int) (hn0 : 0 ≤ n) (hn : n ≤ 100000) (ho0 : 0 ≤ order) (ho1 : order ≤ 100000) : Ev (fun k => parts_Cuts.f k n order o) (cutsI n order o) := by
  have out : Ev (fun k => parts_Cuts.j0 k n order o true) [] := by
    refine succ ?_
    simp only [parts_Cuts.j0]
    exact pos trivial (now _)
  unfold cutsI
  by_cases h : 0 ≤ o ∧ o ≤ 15
  · rw [if_pos h]
    have := cuts_ev n order o.toNat hn0 hn ho0 ho1 (by omega)
    rw [show ((o.toNat : Nat) : Int) = o by omega] at this
    exact this
  · rw [if_neg h]
    unfold parts_Cuts.f
    refine neg (by omega) (neg (by omega) ?_)
    by_cases h1 : o < 0
    · exact pos h1 out
    · refine neg h1 ?_
      rw [decide_eq_true (by omega)]
      exact out
def bitsV (l : List Int) (order : Int) (w : Bool) (o : Int) (ps : List S50) : Int :=
  if cutsI (l.length : Int) order o = [] ∨ (cutsI (l.length : Int) order o).length ≠ ps.length then -1 else bitsGo w (split (cutsI (l.length : Int) order o) l) ps 6
theorem bitsV_ev {l : List Int} (hl : l.length ≤ 1000) {order : Int} (ho : 0 ≤ order) (ho2 : order ≤ 32) (w : Bool) (o : Int) (ps : List S50) : Ev (fun k => parts_Bits.f k l order w o ps) (bitsV l order w o ps) := by
  unfold parts_Bits.f
  refine bnd (cutsI_ev (l.length : Int) order o (by omega) (by omega) (by omega) (by omega)) ?_
  unfold bitsV
  have out : ∀ cs, Ev (fun k => parts_Bits.j0 k l cs true w o ps) (-1) := fun cs => by
    refine succ ?_
    simp only [parts_Bits.j0]
    exact pos trivial (now _)
  by_cases hc : cutsI (l.length : Int) order o = []
  · rw [if_pos (.inl hc), hc]
    exact pos rfl (out _)
  refine neg (by have := List.length_pos_iff.2 hc; omega) ?_
  by_cases hl2 : (cutsI (l.length : Int) order o).length = ps.length
  · rw [if_neg (fun g => g.elim hc (fun x => x hl2))]
    have e : (((cutsI (l.length : Int) order o).length : Int) != (ps.length : Int)) = false := by rw [hl2]; simp
    rw [e]
    have hin : 0 ≤ o ∧ o ≤ 15 := by
      unfold cutsI at hc
      split at hc
      · assumption
      · exact absurd rfl hc
    have hci : cutsI (l.length : Int) order o = cutsP (l.length : Int) order o.toNat := by unfold cutsI; rw [if_pos hin]
    have hfit := fits_cuts l.length order ho o.toNat
    have hlen : (cutsI (l.length : Int) order o).length ≤ 40000 := by
      rw [hci, cutsP_len (by rw [← hci]; exact hc)]
      have h1 : (2 : Nat) ^ o.toNat ≤ 2 ^ 15 := Nat.pow_le_pow_right (by decide) (by omega)
      have h2 : (2 : Nat) ^ 15 = 32768 := by decide
      omega
    rw [← hci] at hfit
    refine succ ?_
    simp only [parts_Bits.j0]
    refine neg (by decide) ?_
    have ht : parts_top.f w = some ((mostOf w : Int), sizeOf_ w) := by cases w <;> rfl
    rw [ht]
    simp only [Option.bind_some]
    have := bits_l0 w o (cutsI (l.length : Int) order o) ps hl2.symm hlen (cutsI (l.length : Int) order o) [] l 6 rfl hl hfit (by omega) (by omega)
    simpa using this
  · rw [if_pos (.inr hl2)]
    have e : (((cutsI (l.length : Int) order o).length : Int) != (ps.length : Int)) = true := by rw [bne_iff_ne]; omega
    rw [e]
    exact out _
theorem best_bits {l : List Int} (h : NearAll l) (hl : l.length ≤ 1000) {order : Int} (w : Bool) {j : Nat} (hj : j ≤ 8) (hc : cutsP (l.length : Int) order j ≠ []) : bitsV l order w (j : Int) (planPs l order w j) = planL l order w j := by
  have hci : cutsI (l.length : Int) order (j : Int) = cutsP (l.length : Int) order j := by unfold cutsI; rw [if_pos ⟨by omega, by omega⟩, Int.toNat_natCast]
  have hlen : (planPs l order w j).length = (cutsP (l.length : Int) order j).length := by unfold planPs partsP; rw [List.length_map, split_len]
  unfold bitsV
  rw [hci, if_neg (fun g => g.elim hc (fun x => x hlen.symm))]
  unfold planPs planL partsP
  exact go_best w _ 6 (split_near _ l h hl)
end Go.Proofs.Ytokdjeoecnnckaa.PL
end
section
namespace Go.Proofs.Ytokdjeoecnnckaa.PL
open Go Go.RowKit Go.Proofs.Ytokdjeoecnnckaa.PA Go.Proofs.YtokdjeoecnnckaaW.PrintWords
set_option linter.unusedVariables false
/-- A number with its sign. -/
def unfold (u : Int) : Int := if u % 2 = 0 then u / 2 else -(u / 2) - 1
theorem and_one (u : Int) (h : 0 ≤ u ∧ u < 18446744073709551616) : Go.bits .and .u64 u 1 = u % 2 := by
  have hk : ∀ n : Int, 0 ≤ n → n < 2 ^ 64 → IntKind.u64.wrap n = n := by
    intro n h0 h1
    have e : (2 : Int) ^ 64 = 18446744073709551616 := by decide
    rw [e] at h1
    rw [u64_wrap]; omega
  have e : (2 : Int) ^ 64 = 18446744073709551616 := by decide
  have := bits_mask .u64 64 (by decide) hk 1 (by decide) u h.1 (by rw [e]; exact h.2)
  exact this
theorem xor_zero64 (m : Nat) (h : m < 9223372036854775808) : Go.bits .xor .i64 (m : Int) 0 = (m : Int) := by
  have e : (BitVec.ofInt 64 (m : Int) ^^^ BitVec.ofInt 64 0).toNat = m := by
    rw [BitVec.ofInt_natCast, show BitVec.ofInt 64 0 = 0#64 from rfl, BitVec.xor_zero, BitVec.toNat_ofNat]
    exact Nat.mod_eq_of_lt (by omega)
  show IntKind.i64.wrap ((BitVec.ofInt 64 (m : Int) ^^^ BitVec.ofInt 64 0).toNat : Int) = _
  rw [e, Go.IntKind.wrap_i64]; omega
theorem xor_ones64 (m : Nat) (h : m < 9223372036854775808) : Go.bits .xor .i64 (m : Int) (-1) = -(m : Int) - 1 := by
  have e : (BitVec.ofInt 64 (m : Int) ^^^ BitVec.ofInt 64 (-1)).toNat = 18446744073709551615 - m := by
    rw [BitVec.ofInt_natCast, show BitVec.ofInt 64 (-1) = BitVec.allOnes 64 by decide, BitVec.xor_allOnes, BitVec.toNat_not, BitVec.toNat_ofNat, Nat.mod_eq_of_lt (by omega)]
  show IntKind.i64.wrap ((BitVec.ofInt 64 (m : Int) ^^^ BitVec.ofInt 64 (-1)).toNat : Int) = _
  rw [e, Go.IntKind.wrap_i64]; omega
theorem unfold_eq (u : Int) (h : 0 ≤ u ∧ u < 18446744073709551616) : rice_Unfold.f u = some (unfold u) := by
  unfold rice_Unfold.f unfold
  rw [and_one u h, w64 (x := u / 2) (by omega) (by omega)]
  obtain ⟨m, hm⟩ := Int.eq_ofNat_of_zero_le (show 0 ≤ u / 2 by omega)
  have hb : m < 9223372036854775808 := by omega
  rw [hm]
  by_cases hu : u % 2 = 0
  · rw [hu, if_pos rfl, show wrap64 (-(wrap64 0)) = 0 by rw [w64 (x := 0) (by omega) (by omega), w64 (by omega) (by omega)]; rfl, xor_zero64 m hb]
  · rw [show u % 2 = 1 by omega, if_neg (by decide), show wrap64 (-(wrap64 1)) = -1 by rw [w64 (x := 1) (by omega) (by omega), w64 (by omega) (by omega)], xor_ones64 m hb]
theorem unfold_fold (n : Int) : unfold (fold n) = n := by
  unfold unfold fold; split <;> split <;> omega
end Go.Proofs.Ytokdjeoecnnckaa.PL
end
section
namespace Go.Proofs.Ytokdjeoecnnckaa.PL
open Go Go.RowKit Go.Proofs.Ytokdjeoecnnckaa.PA Go.Proofs.YtokdjeoecnnckaaW.PrintWords Go.Proofs.YtokdjeoecnnckaaW.PrintMore
set_option linter.unusedSimpArgs false
set_option linter.unusedVariables false
/-- Some bits, from a place on. -/
def cutB (b : List Int) (p n : Nat) : List Bool := ((bitsOf b).drop p).take n
theorem cutB_len {b : List Int} {p n : Nat} (h : p + n ≤ 8 * b.length) : (cutB b p n).length = n := by
  unfold cutB; rw [List.length_take, List.length_drop, bitsOf_len]; omega
theorem cutB_add (b : List Int) (p m n : Nat) : cutB b p (m + n) = cutB b p m ++ cutB b (p + m) n := by
  unfold cutB; rw [List.take_add, List.drop_drop]
/-- Some bits of one byte. -/
theorem byte_cut (x : Int) {j m : Nat} (h : j + m ≤ 8) : ((digs x 8).drop j).take m = digs (x / 2 ^ (8 - j - m)) m := by
  have e1 := digs_add x j (8 - j)
  rw [show j + (8 - j) = 8 by omega] at e1
  have e2 := digs_add x m (8 - j - m)
  rw [show m + (8 - j - m) = 8 - j by omega] at e2
  rw [e1, List.drop_left' (digs_len _ _), e2, List.take_left' (digs_len _ _)]
theorem cut_step (b : List Int) (q j m : Nat) (hq : q < b.length) (h : j + m ≤ 8) : cutB b (8 * q + j) m = digs (rd b (q : Int) / 2 ^ (8 - j - m)) m := by
  have hb : b = b.take q ++ rd b (q : Int) :: b.drop (q + 1) := by
    have e := List.drop_eq_getElem_cons hq
    have e2 : rd b (q : Int) = b[q] := rd_lt (by omega) (by omega)
    rw [e2, ← e, List.take_append_drop]
  have hl : (bitsOf (b.take q)).length = 8 * q := by rw [bitsOf_len, List.length_take]; omega
  unfold cutB
  conv => lhs; rw [hb]
  rw [bitsOf_app, bitsOf_cons, ← List.drop_drop, List.drop_left' hl, List.drop_append_of_le_length (by rw [digs_len]; omega), List.take_append_of_le_length (by rw [List.length_drop, digs_len]; omega), byte_cut _ h]
theorem or_join (a x : Int) (m s : Nat) (ha0 : 0 ≤ a) (ha : a < 2 ^ s) (hs : s + m ≤ 64) (hx0 : 0 ≤ x) (hx : x < 2 ^ m) : Go.bits .or .u64 (shl .u64 a (m : Int)) x = a * 2 ^ m + x := by
  have hm0 := pow2_pos m
  have e : (2 : Int) ^ s * 2 ^ m = 2 ^ (s + m) := (Int.pow_add 2 s m).symm
  have h64 : (2 : Int) ^ (s + m) ≤ 2 ^ 64 := by
    have : (2 : Nat) ^ (s + m) ≤ 2 ^ 64 := Nat.pow_le_pow_right (by decide) hs
    have h := Int.ofNat_le.2 this
    simpa using h
  have hlt : a * 2 ^ m + x < 2 ^ s * 2 ^ m := by
    have h1 : (a + 1) * 2 ^ m ≤ 2 ^ s * 2 ^ m := Int.mul_le_mul_of_nonneg_right (by omega) (Int.le_of_lt hm0)
    rw [Int.add_mul, Int.one_mul] at h1
    omega
  have h0 : 0 ≤ a * 2 ^ m := Int.mul_nonneg ha0 (Int.le_of_lt hm0)
  have hb1 : a * 2 ^ m < 2 ^ 64 := by rw [e] at hlt; omega
  have hx1 : x < 2 ^ 64 := by rw [e] at hlt; omega
  have hb2 : a * 2 ^ m < 18446744073709551616 := by rw [← pow64]; exact hb1
  rw [shl_u64' (by omega) h0 hb2]
  exact bits_join .u64 64 (by decide) wraps_u64 m _ _ h0 (Int.mul_emod_left _ _) hb1 hx0 hx hx1
theorem tdiv8 (p : Nat) (h : p < 4611686018427387904) : wrap64 (Int.tdiv (p : Int) 8) = ((p / 8 : Nat) : Int) := by
  rw [Int.tdiv_eq_ediv_of_nonneg (by omega), w64 (by omega) (by omega)]; omega
theorem tmod8 (p : Nat) : Int.tmod (p : Int) 8 = ((p % 8 : Nat) : Int) := by rw [Int.tmod_eq_emod_of_nonneg (by omega)]; omega
theorem wsub {a b : Nat} (h : b ≤ a) (ha : a < 4611686018427387904) : wrap64 ((a : Int) - (b : Int)) = ((a - b : Nat) : Int) := by rw [w64 (by omega) (by omega)]; omega
theorem wadd {a b : Nat} (ha : a + b < 4611686018427387904) : wrap64 ((a : Int) + (b : Int)) = ((a + b : Nat) : Int) := by rw [w64 (by omega) (by omega)]; omega
theorem room8 (p : Nat) : wrap64 (8 - Int.tmod (p : Int) 8) = ((8 - p % 8 : Nat) : Int) := by rw [tmod8]; exact wsub (a := 8) (by omega) (by omega)
theorem mn_nat (a b : Nat) : mn (a : Int) (b : Int) = ((min a b : Nat) : Int) := by unfold mn; split <;> omega
theorem take_step (k : Nat) (b : List Int) (acc : Int) (left p s : Nat) (fl : Int) (m : Nat) (hm : m = min (8 - p % 8) left) (h1 : 1 ≤ left) (hbl : b.length < 1099511627776) (hpl : p + left ≤ 8 * b.length) (hbd : ∀ x ∈ b, 0 ≤ x ∧ x < 256)
    (ha0 : 0 ≤ acc) (ha : zG (acc < 2 ^ s)) (hs : s + left ≤ 64) :
    bits_Reader_Take.l0 (k + 1) (left : Int) acc b (p : Int) fl = bits_Reader_Take.l0 k ((left - m : Nat) : Int) (acc * 2 ^ m + num (cutB b p m)) b ((p + m : Nat) : Int) fl := by
  obtain ⟨q, hq⟩ : ∃ q, q = p / 8 := ⟨_, rfl⟩
  obtain ⟨j, hj⟩ : ∃ j, j = p % 8 := ⟨_, rfl⟩
  have hp : p = 8 * q + j := by omega
  have hj8 : j < 8 := by omega
  have hm1 : 1 ≤ m := by omega
  have hml : m ≤ left := by omega
  have hjm : j + m ≤ 8 := by omega
  have hm8 : m ≤ 8 := by omega
  have hqb : q < b.length := by omega
  have hsm : s + m ≤ 64 := by omega
  have h8m : 8 - j - m ≤ 8 := by omega
  have hp62 : p < 4611686018427387904 := by omega
  have hl62 : left < 4611686018427387904 := by omega
  have hpm62 : p + m < 4611686018427387904 := by omega
  have hroomm : m ≤ 8 - j := by omega
  have hrl : 8 - j < 4611686018427387904 := by omega
  have hqi : (q : Int) < (b.length : Int) := by omega
  have hne : ¬ ((left : Int) = 0) := by omega
  have hx := hbd (rd b (q : Int)) (rd_mem (by omega) hqi)
  have hcut : num (cutB b p m) = rd b (q : Int) / 2 ^ (8 - j - m) % 2 ^ m := by rw [hp, cut_step b q j m hqb hjm, num_digs]
  have hsr := shr_u8' (rd b (q : Int)) h8m
  have hdb := Int.ediv_nonneg hx.1 (Int.le_of_lt (pow2_pos (8 - j - m)))
  have hdl := Int.ediv_le_self (2 ^ (8 - j - m)) hx.1
  have hpe := part_eq (rd b (q : Int) / 2 ^ (8 - j - m)) hm1 hm8
  have hmod : rd b (q : Int) / 2 ^ (8 - j - m) % 256 = rd b (q : Int) / 2 ^ (8 - j - m) := Int.emod_eq_of_lt hdb (Int.lt_of_le_of_lt hdl hx.2)
  rw [hmod] at hpe
  have hb0 := num_bd (cutB b p m)
  rw [cutB_len (Nat.le_trans (Nat.add_le_add_left hml p) hpl), hcut] at hb0
  have hwr : IntKind.u64.wrap (rd b (q : Int) / 2 ^ (8 - j - m) % 2 ^ m) = rd b (q : Int) / 2 ^ (8 - j - m) % 2 ^ m :=
    wraps_u64' _ hb0.1 (Int.lt_of_lt_of_le (Int.lt_of_lt_of_le hb0.2 (pow_le_256 hm8)) (by decide))
  have hor := or_join acc (rd b (q : Int) / 2 ^ (8 - j - m) % 2 ^ m) m s ha0 ha.out hsm hb0.1 hb0.2
  have htd := tdiv8 p hp62
  rw [← hq] at htd
  have hroom := room8 p
  rw [← hj] at hroom
  have hmn : mn (wrap64 (8 - Int.tmod (p : Int) 8)) (left : Int) = (m : Int) := by rw [hroom, mn_nat, hj, ← hm]
  have hsh : wrap64 (wrap64 (8 - Int.tmod (p : Int) 8) - (m : Int)) = ((8 - j - m : Nat) : Int) := by rw [hroom]; exact wsub hroomm hrl
  have hl1 : wrap64 ((left : Int) - (m : Int)) = ((left - m : Nat) : Int) := wsub hml hl62
  have hp1 : wrap64 ((p : Int) + (m : Int)) = ((p + m : Nat) : Int) := wadd hpm62
  simp only [bits_Reader_Take.l0]
  rw [if_neg hne, htd, hmn, hsh, hl1, hp1, if_pos (Int.natCast_nonneg _), if_pos hqi, if_pos (Int.natCast_nonneg _), if_pos (Int.natCast_nonneg _), hsr, hpe, hwr, hor, hcut]
theorem take_l0 : ∀ (left fuel : Nat) (b : List Int) (acc : Int) (p s : Nat) (fl : Int), left < fuel → b.length < 1099511627776 → p + left ≤ 8 * b.length → (∀ x ∈ b, 0 ≤ x ∧ x < 256) → 0 ≤ acc → zG (acc < 2 ^ s) → s + left ≤ 64 →
    bits_Reader_Take.l0 fuel (left : Int) acc b (p : Int) fl = some (acc * 2 ^ left + num (cutB b p left), ((p + left : Nat) : Int), fl) := by
  intro left
  induction left using Nat.strongRecOn with
  | _ left ih =>
  intro fuel b acc p s fl hf hbl hpl hbd ha0 ha hs
  obtain ⟨k, rfl⟩ : ∃ k, fuel = k + 1 := ⟨fuel - 1, by omega⟩
  by_cases h0 : left = 0
  · subst h0
    have e0 : ((0 : Nat) : Int) = 0 := rfl
    simp only [bits_Reader_Take.l0]
    rw [e0, if_pos (rfl : (0 : Int) = 0)]
    simp [cutB, num_nil]
  obtain ⟨m, hm⟩ : ∃ m : Nat, m = min (8 - p % 8) left := ⟨_, rfl⟩
  have hm1 : 1 ≤ m := by omega
  have hml : m ≤ left := by omega
  have a1 : left - m < left := by omega
  have a3 : left - m < k := by omega
  have a4 : p + m + (left - m) ≤ 8 * b.length := by omega
  have a5 : s + m + (left - m) ≤ 64 := by omega
  have a6 : p + m + (left - m) = p + left := by omega
  have a7 : m + (left - m) = left := by omega
  have hb0 := num_bd (cutB b p m)
  rw [cutB_len (Nat.le_trans (Nat.add_le_add_left hml p) hpl)] at hb0
  have hm0 := pow2_pos m
  have h2 : acc * 2 ^ m + num (cutB b p m) < 2 ^ (s + m) := by
    rw [Int.pow_add]
    have h1 : (acc + 1) * 2 ^ m ≤ 2 ^ s * 2 ^ m := Int.mul_le_mul_of_nonneg_right (Int.add_one_le_of_lt ha.out) (Int.le_of_lt hm0)
    rw [Int.add_mul, Int.one_mul] at h1
    exact Int.lt_of_lt_of_le (Int.add_lt_add_left hb0.2 _) h1
  have h3 : 0 ≤ acc * 2 ^ m + num (cutB b p m) := Int.add_nonneg (Int.mul_nonneg ha0 (Int.le_of_lt hm0)) hb0.1
  rw [take_step k b acc left p s fl m hm (Nat.one_le_iff_ne_zero.2 h0) hbl hpl hbd ha0 ha hs, ih (left - m) a1 k b _ (p + m) (s + m) fl a3 hbl a4 hbd h3 ⟨h2⟩ a5, a6]
  have e : acc * 2 ^ left + num (cutB b p left) = (acc * 2 ^ m + num (cutB b p m)) * 2 ^ (left - m) + num (cutB b (p + m) (left - m)) := by
    have e1 := cutB_add b p m (left - m)
    rw [a7] at e1
    rw [e1, num_append, cutB_len a4, Int.add_mul, Int.mul_assoc, ← Int.pow_add, a7]
    exact Int.add_assoc _ _ _ |>.symm
  rw [e]
/-- What a Reader at a place, with an error, answers to Take. -/
def takeR (b : List Int) (p : Nat) (fl : Int) (w : Nat) : Int × Int × Int :=
  if fl ≠ 0 then (0, (p : Int), fl) else if 8 * b.length < p + w then (0, (p : Int), 2) else (num (cutB b p w), ((p + w : Nat) : Int), 0)
theorem left_eq (b : List Int) (p : Nat) (fl : Int) (hbl : b.length < 1099511627776) (hp : p ≤ 8 * b.length) : bits_Reader_Left.f b (p : Int) fl = some (((8 * b.length - p : Nat) : Int), (p : Int), fl) := by
  unfold bits_Reader_Left.f
  rw [w64 (x := 8 * (b.length : Int)) (by omega) (by omega), w64 (by omega) (by omega)]
  congr 2; omega
theorem take_ev (b : List Int) (p : Nat) (fl w : Int) (hbl : b.length < 1099511627776) (hp : p ≤ 8 * b.length) (hbd : ∀ x ∈ b, 0 ≤ x ∧ x < 256) : Ev (fun k => bits_Reader_Take.f k b (p : Int) fl w) (takeR b p fl (hw w)) := by
  unfold bits_Reader_Take.f
  rw [held_eq]
  simp only [Option.bind_some]
  have h64 := hw_le w
  have j1no : ∀ (fl : Int) (x : Int), fl ≠ 0 → Ev (fun k => bits_Reader_Take.j1 k x b (p : Int) fl) (0, (p : Int), fl) := by
    intro fl x hfl
    refine succ ?_
    simp only [bits_Reader_Take.j1]
    exact neg hfl (now _)
  by_cases hfl : fl = 0
  · subst hfl
    refine pos rfl ?_
    rw [left_eq b p 0 hbl hp]
    simp only [Option.bind_some]
    by_cases hs : 8 * b.length < p + hw w
    · have e : takeR b p 0 (hw w) = (0, (p : Int), 2) := by unfold takeR; rw [if_neg (by simp), if_pos hs]
      rw [e, decide_eq_true (by omega)]
      refine succ ?_
      simp only [bits_Reader_Take.j0]
      exact pos trivial (j1no 2 _ (by decide))
    · have e : takeR b p 0 (hw w) = (num (cutB b p (hw w)), ((p + hw w : Nat) : Int), 0) := by unfold takeR; rw [if_neg (by simp), if_neg hs]
      rw [e, decide_eq_false (by omega)]
      refine succ ?_
      simp only [bits_Reader_Take.j0]
      refine neg (by simp) (succ ?_)
      simp only [bits_Reader_Take.j1]
      refine pos trivial ⟨hw w + 1, fun k hk => ?_⟩
      show bits_Reader_Take.l0 k ((hw w : Nat) : Int) 0 b (p : Int) 0 = _
      rw [take_l0 (hw w) k b 0 p 0 0 (by omega) hbl (by omega) hbd (by omega) ⟨by simp⟩ (by omega)]
      simp
  · have e : takeR b p fl (hw w) = (0, (p : Int), fl) := by unfold takeR; rw [if_pos hfl]
    rw [e]
    refine neg hfl (succ ?_)
    simp only [bits_Reader_Take.j0]
    exact neg (by simp) (j1no fl _ hfl)
theorem open_eq (b : List Int) (hb : b.length < 1099511627776) : bits_Open.f b = some (b, ((0 : Nat) : Int), 0) := by
  unfold bits_Open.f bytes_Clone.f
  simp only [Option.bind_some, List.length_nil, List.nil_append]
  rw [if_pos (by omega)]
  rfl
/-- How many bits fill a byte. -/
def gap (p : Nat) : Nat := (8 - p % 8) % 8
theorem takeR_ok {b : List Int} {p w : Nat} (h : p + w ≤ 8 * b.length) : takeR b p 0 w = (num (cutB b p w), ((p + w : Nat) : Int), 0) := by
  unfold takeR; rw [if_neg (by simp), if_neg (by omega)]
theorem toB_len8 (L : List Bool) : L.length ≤ 8 * (toB L).length ∧ 8 * (toB L).length ≤ L.length + 7 := by rw [toB_len]; omega
end Go.Proofs.Ytokdjeoecnnckaa.PL
end
section
namespace Go.Proofs.Ytokdjeoecnnckaa.PL
open Go Go.RowKit Go.Proofs.Ytokdjeoecnnckaa.PA Go.Proofs.YtokdjeoecnnckaaW.PrintWords Go.Proofs.YtokdjeoecnnckaaW.PrintMore
set_option linter.unusedSimpArgs false
set_option linter.unusedVariables false
theorem fail_eq (b : List Int) (p : Nat) (fl : Int) : bits_Reader_Fail.f b (p : Int) fl = some (fl, (p : Int), fl) := rfl
end Go.Proofs.Ytokdjeoecnnckaa.PL
end
section
namespace Go.Proofs.Ytokdjeoecnnckaa.PL
open Go Go.RowKit Go.Proofs.Ytokdjeoecnnckaa.PA Go.Proofs.YtokdjeoecnnckaaW.PrintWords Go.Proofs.YtokdjeoecnnckaaW.PrintLast Go.Proofs.YtokdjeoecnnckaaW.PrintMore
set_option linter.unusedSimpArgs false
set_option linter.unusedVariables false
/-- Bytes as they can be. -/
structure GB (b : List Int) : Prop where
  len : b.length < 1099511627776
  bd : ∀ x ∈ b, 0 ≤ x ∧ x < 256
/-- The bytes' bits and some bits: one is the other's beginning. -/
def Pre (b : List Int) (L : List Bool) : Prop := ∃ C D, bitsOf b ++ C = L ++ D
theorem pre_cut {b : List Int} {L A B R : List Bool} (h : Pre b L) (hL : L = A ++ B ++ R) (hn : (A ++ B).length ≤ 8 * b.length) : cutB b A.length B.length = B := by
  obtain ⟨C, D, e⟩ := h
  have hl : A.length + B.length ≤ (bitsOf b).length := by rw [bitsOf_len]; simpa using hn
  have e1 : ((bitsOf b ++ C).drop A.length).take B.length = ((bitsOf b).drop A.length).take B.length := by
    rw [List.drop_append_of_le_length (by omega), List.take_append_of_le_length (by rw [List.length_drop]; omega)]
  unfold cutB
  rw [← e1, e, hL]
  simp only [List.append_assoc]
  rw [List.drop_left, List.take_left]
/-- What is read: the number, or that it is cut off. -/
def Got (b : List Int) (X : List Bool) (n v p f : Int) : Prop := (X.length ≤ 8 * b.length ∧ v = n ∧ p = (X.length : Int) ∧ f = 0) ∨ (8 * b.length < X.length ∧ f = 2 ∧ ∃ p' : Nat, p = (p' : Int) ∧ p' ≤ 8 * b.length)
theorem take_pre {b : List Int} (hb : GB b) {L A B R : List Bool} (h : Pre b L) (hL : L = A ++ B ++ R) (w : Int) (hw' : hw w = B.length) (hA : A.length ≤ 8 * b.length) :
    ∃ v p f, Got b (A ++ B) (num B) v p f ∧ (f = 2 → v = 0) ∧ Ev (fun q => bits_Reader_Take.f q b (A.length : Int) 0 w) (v, p, f) := by
  have ht := take_ev b A.length 0 w hb.len hA hb.bd
  rw [hw'] at ht
  by_cases hn : (A ++ B).length ≤ 8 * b.length
  · have hn' : A.length + B.length ≤ 8 * b.length := by simpa using hn
    rw [takeR_ok hn', pre_cut h hL hn] at ht
    exact ⟨_, _, _, .inl ⟨hn, rfl, by rw [List.length_append], rfl⟩, (fun h => absurd h (by decide)), ht⟩
  · have e : takeR b A.length 0 B.length = (0, (A.length : Int), 2) := by
      unfold takeR
      rw [if_neg (by simp), if_pos (by simp at hn; omega)]
    rw [e] at ht
    exact ⟨_, _, _, .inr ⟨by omega, rfl, A.length, rfl, hA⟩, fun _ => rfl, ht⟩
theorem take_dead {b : List Int} (hb : GB b) {p : Nat} (hp : p ≤ 8 * b.length) (w : Int) : Ev (fun q => bits_Reader_Take.f q b (p : Int) 2 w) (0, (p : Int), 2) := by
  have ht := take_ev b p 2 w hb.len hp hb.bd
  have e : takeR b p 2 (hw w) = (0, (p : Int), 2) := by unfold takeR; rw [if_pos (by decide)]
  rw [e] at ht
  exact ht
theorem rtake_pre {b : List Int} (hb : GB b) {L : List Bool} (h : Pre b L) (n : Int) (hn : IsNear n) (k : Nat) (hk : k ≤ 30) (z : Nat) (hz : fold n / 2 ^ k = (z : Int)) : ∀ (d i : Nat) (A R : List Bool), i + d = z →
    L = A ++ (List.replicate d false ++ (true :: digs (fold n) k)) ++ R → A.length ≤ 8 * b.length →
    ∃ v p f, Got b (A ++ (List.replicate d false ++ (true :: digs (fold n) k))) n v p f ∧ Ev (fun q => rice_Take.l0 q (k : Int) (i : Int) b (A.length : Int) 0) (v, p, f) := by
  have hf := fold_near hn
  have hd := div_pow_bd (x := fold n) (s := k) hf.1
  intro d
  induction d with
  | zero =>
    intro i A R hi hL hA
    have hiz : i = z := by omega
    have e1 : L = A ++ [true] ++ (digs (fold n) k ++ R) := by rw [hL]; simp
    have e2 : L = (A ++ [true]) ++ digs (fold n) k ++ R := by rw [hL]; simp
    have e3 : A ++ [true] ++ digs (fold n) k = A ++ (List.replicate 0 false ++ (true :: digs (fold n) k)) := by simp
    obtain ⟨v1, p1, f1, g1, _, t1⟩ := take_pre hb h e1 1 (by decide) hA
    rcases g1 with ⟨g1, rfl, rfl, rfl⟩ | ⟨g1, rfl, p', rfl, hp'⟩
    · obtain ⟨v2, p2, f2, g2, _, t2⟩ := take_pre hb h e2 (k : Int) (by rw [hw_nat (by omega), digs_len]) g1
      rcases g2 with ⟨g2, rfl, rfl, rfl⟩ | ⟨g2, rfl, p', rfl, hp'⟩
      · rw [e3] at t2 g2
        refine ⟨n, _, 0, .inl ⟨g2, rfl, rfl, rfl⟩, ?_⟩
        have eu : Go.bits .or .u64 (shl .u64 (i : Int) (k : Int)) (num (digs (fold n) k)) = fold n := by
          have hb := num_bd (digs (fold n) k)
          rw [digs_len] at hb
          have hi34 : (i : Int) < 2 ^ 34 := by
            have e : (2 : Int) ^ 34 = 17179869184 := by decide
            rw [e]; omega
          rw [or_join (i : Int) (num (digs (fold n) k)) k 34 (by omega) hi34 (by omega) hb.1 hb.2, num_digs, hiz, ← hz]
          have := Int.mul_ediv_add_emod (fold n) (2 ^ k)
          rw [Int.mul_comm]; exact this
        refine succ ?_
        simp only [rice_Take.l0]
        refine bnd t1 ?_
        rw [fail_eq]
        simp only [Option.bind_some]
        refine pos (by first | trivial | rfl) (neg (by rw [num_one]; decide) (bnd t2 ?_))
        rw [fail_eq]
        simp only [Option.bind_some]
        refine pos (by first | trivial | rfl) (pos (by omega) ?_)
        rw [eu, unfold_eq _ ⟨hf.1, by omega⟩, unfold_fold]
        exact now _
      · rw [e3] at g2
        refine ⟨0, _, 2, .inr ⟨g2, rfl, p', rfl, hp'⟩, ?_⟩
        refine succ ?_
        simp only [rice_Take.l0]
        refine bnd t1 ?_
        rw [fail_eq]
        simp only [Option.bind_some]
        refine pos (by first | trivial | rfl) (neg (by rw [num_one]; decide) (bnd t2 ?_))
        rw [fail_eq]
        simp only [Option.bind_some]
        exact neg (by decide) (now _)
    · refine ⟨0, _, 2, .inr ⟨by simp at g1 ⊢; omega, rfl, p', rfl, hp'⟩, ?_⟩
      refine succ ?_
      simp only [rice_Take.l0]
      refine bnd t1 ?_
      rw [fail_eq]
      simp only [Option.bind_some]
      exact neg (by decide) (now _)
  | succ d ih =>
    intro i A R hi hL hA
    have e1 : L = A ++ [false] ++ ((List.replicate d false ++ (true :: digs (fold n) k)) ++ R) := by rw [hL]; simp [List.replicate_succ]
    have e2 : L = (A ++ [false]) ++ (List.replicate d false ++ (true :: digs (fold n) k)) ++ R := by rw [hL]; simp [List.replicate_succ]
    have e3 : A ++ (List.replicate (d + 1) false ++ (true :: digs (fold n) k)) = (A ++ [false]) ++ (List.replicate d false ++ (true :: digs (fold n) k)) := by simp [List.replicate_succ]
    obtain ⟨v1, p1, f1, g1, _, t1⟩ := take_pre hb h e1 1 (by decide) hA
    rcases g1 with ⟨g1, rfl, rfl, rfl⟩ | ⟨g1, rfl, p', rfl, hp'⟩
    · obtain ⟨v, p, f, g, t⟩ := ih (i + 1) (A ++ [false]) R (by omega) e2 g1
      refine ⟨v, p, f, by rw [e3]; exact g, ?_⟩
      have ew : IntKind.u64.wrap ((i : Int) + 1) = ((i + 1 : Nat) : Int) := by rw [u64_wrap]; omega
      refine succ ?_
      simp only [rice_Take.l0]
      refine bnd t1 ?_
      rw [fail_eq]
      simp only [Option.bind_some]
      refine pos (by first | trivial | rfl) (pos (by rw [num_one]; rfl) ?_)
      rw [ew]
      exact t
    · refine ⟨0, _, 2, .inr ⟨by simp at g1 ⊢; omega, rfl, p', rfl, hp'⟩, ?_⟩
      refine succ ?_
      simp only [rice_Take.l0]
      refine bnd t1 ?_
      rw [fail_eq]
      simp only [Option.bind_some]
      exact neg (by decide) (now _)
/-- A number's sign, out of its lowest bits. -/
theorem sext (n : Int) (K : Nat) (h2 : K ≤ 31) (hn : inn n K) : shr .i64 (shl .i64 (n % 2 ^ K) ((64 - K : Nat) : Int)) ((64 - K : Nat) : Int) = n := by
  obtain ⟨h1, h3, h4⟩ := hn
  obtain ⟨Q, hQ⟩ : ∃ Q : Int, (2 : Int) ^ (K - 1) = Q := ⟨_, rfl⟩
  obtain ⟨P, hP⟩ : ∃ P : Int, (2 : Int) ^ (64 - K) = P := ⟨_, rfl⟩
  have hQ0 : 0 < Q := by rw [← hQ]; exact pow2_pos _
  have hP0 : 0 < P := by rw [← hP]; exact pow2_pos _
  have e2 : (2 : Int) ^ K = 2 * Q := by
    obtain ⟨j, rfl⟩ : ∃ j, K = j + 1 := ⟨K - 1, by omega⟩
    rw [Int.pow_succ, Int.mul_comm, ← hQ]
    rfl
  have e64 : 2 * Q * P = 18446744073709551616 := by
    rw [← e2, ← hP, ← Int.pow_add, show K + (64 - K) = 64 by omega]
    decide
  have hQP : Q * P = 9223372036854775808 := by
    have : 2 * (Q * P) = 18446744073709551616 := by rw [← Int.mul_assoc]; exact e64
    omega
  rw [hQ] at h3 h4
  have b1 : n * P < Q * P := Int.mul_lt_mul_of_pos_right h4 hP0
  have b2 : -Q * P ≤ n * P := Int.mul_le_mul_of_nonneg_right h3 (Int.le_of_lt hP0)
  have e3 : -Q * P = -(Q * P) := Int.neg_mul Q P
  rw [shr_eq' _ (by omega)]
  have esh : ∀ x : Int, shl .i64 x ((64 - K : Nat) : Int) = wrap64 (x * P) := by
    intro x
    unfold shl
    rw [Int.toNat_natCast, show min (64 - K) IntKind.i64.bits = 64 - K by simp [IntKind.bits], hP]
    exact i64_w _
  rw [esh, hP, e2]
  have ew : wrap64 (n % (2 * Q) * P) = n * P := by
    have hm := Int.mul_ediv_add_emod n (2 * Q)
    have e5 : n % (2 * Q) * P = n * P + 18446744073709551616 * (-(n / (2 * Q))) := by
      have : n * P = (2 * Q * (n / (2 * Q)) + n % (2 * Q)) * P := by rw [hm]
      rw [this, ← e64]
      grind
    rw [e5, w64_add, w64 (by omega) (by omega)]
  rw [ew]
  exact Int.mul_ediv_cancel _ (by omega)
/-- How many bits tell a k. -/
def szR (w : Bool) : Int := if w then 5 else 4
/-- A number's bits, by a way. -/
def numB (q : S50) (n : Int) : List Bool := if q.f1 = true then digs (IntKind.u64.wrap n) (hw q.f0) else putB n (kk q.f0)
/-- A way's bits. -/
def headP (w : Bool) (q : S50) : List Bool := if q.f1 = true then digs 31 (hw (szR w)) ++ digs (IntKind.u64.wrap q.f0) (hw 5) else digs (IntKind.u64.wrap q.f0) (hw (szR w))
def partB (w : Bool) (q : S50) (xs : List Int) : List Bool := headP w q ++ xs.flatMap (numB q)
/-- A number that can be put by a way. -/
def OkN (q : S50) (y : Int) : Prop := if q.f1 = true then 0 ≤ q.f0 ∧ q.f0 ≤ 31 ∧ (y = 0 ∨ inn y q.f0.toNat) else IsNear y
theorem wrapmod (n : Int) (K : Nat) (hK : K ≤ 31) : IntKind.u64.wrap n % 2 ^ K = n % 2 ^ K := by
  rw [wrap_u64]
  have e : (18446744073709551616 : Int) = 2 ^ K * 2 ^ (64 - K) := by rw [← Int.pow_add, show K + (64 - K) = 64 by omega]; decide
  rw [e]
  exact Int.emod_emod_of_dvd n (Int.dvd_mul_right _ _)
theorem number_pre {b : List Int} (hb : GB b) {L A R : List Bool} (h : Pre b L) (q : S50) (y : Int) (hq : OkN q y) (hL : L = A ++ numB q y ++ R) (hA : A.length ≤ 8 * b.length) :
    ∃ v p f, Got b (A ++ numB q y) y v p f ∧ Ev (fun k => section_number.f k b (A.length : Int) 0 q.f0 q.f1) (v, p, f) := by
  unfold numB at hL ⊢
  unfold OkN at hq
  unfold section_number.f
  by_cases hr : q.f1 = true
  · rw [if_pos hr] at hL hq ⊢
    obtain ⟨h0, h1, h2⟩ := hq
    obtain ⟨K, hK⟩ : ∃ K : Nat, q.f0 = (K : Int) := ⟨q.f0.toNat, by omega⟩
    rw [hK] at hL h0 h1 h2 ⊢
    rw [Int.toNat_natCast] at h2
    have hK31 : K ≤ 31 := by omega
    rw [hw_nat (by omega)] at hL ⊢
    by_cases hK0 : K = 0
    · subst hK0
      have hy : y = 0 := h2.resolve_right (fun h => by have := h.1; omega)
      refine ⟨0, (A.length : Int), 0, .inl ⟨by simpa [digs] using hA, hy.symm, by simp [digs], rfl⟩, ?_⟩
      refine pos hr (bnd (a := (0, (A.length : Int), 0)) ?_ (now _))
      unfold section_raw.f
      exact pos rfl (now _)
    · have hi : inn y K := by
        rcases h2 with rfl | h2
        · have := pow2_pos (K - 1)
          exact ⟨by omega, by omega, by omega⟩
        · exact h2
      obtain ⟨v1, p1, f1, g1, z1, t1⟩ := take_pre hb h hL (K : Int) (by rw [hw_nat (by omega), digs_len]) hA
      have e64 : wrap64 (64 - (K : Int)) = ((64 - K : Nat) : Int) := by rw [w64 (by omega) (by omega)]; omega
      have key : Ev (fun k => section_raw.f k b (A.length : Int) 0 (K : Int)) (shr .i64 (shl .i64 (wrap64 v1) ((64 - K : Nat) : Int)) ((64 - K : Nat) : Int), p1, f1) := by
        unfold section_raw.f
        refine neg (by omega) (bnd t1 ?_)
        rw [e64]
        exact pos (by omega) (now _)
      refine ⟨_, _, _, ?_, pos hr (bnd key (now _))⟩
      rcases g1 with ⟨g1, rfl, rfl, rfl⟩ | ⟨g1, rfl, p', rfl, hp'⟩
      · refine .inl ⟨g1, ?_, rfl, rfl⟩
        have hbn := num_bd (digs (IntKind.u64.wrap y) K)
        rw [digs_len] at hbn
        have h31 : (2 : Int) ^ K ≤ 2147483648 := by
          have : (2 : Nat) ^ K ≤ 2 ^ 31 := Nat.pow_le_pow_right (by decide) hK31
          have h := Int.ofNat_le.2 this
          simpa using h
        rw [w64 (by omega) (by omega), num_digs, wrapmod _ _ hK31]
        exact sext y K hK31 hi
      · exact .inr ⟨g1, rfl, p', rfl, hp'⟩
  · rw [if_neg hr] at hL hq ⊢
    have hf := fold_near hq
    have hd := div_pow_bd (x := fold y) (s := kk q.f0) hf.1
    obtain ⟨v, p, f, g, t⟩ := rtake_pre hb h y hq (kk q.f0) (kk_le _) (fold y / 2 ^ kk q.f0).toNat (Int.toNat_of_nonneg hd.1).symm (fold y / 2 ^ kk q.f0).toNat 0 A R (by omega) hL hA
    refine ⟨v, p, f, g, neg hr (bnd (a := (v, p, f)) ?_ (now _))⟩
    unfold rice_Take.f rice_held.f
    rw [kk_eq]
    simp only [Option.bind_some]
    exact t
theorem number_dead {b : List Int} (hb : GB b) {p : Nat} (hp : p ≤ 8 * b.length) (r : Bool) : ∃ v, Ev (fun k => section_number.f k b (p : Int) 2 0 r) (v, (p : Int), 2) := by
  unfold section_number.f
  cases r
  · refine ⟨0, neg (by decide) (bnd (a := (0, (p : Int), 2)) ?_ (now _))⟩
    unfold rice_Take.f rice_held.f
    rw [kk_eq]
    simp only [Option.bind_some]
    refine succ ?_
    simp only [rice_Take.l0]
    refine bnd (take_dead hb hp 1) ?_
    rw [fail_eq]
    simp only [Option.bind_some]
    exact neg (by decide) (now _)
  · refine ⟨0, pos rfl (bnd (a := (0, (p : Int), 2)) ?_ (now _))⟩
    unfold section_raw.f
    exact pos rfl (now _)
/-- A section's first bits. -/
def headW (wd : Bool) (o : Int) : List Bool := digs (if wd then 1 else 0) (hw 2) ++ digs (IntKind.u64.wrap o) (hw 4)
/-- A way that can be put. -/
def OkP (w : Bool) (q : S50) : Prop := 0 ≤ q.f0 ∧ if q.f1 = true then q.f0 ≤ 31 else q.f0 ≤ (mostOf w : Int)
/-- A part that can be put and is no empty one. -/
structure OkR (w : Bool) (r : S50 × List Int) : Prop where
  ne : r.2 ≠ []
  way : OkP w r.1
  num : ∀ y ∈ r.2, OkN r.1 y
theorem size15 (w : Bool) : section_size.f w = some (szR w) := by cases w <;> rfl
theorem szR_hw (w : Bool) : hw (szR w) = if w then 5 else 4 := by cases w <;> rfl
theorem part_pre {b : List Int} (hb : GB b) {L A R : List Bool} (h : Pre b L) (w : Bool) (q : S50) (hq : OkP w q) (hL : L = A ++ headP w q ++ R) (hA : A.length ≤ 8 * b.length) :
    ∃ v r p f, ((A ++ headP w q).length ≤ 8 * b.length ∧ v = q.f0 ∧ r = q.f1 ∧ p = ((A ++ headP w q).length : Int) ∧ f = 0 ∨ 8 * b.length < (A ++ headP w q).length ∧ v = 0 ∧ f = 2 ∧ ∃ p' : Nat, p = (p' : Int) ∧ p' ≤ 8 * b.length) ∧
      Ev (fun k => section_part.f k b (A.length : Int) 0 w) (v, r, p, f) := by
  unfold headP at hL ⊢
  obtain ⟨h0, h1⟩ := hq
  unfold section_part.f
  rw [size15]
  simp only [Option.bind_some]
  have hs0 : 0 ≤ szR w := by cases w <;> decide
  by_cases hr : q.f1 = true
  · rw [if_pos hr] at hL h1 ⊢
    have e1 : L = A ++ digs 31 (hw (szR w)) ++ (digs (IntKind.u64.wrap q.f0) (hw 5) ++ R) := by rw [hL]; simp
    have e2 : L = (A ++ digs 31 (hw (szR w))) ++ digs (IntKind.u64.wrap q.f0) (hw 5) ++ R := by rw [hL]; simp
    obtain ⟨v1, p1, f1, g1, z1, t1⟩ := take_pre hb h e1 (szR w) (by rw [digs_len]) hA
    rcases g1 with ⟨g1, rfl, rfl, rfl⟩ | ⟨g1, rfl, p', rfl, hp'⟩
    · obtain ⟨v2, p2, f2, g2, z2, t2⟩ := take_pre hb h e2 5 (by rw [digs_len]) g1
      have hall : wrap64 (num (digs 31 (hw (szR w)))) = wrap64 (shl .i64 1 (szR w) - 1) := by cases w <;> decide +kernel
      rcases g2 with ⟨g2, rfl, rfl, rfl⟩ | ⟨g2, rfl, p', rfl, hp'⟩
      · refine ⟨_, true, _, _, .inl ⟨by simpa using g2, ?_, hr.symm, by simp, rfl⟩, bnd t1 (pos hs0 (pos hall (bnd t2 (now _))))⟩
        have e5 : hw 5 = 5 := rfl
        rw [e5, num_digs, wrapmod _ 5 (by decide), show (2 : Int) ^ 5 = 32 by decide, w64 (by omega) (by omega)]
        omega
      · refine ⟨_, true, _, _, .inr ⟨by simpa using g2, ?_, rfl, p', rfl, hp'⟩, bnd t1 (pos hs0 (pos hall (bnd t2 (now _))))⟩
        rw [z2 rfl]; exact w64 (x := 0) (by decide) (by decide)
    · have h0' : ¬ wrap64 v1 = wrap64 (shl .i64 1 (szR w) - 1) := by rw [z1 rfl]; cases w <;> decide +kernel
      refine ⟨_, false, _, _, .inr ⟨by simp at g1 ⊢; omega, ?_, rfl, p', rfl, hp'⟩, bnd t1 (pos hs0 (neg h0' (now _)))⟩
      rw [z1 rfl]; exact w64 (x := 0) (by decide) (by decide)
  · rw [if_neg hr] at hL h1 ⊢
    obtain ⟨v1, p1, f1, g1, z1, t1⟩ := take_pre hb h hL (szR w) (by rw [digs_len]) hA
    have hf : q.f1 = false := by cases hh : q.f1 <;> simp_all
    rcases g1 with ⟨g1, rfl, rfl, rfl⟩ | ⟨g1, rfl, p', rfl, hp'⟩
    · have hv : wrap64 (num (digs (IntKind.u64.wrap q.f0) (hw (szR w)))) = q.f0 := by
        rw [num_digs, szR_hw, wrapmod _ _ (by cases w <;> decide)]
        cases w
        · have h1 : q.f0 ≤ 14 := h1
          simp only [Bool.false_eq_true, if_false]
          rw [show (2 : Int) ^ 4 = 16 by decide, w64 (by omega) (by omega)]; omega
        · have h1 : q.f0 ≤ 30 := h1
          simp only [if_true]
          rw [show (2 : Int) ^ 5 = 32 by decide, w64 (by omega) (by omega)]; omega
      have hne : ¬ q.f0 = wrap64 (shl .i64 1 (szR w) - 1) := by
        cases w
        · have h1 : q.f0 ≤ 14 := h1
          have e : wrap64 (shl .i64 1 (szR false) - 1) = 15 := by decide +kernel
          rw [e]; omega
        · have h1 : q.f0 ≤ 30 := h1
          have e : wrap64 (shl .i64 1 (szR true) - 1) = 31 := by decide +kernel
          rw [e]; omega
      refine ⟨q.f0, false, _, _, .inl ⟨g1, rfl, hf.symm, rfl, rfl⟩, bnd t1 ?_⟩
      simp only [hv]
      exact pos hs0 (neg hne (now _))
    · have h0' : ¬ wrap64 v1 = wrap64 (shl .i64 1 (szR w) - 1) := by rw [z1 rfl]; cases w <;> decide +kernel
      refine ⟨_, false, _, _, .inr ⟨g1, ?_, rfl, p', rfl, hp'⟩, bnd t1 (pos hs0 (neg h0' (now _)))⟩
      rw [z1 rfl]; exact w64 (x := 0) (by decide) (by decide)
end Go.Proofs.Ytokdjeoecnnckaa.PL
end
